/- Filters: their texts, the document's answer. -/
import Derived.Test.YtgfggbndbceppaaGreatDoorLxW
import Derived.Test.YtgfggbndbceppaaGreatDoorLxQ
import Derived.Test.YtgfggbndbceppaaGreatDoorLxS
import Derived.Test.YtgfggbndbceppaaGreatDoorLxT
import Derived.Test.YtgfggbndbceppaaGreatDoorLxU
import Derived.Test.YtgfggbndbceppaaGreatDoorLxV
import Derived.Test.YtgfggbndbceppaaGreatDoorLxO
import Derived.Shelf.Strings.Builder1
import Derived.Shelf.Strings.Builder2
import Derived.Shelf.Strings.Trim
import Derived.Shelf.Small.Utf8
import Derived.Shelf.Small.Strs
import Derived.Shelf.Small.Wraps
import Derived.Shelf.Strings.BuilderF
import Derived.Shelf.Strconv.Atoi
import Derived.Shelf.Strconv.Itoa0
import Derived.Shelf.Strconv.Itoa1
import Derived.Shelf.LaysM
import Derived.Shelf.Strconv.Itoa2
import Derived.Shelf.Strconv.Itoa3
import Derived.Shelf.Strconv.Itoa4
import Derived.Shelf.Strconv.AtoiErrFast
import Derived.Shelf.Strconv.ParseIntEmpty
import Derived.Shelf.Strconv.AtoiFail
import Derived.Shelf.Strconv.Clone
import Derived.Shelf.Strconv.SyntaxError
import Derived.Shelf.LaysC
import Derived.Shelf.Strconv.ToError
import Derived.Shelf.Strconv.Lower
import Derived.Shelf.Strconv.ParseUint10
import Derived.Shelf.Strconv.ParseUint10Empty
import Derived.Shelf.Strconv.ParseUint10Any
import Derived.Shelf.Strconv.ParseInt10
import Derived.Shelf.Strconv.AtoiLong
import Derived.Shelf.Strconv.AtoiInnerAll
import Derived.Shelf.Strconv.RangeError
import Derived.Shelf.Strconv.ToErrorRange
import Derived.Shelf.Strconv.AtoiAll
import Derived.Shelf.Strconv.ErrVarAll
import Derived.Shelf.Strconv.ParseUintEmpty
import Derived.Shelf.Strings.Search1
import Derived.Shelf.GgClosure.StringsIndexFunc
import Derived.Shelf.GgClosure.StringsTrimFunc
import Derived.Shelf.Strings.Prefix
import Derived.Shelf.Unicode.Decode
import Derived.Shelf.Strings.Runes
import Derived.Shelf.Strings.IndexAny
import Derived.Shelf.Strings.AsciiSet
import Derived.Shelf.Strings.IndexAnyAll
import Derived.Shelf.Bits.Mul64
import Derived.Shelf.Strings.Repeat
import Derived.Shelf.Unicode.DecodeSlow
import Derived.Shelf.Unicode.DecodeAny
import Derived.Shelf.Unicode.DecodeLast
import Derived.Shelf.Strings.FuncGrows
import Derived.Ground.Names2Prog
import Derived.Shelf.Slices.SearchI
import Derived.Test.YtgfggbndbceppaaGreatDoorProg
set_option linter.unusedSimpArgs false
set_option linter.unusedVariables false
set_option linter.unusedSectionVars false
set_option linter.unnecessarySimpa false
set_option maxRecDepth 100000
set_option maxHeartbeats 2000000
namespace Go.LX
open Go Go.RowKit Go.Proofs
attribute [local irreducible] Al SWP Bi
theorem Jwo:∀ {f:RF} {p:RKT},Jsz f→p∈f.list→p.1.length≤100∧fitQ p.2
 | .nil,p,_,h=>by simp [RF.list] at h
 | .cons nm t r,p,hf,h=>by
  rw [Jsz] at hf;rcases List.mem_cons.1 h with rfl | h
  ·exact ⟨hf.1,hf.2.1⟩
  ·exact Jwo hf.2.2 h
theorem Jvg:∀ {f:RF} {p:RKT},p∈f.list→(p.2.enc p.1).length≤f.enc.length
 | .nil,p,h=>by simp [RF.list] at h
 | .cons nm t r,p,h=>by
  rw [Jqe,List.length_append];rcases List.mem_cons.1 h with rfl | h
  ·simp only;omega
  ·have:=Jvg h;omega
theorem J8g (s:List UInt8):Hy [⟨false,s,0⟩]=46 :: nmT s:=by
 unfold Hy Br nmT;simp only [List.flatMap_cons,List.flatMap_nil,List.append_nil,Bv,Bool.false_eq_true,if_false];split <;> rfl
theorem J29 {c:Node} (h:Jqr c) (hk:c.kind=3):c.small:=by
 have h2:=h.2.2;unfold G3 at h2;rw [if_neg omg,if_pos hk] at h2;obtain ⟨_,_,a1,a2,a3,a4,_⟩:=h2;exact ⟨by omega,by omega,by omega⟩
theorem Kaz {c:Node} (h:Jqr c) (hk:c.kind=4):valid c.s=true:=by
 have h2:=h.2.2;unfold G3 at h2;rw [if_neg omg,if_neg omg,if_pos hk] at h2;exact h2.1
theorem Juk {c:Node} (h:Jqr c):c.kind=0∨c.kind=1∨c.kind=2∨c.kind=3∨c.kind=4:=by
 have h2:=h.2.2;have h1:=h.1;unfold G3 at h2;by_cases a:c.kind=0∨c.kind=1∨c.kind=2
 ·omega
 rw [if_neg a] at h2;by_cases b:c.kind=3
 ·omega
 rw [if_neg b] at h2;by_cases d:c.kind=4
 ·omega
 rw [if_neg d,if_neg omg] at h2;exact h2.elim
end Go.LX
namespace Go.LX
open Go
theorem Jv8 {P:UInt8→Bool} {a b x y:List UInt8} (ha:∀ c∈a,P c=true) (hb:∀ c∈b,P c=true) (hx:∀ c,x.head? = some c→P c=false) (hy:∀ c,y.head? = some c→P c=false) (h:a ++ x=b ++ y):a=b∧x=y:=by
 have tw:∀ (a x:List UInt8),(∀ c∈a,P c=true)→(∀ c,x.head? = some c→P c=false)→(a ++ x).takeWhile P=a:=by
  intro a x ha hx;rw [List.takeWhile_append_of_pos ha];cases x with
  | nil=>simp
  | cons c x=>simp [List.takeWhile_cons,hx c rfl]
 have h1:=tw a x ha hx;have h2:=tw b y hb hy;rw [h,h2] at h1;subst h1;exact ⟨rfl,List.append_cancel_left h⟩
theorem J9y:∀ (n m k:Nat),m≤n→Lib.decDigits m=Lib.decDigits k→m=k:=by
 intro n
 induction n with
 | zero =>
  intro m k hm h;have:m=0:=by omega
  subst this;rw [Fv 0,Fv k,if_pos omg] at h;split at h
  ·injection h with h _
   have:=congrArg UInt8.toNat h;rw [Qj omg,Qj omg] at this;omega
  ·have:=congrArg List.length h;have hn:=U6 (k / 10);simp at this;exact absurd this hn
 | succ n ih =>
  intro m k hm h;rw [Fv m,Fv k] at h;split at h <;> split at h
  ·injection h with h _
   have:=congrArg UInt8.toNat h;rw [Qj omg,Qj omg] at this;omega
  ·have:=congrArg List.length h;have hn:=U6 (k / 10);simp at this;exact absurd this hn
  ·have:=congrArg List.length h;have hn:=U6 (m / 10);simp at this;exact absurd this hn
  ·obtain ⟨h1,h2⟩:=List.append_inj' h rfl;injection h2 with h2 _
   have h2:=congrArg UInt8.toNat h2;rw [Qj (Nat.mod_lt _ omg),Qj (Nat.mod_lt _ omg)] at h2;have:=ih (m / 10) (k / 10) omg h1;omega
theorem Kcg {a b:Int} (h:Lib.itoa a=Lib.itoa b):a=b:=by
 have hd:∀ n,45 ∉ Lib.decDigits n:=fun n hc=>by
  have:=Jmj n 45 hc;unfold isDg at this;simp at this
 unfold Lib.itoa at h;split at h <;> split at h
 ·injection h with _ h
  have:=J9y _ _ _ (Nat.le_refl _) h;omega
 ·have:=hd b.toNat;rw [← h] at this;simp at this
 ·have:=hd a.toNat;rw [h] at this;simp at this
 ·have:=J9y _ _ _ (Nat.le_refl _) h;omega
def Jvf (c:UInt8):Bool:=decide (48≤c.toNat) && decide (c.toNat≤57)
theorem J3e {s:List UInt8} (h:Pk s=true):∀ c∈s,Jvf c=true:=by
 intro c hc;have:=List.all_eq_true.1 h c hc;exact this
theorem J0b (k:Nat):∀ c∈Lib.repeatL [48] k,Jvf c=true:=by
 intro c hc;have:Lib.repeatL [48] k=List.replicate k 48:=by
  have:=Lib.repeatL_replicate 48 1 k;simpa using this
 rw [this] at hc;rw [(List.mem_replicate.1 hc).2];rfl
def Jti (n:Node):List UInt8 :=
 if n.s.length=0 then [48] else if 0≤n.e∧(n.s.length:Int)+n.e≤20 then n.s ++ Lib.repeatL [48] n.e.toNat else
 if n.e<0∧-20≤n.e then (Lib.repeatL [48] (1 - n.e - n.s.length).toNat ++ n.s).take (((Lib.repeatL [48] (1 - n.e - n.s.length).toNat ++ n.s).length:Int)+n.e).toNat else n.s
def Jtb (n:Node):List UInt8 :=
 if n.s.length=0 then [] else if 0≤n.e∧(n.s.length:Int)+n.e≤20 then [] else
 if n.e<0∧-20≤n.e then 46 :: (Lib.repeatL [48] (1 - n.e - n.s.length).toNat ++ n.s).drop (((Lib.repeatL [48] (1 - n.e - n.s.length).toNat ++ n.s).length:Int)+n.e).toNat else 101 :: Lib.itoa n.e
theorem Jtf {n:Node} (h:Yz n.s n.neg n.e):Jq8 n=Jrg n ++ (Jti n ++ Jtb n):=by
 have hz:n.s.length=0→Jrg n=[]:=fun h0=>by
  have:=h.2.2.2.2.2;rw [if_pos (List.eq_nil_of_length_eq_zero h0)] at this;unfold Jrg;rw [this.1];rfl
 unfold Jq8 Jti Jtb;split
 ·rename_i h0;rw [hz h0];rfl
 ·split
  ·simp
  ·split
   ·simp
   ·simp
theorem Juq {n:Node} (h:Yz n.s n.neg n.e):∀ c∈Jti n,Jvf c=true:=by
 have hs:=J3e h.1;intro c hc;unfold Jti at hc;split at hc
 ·rw [List.mem_singleton.1 hc];rfl
 ·split at hc
  ·rcases List.mem_append.1 hc with hc | hc
   ·exact hs c hc
   ·exact J0b _ c hc
  ·split at hc
   ·rcases List.mem_append.1 (List.mem_of_mem_take hc) with hc | hc
    ·exact J0b _ c hc
    ·exact hs c hc
   ·exact hs c hc
theorem J6m {n:Node} (h:Yz n.s n.neg n.e):Jti n≠[]:=by
 unfold Jti;split
 ·simp
 ·rename_i h0;split
  ·intro e;have:=congrArg List.length e;simp at this;exact h0 (by rw [this.1];rfl)
  ·split
   ·intro e;have:=congrArg List.length e;rw [List.length_take,List.length_append,Jsu] at this;simp only [List.length_nil] at this;omega
   ·intro e;rw [e] at h0;exact h0 rfl
theorem J36 {n:Node}:∀ c,(Jtb n).head? = some c→c=46∨c=101:=by
 intro c hc;unfold Jtb at hc
 repeat' split at hc
 all_goals simp at hc
 ·exact .inl hc.symm
 ·exact .inr hc.symm
theorem repZ (k:Nat):Lib.repeatL [48] k=List.replicate k 48:=by
 have:=Lib.repeatL_replicate 48 1 k;simpa using this
theorem Jxc (k:Nat) (s:List UInt8):Jqt (Lib.repeatL [48] k ++ s)=Jqt s:=by
 rw [repZ]
 induction k with
 | zero=>rfl
 | succ k ih=>rw [List.replicate_succ,List.cons_append];exact (by simpa [Jqt] using ih)
theorem J0x (k:Nat) (s:List UInt8):Jqz (s ++ Lib.repeatL [48] k)=Jqz s:=by
 have h:∀ u,Jqz u=(Jqt u.reverse).reverse:=fun _=>rfl
 rw [h,h,List.reverse_append,repZ,List.reverse_replicate,← repZ,Jxc]
theorem Kek {n m:Node} (hn:Yz n.s n.neg n.e) (hm:Yz m.s m.neg m.e) (h:Jti n=Jti m) (ht:Jtb n=Jtb m):n.s=m.s∧n.e=m.e:=by
 have en:=hn.2.2.2.2.2;have em:=hm.2.2.2.2.2;have hpos:∀ {s:List UInt8},¬ s.length=0→0<s.length:=fun h=>by omega
 have hne:∀ {s:List UInt8},¬ s.length=0→¬ s=[]:=fun h e=>h (by rw [e];rfl)
 by_cases n0:n.s.length=0
 ·have e1:=List.eq_nil_of_length_eq_zero n0;rw [if_pos e1] at en;by_cases m0:m.s.length=0
  ·have e2:=List.eq_nil_of_length_eq_zero m0;rw [if_pos e2] at em;exact ⟨by rw [e1,e2],by rw [en.2,em.2]⟩
  ·exfalso;rw [if_neg (hne m0)] at em;unfold Jti at h;unfold Jtb at ht;rw [if_pos n0,if_neg m0] at h ht;split at ht
   ·rename_i hc;rw [if_pos hc] at h;obtain ⟨c,r,e⟩:=List.exists_cons_of_ne_nil (hne m0);rw [e,List.cons_append] at h;injection h with h _
    apply em.1;rw [e,Jws,← h];rfl
   ·split at ht <;> cases ht
 ·rw [if_neg (hne n0)] at en;by_cases m0:m.s.length=0
  ·exfalso;unfold Jti at h;unfold Jtb at ht;rw [if_pos m0,if_neg n0] at h ht;split at ht
   ·rename_i hc;rw [if_pos hc] at h;obtain ⟨c,r,e⟩:=List.exists_cons_of_ne_nil (hne n0);rw [e,List.cons_append] at h;injection h with h _
    apply en.1;rw [e,Jws,h];rfl
   ·split at ht <;> cases ht
  ·rw [if_neg (hne m0)] at em;unfold Jti at h;unfold Jtb at ht;rw [if_neg m0,if_neg n0] at h ht;by_cases n1:0≤n.e∧(n.s.length:Int)+n.e≤20
   ·rw [if_pos n1] at h ht;by_cases m1:0≤m.e∧(m.s.length:Int)+m.e≤20
    ·rw [if_pos m1] at h;have h1:=congrArg Jqz h;rw [J0x,J0x,Jtz (hpos n0) en.2,Jtz (hpos m0) em.2] at h1;have h2:=congrArg List.length h;rw [List.length_append,List.length_append,Jsu,Jsu,h1] at h2;exact ⟨h1,by omega⟩
    ·rw [if_neg m1] at ht;split at ht <;> cases ht
   ·rw [if_neg n1] at h ht;by_cases m1:0≤m.e∧(m.s.length:Int)+m.e≤20
    ·rw [if_pos m1] at ht;split at ht <;> cases ht
    ·rw [if_neg m1] at h ht;by_cases n2:n.e<0∧-20≤n.e
     ·rw [if_pos n2] at h ht;by_cases m2:m.e<0∧-20≤m.e
      ·rw [if_pos m2] at h ht;injection ht with _ ht
       have hq:=congr (congrArg HAppend.hAppend h) ht;rw [List.take_append_drop,List.take_append_drop] at hq;have h1:=congrArg Jqt hq;rw [Jxc,Jxc,Jv5 en.1,Jv5 em.1] at h1;have h2:=congrArg List.length ht;have h3:=congrArg List.length hq;rw [List.length_drop,List.length_drop] at h2;rw [List.length_append,List.length_append,Jsu,Jsu] at h3;rw [List.length_append,List.length_append,Jsu,Jsu] at h2;exact ⟨h1,by omega⟩
      ·rw [if_neg m2] at ht;injection ht with ht _
       cases ht
     ·rw [if_neg n2] at h ht;by_cases m2:m.e<0∧-20≤m.e
      ·rw [if_pos m2] at ht;injection ht with ht _
       cases ht
      ·rw [if_neg m2] at h ht;injection ht with _ ht
       exact ⟨h,Kcg ht⟩
def Ends (x:List UInt8):Prop:=∀ c,x.head? = some c→c=41∨c=44∨c=93∨c=125
def Jy5 (c:UInt8):Bool:=Jvf c || (c == 45 || (c == 46 || c == 101))
theorem Ju6 {c:UInt8} (h:Jvf c=true):Jy5 c=true:=by unfold Jy5;rw [h];rfl
theorem Kbu (a:Int):∀ c∈Lib.itoa a,Jy5 c=true:=by
 have hd:∀ n,∀ c∈Lib.decDigits n,Jy5 c=true:=fun n c hc=>by
  have:=Jmj n c hc;unfold isDg at this;refine Ju6 ?_;unfold Jvf;simp only [Bool.and_eq_true,decide_eq_true_eq];exact this
 intro c hc;unfold Lib.itoa at hc;split at hc
 ·rcases List.mem_cons.1 hc with rfl | hc
  ·rfl
  ·exact hd _ c hc
 ·exact hd _ c hc
theorem Jxj {n:Node} (h:Yz n.s n.neg n.e):∀ c∈Jq8 n,Jy5 c=true:=by
 rw [Jtf h];intro c hc;rcases List.mem_append.1 hc with hc | hc
 ·unfold Jrg at hc;split at hc
  ·rw [List.mem_singleton.1 hc];rfl
  ·cases hc
 ·rcases List.mem_append.1 hc with hc | hc
  ·exact Ju6 (Juq h c hc)
  ·unfold Jtb at hc;split at hc
   ·cases hc
   ·split at hc
    ·cases hc
    ·split at hc
     ·rcases List.mem_cons.1 hc with rfl | hc
      ·rfl
      ·rcases List.mem_append.1 (List.mem_of_mem_drop hc) with hc | hc
       ·exact Ju6 (J0b _ c hc)
       ·exact Ju6 (J3e h.1 c hc)
     ·rcases List.mem_cons.1 hc with rfl | hc
      ·rfl
      ·exact Kbu _ c hc
theorem Jtj {n:Node} (h:Yz n.s n.neg n.e):∃ c r,Jq8 n=c :: r∧(c=45∨Jvf c=true)∧(c=45 ↔ n.neg=true):=by
 rw [Jtf h];obtain ⟨c,r,e⟩:=List.exists_cons_of_ne_nil (J6m h);have hc:=Juq h c (by rw [e];exact List.mem_cons_self);unfold Jrg;by_cases hg:n.neg=true
 ·rw [if_pos hg];exact ⟨45,_,rfl,.inl rfl,by simp [hg]⟩
 ·rw [if_neg hg,e];refine ⟨c,_,rfl,.inr hc,⟨fun h45=>?_,fun h=>absurd h hg⟩⟩;subst h45;cases hc
theorem J44 {n m:Node} (hn:Yz n.s n.neg n.e) (hm:Yz m.s m.neg m.e) (h:Jq8 n=Jq8 m):n.s=m.s∧n.neg=m.neg∧n.e=m.e:=by
 obtain ⟨c,r,e1,_,g1⟩:=Jtj hn;obtain ⟨d,q,e2,_,g2⟩:=Jtj hm;have hcd:c=d:=by rw [e1,e2] at h;injection h
 have hneg:n.neg=m.neg:=by
  rw [Bool.eq_iff_iff,← g1,← g2,hcd]
 have hsg:Jrg n=Jrg m:=by unfold Jrg;rw [hneg]
 rw [Jtf hn,Jtf hm,hsg] at h;have h:=List.append_cancel_left h;have hx:∀ (n:Node),∀ c,(Jtb n).head? = some c→Jvf c=false:=fun n c hc=>by
  rcases J36 c hc with rfl | rfl <;> rfl
 obtain ⟨h1,h2⟩:=Jv8 (P:=Jvf) (Juq hn) (Juq hm) (hx n) (hx m) h;obtain ⟨h3,h4⟩:=Kek hn hm h1 h2;exact ⟨h3,hneg,h4⟩
def clsS (c:UInt8):Int:=if c=110 then 0 else if c=102 then 1 else if c=116 then 2 else if c=34 then 4 else 3
theorem J07 {c:Node} (h:Jqr c):∃ a r,Jrz c=a :: r∧clsS a=c.kind:=by
 obtain ⟨h1,h2,h3⟩:=h;unfold G3 at h3;unfold Jrz;by_cases k0:c.kind=0
 ·rw [if_pos k0,k0];exact ⟨_,_,rfl,by decide⟩
 ·rw [if_neg k0];by_cases k1:c.kind=1
  ·rw [if_pos k1,k1];exact ⟨_,_,rfl,by decide⟩
  ·rw [if_neg k1];by_cases k2:c.kind=2
   ·rw [if_pos k2,k2];exact ⟨_,_,rfl,by decide⟩
   ·rw [if_neg k2];rw [if_neg omg] at h3;by_cases k3:c.kind=3
    ·rw [if_pos k3];rw [if_pos k3] at h3;obtain ⟨a,r,e,ha,_⟩:=Jtj h3.2;refine ⟨a,r,e,?_⟩;rw [k3];unfold clsS;have hn:∀ b:UInt8,Jy5 b=false→a≠b:=by
      rintro b hb rfl;rcases ha with rfl | ha
      ·cases hb
      ·rw [Ju6 ha] at hb;cases hb
     rw [if_neg (hn _ rfl),if_neg (hn _ rfl),if_neg (hn _ rfl),if_neg (hn _ rfl)]
    ·rw [if_neg k3];rw [if_neg k3] at h3;by_cases k4:c.kind=4
     ·rw [k4];exact ⟨_,_,rfl,by decide⟩
     ·rw [if_neg k4,if_neg omg] at h3;exact h3.elim
theorem J5r {x:List UInt8} (h:Ends x):∀ c,x.head? = some c→Jy5 c=false:=fun c hc=>by
 rcases h c hc with rfl | rfl | rfl | rfl <;> rfl
theorem J28 {s t x y:List UInt8} (hs:valid s=true) (ht:valid t=true) (h:refQ s ++ x=refQ t ++ y):s=t∧x=y:=by
 have h1:=Jow hs x;have h2:=Jow ht y;rw [h,h2] at h1;have e:t=s:=congrArg Prod.fst h1;subst e;exact ⟨rfl,List.append_cancel_left h⟩
theorem J4a {a b:Node} (h1:a.kind=b.kind) (h2:a.many=b.many) (h3:a.name=b.name) (h4:a.s=b.s) (h5:a.neg=b.neg) (h6:a.e=b.e):a=b:=by
 cases a;cases b;simp_all
theorem Kch {a b:Node} (ha:Jqr a) (hb:Jqr b) {x y:List UInt8} (hx:Ends x) (hy:Ends y) (h:Jrz a ++ x=Jrz b ++ y):a=b∧x=y:=by
 obtain ⟨c,r,e1,g1⟩:=J07 ha;obtain ⟨d,q,e2,g2⟩:=J07 hb;have hk:a.kind=b.kind:=by
  rw [e1,e2] at h;injection h with h _
  rw [← g1,← g2,h]
 obtain ⟨a1,a2,a3⟩:=ha;obtain ⟨b1,b2,b3⟩:=hb;have hn:a.name=b.name:=by rw [a2,b2]
 unfold G3 at a3 b3;rw [← hk] at b3;by_cases k0:a.kind=0∨a.kind=1∨a.kind=2
 ·rw [if_pos k0] at a3 b3;have e:a=b:=J4a hk (by rw [a3.1,b3.1]) hn (by rw [a3.2.1,b3.2.1]) (by rw [a3.2.2.1,b3.2.2.1]) (by rw [a3.2.2.2,b3.2.2.2]);subst e;exact ⟨rfl,List.append_cancel_left h⟩
 ·rw [if_neg k0] at a3 b3;by_cases k3:a.kind=3
  ·rw [if_pos k3] at a3 b3;unfold Jrz at h;rw [if_neg omg,if_neg omg,if_neg omg,if_pos k3,if_neg omg,if_neg omg,if_neg omg,if_pos omg] at h;obtain ⟨h1,h2⟩:=Jv8 (P:=Jy5) (Jxj a3.2) (Jxj b3.2) (J5r hx) (J5r hy) h;obtain ⟨h3,h4,h5⟩:=J44 a3.2 b3.2 h1;exact ⟨J4a hk (by rw [a3.1,b3.1]) hn h3 h4 h5,h2⟩
  ·rw [if_neg k3] at a3 b3;by_cases k4:a.kind=4
   ·rw [if_pos k4] at a3 b3;unfold Jrz at h;rw [if_neg omg,if_neg omg,if_neg omg,if_neg k3,if_neg omg,if_neg omg,if_neg omg,if_neg omg] at h;obtain ⟨h1,h2⟩:=J28 a3.1 b3.1 h;exact ⟨J4a hk (by rw [a3.2.1,b3.2.1]) hn h1 (by rw [a3.2.2.1,b3.2.2.1]) (by rw [a3.2.2.2,b3.2.2.2]),h2⟩
   ·rw [if_neg k4,if_neg omg] at a3;exact a3.elim
instance (c:Nat):Decidable (letP c):=by unfold letP;infer_instance
instance (c:Nat):Decidable (figP c):=by unfold figP;infer_instance
def Jy8 (c:UInt8):Bool:=decide (letP c.toNat∨figP c.toNat)
theorem J4y {s:List UInt8} (h:isWd s):∀ c∈s,Jy8 c=true:=by
 intro c hc;obtain ⟨i,hi⟩:=List.getElem?_of_mem hc;have hl:=(List.getElem?_eq_some_iff.1 hi).1;have:=Sh (s:=s) (j:=i) (by rw [h.2];exact hl);have e:at_ s i=c.toNat:=by simp [at_,List.getD_eq_getElem?_getD,hi]
 unfold H3 at this;rw [e] at this;unfold Jy8;rw [decide_eq_true_eq];rcases this with h | h
 ·exact .inl h
 ·exact .inr h.2
theorem Jxw {s:List UInt8}:∃ c r,nmT s=c :: r∧(Jy8 c=true∨c=34):=by
 unfold nmT;split
 ·rename_i h;obtain ⟨c,r,e⟩:=List.exists_cons_of_ne_nil h.1;exact ⟨c,r,e,.inl (J4y h c (by rw [e];exact List.mem_cons_self))⟩
 ·exact ⟨34,_,rfl,.inr rfl⟩
theorem Kdg {s t x y:List UInt8} (hs:valid s=true) (ht:valid t=true) (hx:∀ c,x.head? = some c→Jy8 c=false) (hy:∀ c,y.head? = some c→Jy8 c=false) (h:nmT s ++ x=nmT t ++ y):s=t∧x=y:=by
 have no:∀ {s t x y:List UInt8},isWd s→¬ isWd t→nmT s ++ x=nmT t ++ y→False:=by
  intro s t x y h1 h2 h;unfold nmT at h;rw [if_pos h1,if_neg h2] at h;obtain ⟨c,r,e⟩:=List.exists_cons_of_ne_nil h1.1;have:=J4y h1 c (by rw [e];exact List.mem_cons_self);rw [e] at h;injection h with h _
  rw [h] at this;revert this;decide
 by_cases h1:isWd s
 ·by_cases h2:isWd t
  ·unfold nmT at h;rw [if_pos h1,if_pos h2] at h;exact Jv8 (P:=Jy8) (J4y h1) (J4y h2) hx hy h
  ·exact (no h1 h2 h).elim
 ·by_cases h2:isWd t
  ·exact (no h2 h1 h.symm).elim
  ·unfold nmT at h;rw [if_neg h1,if_neg h2] at h;exact J28 hs ht h
theorem Ju1 {x:Step} (h:x.part=false):Bv x=46 :: nmT x.name:=by
 unfold Bv nmT;rw [if_neg (by rw [h];decide)];split <;> rfl
theorem J04 {p:List Step} (hp:∀ x∈p,x.part=false) {x:List UInt8}:∀ c,(Br p ++ 44 :: x).head? = some c→Jy8 c=false:=by
 cases p with
 | nil=>intro c hc;simp [Br] at hc;subst hc;decide
 | cons y p =>
  intro c hc;rw [show Br (y :: p)=Bv y ++ Br p from rfl,Ju1 (hp y List.mem_cons_self)] at hc;simp at hc;subst hc;decide
theorem J55:∀ {p q:List Step} {x y:List UInt8},(∀ z∈p,z.part=false∧Bc z)→(∀ z∈q,z.part=false∧Bc z)→Br p ++ 44 :: x=Br q ++ 44 :: y→p=q∧x=y
 | [],[],x,y,_,_,h=>by
  injection h with _ h
  exact ⟨rfl,h⟩
 | [],b :: q,x,y,_,hq,h=>by
  rw [show Br (b :: q)=Bv b ++ Br q from rfl,Ju1 (hq b List.mem_cons_self).1] at h;injection h with h _
  cases h
 | a :: p,[],x,y,hp,_,h=>by
  rw [show Br (a :: p)=Bv a ++ Br p from rfl,Ju1 (hp a List.mem_cons_self).1] at h;injection h with h _
  cases h
 | a :: p,b :: q,x,y,hp,hq,h=>by
  obtain ⟨a1,a2⟩:=hp a List.mem_cons_self;obtain ⟨b1,b2⟩:=hq b List.mem_cons_self;rw [show Br (a :: p)=Bv a ++ Br p from rfl,show Br (b :: q)=Bv b ++ Br q from rfl,Ju1 a1,Ju1 b1,List.cons_append,List.cons_append,List.cons_append,List.cons_append] at h;injection h with _ h
  rw [List.append_assoc,List.append_assoc] at h;unfold Bc at a2 b2;rw [if_neg (by rw [a1];decide)] at a2;rw [if_neg (by rw [b1];decide)] at b2;obtain ⟨h1,h2⟩:=Kdg a2.2 b2.2 (J04 fun z hz=>(hp z (List.mem_cons_of_mem _ hz)).1) (J04 fun z hz=>(hq z (List.mem_cons_of_mem _ hz)).1) h;obtain ⟨h3,h4⟩:=J55 (fun z hz=>hp z (List.mem_cons_of_mem _ hz)) (fun z hz=>hq z (List.mem_cons_of_mem _ hz)) h2;refine ⟨?_,h4⟩;rw [h3];congr 1;cases a;cases b;simp_all
theorem Kec {s t x y:List UInt8} (hs:fldS s) (ht:fldS t) (h:s ++ 44 :: x=t ++ 44 :: y):s=t∧x=y:=by
 obtain ⟨_,s1,s2⟩:=Jyf hs.1;obtain ⟨_,t1,t2⟩:=Jyf ht.1;have sp:=hs.2;have tp:=ht.2;generalize (Je s).1=p at *
 generalize (Je t).1=q at *
 subst s2 t2;have nn:∀ {b:Step} {q:List Step} {x y:List UInt8},b.part=false→[46] ++ 44 :: x=Br (b :: q) ++ 44 :: y→False:=by
  intro b q x y hb h;rw [show Br (b :: q)=Bv b ++ Br q from rfl,Ju1 hb] at h;injection h with _ h
  obtain ⟨c,r,e,hc⟩:=Jxw (s:=b.name);rw [e] at h;injection h with h _
  subst h;revert hc;decide
 have key:∀ (p:List Step),(∀ z∈p,z.part=false)→p≠[]→Hy p=Br p:=by
  intro p hp hne;cases p with
  | nil=>exact absurd rfl hne
  | cons a p=>unfold Hy;simp only;rw [if_neg (by rw [hp a List.mem_cons_self];decide)]
 match p,q with
 | [],[]=>injection h with _ h;injection h with _ h;exact ⟨rfl,h⟩
 | [],b :: q =>
  rw [key _ tp sm] at h;exact (nn (tp b List.mem_cons_self) h).elim
 | a :: p,[] =>
  rw [key _ sp sm] at h;exact (nn (sp a List.mem_cons_self) h.symm).elim
 | a :: p,b :: q =>
  rw [key _ sp sm,key _ tp sm] at h;obtain ⟨h1,h2⟩:=J55 (fun z hz=>⟨sp z hz,s1.2 z hz⟩) (fun z hz=>⟨tp z hz,t1.2 z hz⟩) h;exact ⟨by rw [h1],h2⟩
end Go.LX
namespace Go.LX
open Go Go.RowKit Go.Proofs
attribute [local irreducible] Al SWP Bi
theorem J1y (sep:List UInt8):∀ ls:List (List UInt8),Lib.join ls sep=Jqq sep ls
 | []=>by simp [Jqq,Lib.join_nil]
 | [x]=>by simp [Jqq,Lib.join_one]
 | x :: y :: l=>by
  have:=J1y sep (y :: l);rw [Jqq,← this];simp [Lib.join,List.intercalate,List.intersperse]
theorem J37 (ls:List (List UInt8)) (sep:List UInt8) (hn:ls.length≤1000000) (hl:(Jqq sep ls).length≤1000000000):Det cx 79 [.p (.sl (Jq1 ls)),.p (.str sep)] [] (.p (.str (Jqq sep ls))) []:=by
 refine Jrh (v:=.string ⟨⟨Jqq sep ls⟩⟩) (enters_of Tryz.func79 krf rfl) rfl (fun β w Im=>PRep.str _) fun β Im w vs hg hf=>?_
 obtain ⟨v,u,rfl,h1,h2⟩:=fit2 hf;cases Ks h2;have h1:PRep w Im v (.sl (Jq1 ls)):=h1;have key:∀ xs:List (List UInt8),(xs.map fun s=>(⟨⟨s⟩⟩:ByteArray)).map (fun x=>x.data.toList)=xs:=by
  intro xs;rw [List.map_map];exact List.map_id' xs
 generalize hr:Jq1 ls=rows at h1;cases h1 with
 | slNil =>
  have:ls=[]:=by cases ls with
   | nil=>rfl
   | cons=>cases hr
  subst this;have:=Tryz.strings_Join_none none 0 ⟨⟨sep⟩⟩ w;refine this.mono fun e w' ⟨a,b⟩=>⟨a,?_⟩
  subst b;exact Below.refl _ _
 | sl b off cap sz es hcap hb f hsz hsc hc h =>
  subst hr;have hlen:(Jq1 ls).length=(ls.map fun s=>(⟨⟨s⟩⟩:ByteArray)).length:=by simp
  rw [hlen];have ej:Lib.join ((ls.map fun s=>(⟨⟨s⟩⟩:ByteArray)).map (fun x=>x.data.toList)) (⟨⟨sep⟩⟩:ByteArray).data.toList=Jqq sep ls:=by rw [key];exact J1y sep ls
  have:=Tryz.strings_Join b off cap (ls.map fun s=>(⟨⟨s⟩⟩:ByteArray)) ⟨⟨sep⟩⟩ w (fun j x hj=>?_) (hf.im b hb) (by simp;omega) (by simpa using hcap) (by rw [ej];omega)
  ·rw [ej] at this;exact this
  ·rw [List.getElem?_map] at hj;obtain ⟨s,hs,rfl⟩:=Option.map_eq_some_iff.1 hj;have hg:=J0e hs;have hsz1:sz=1:=(hsz _ (List.mem_of_getElem? hg)).symm;subst hsz1;have hjl:=(List.getElem?_eq_some_iff.1 hg).1;have h0:=hc j hjl 0 omg;have hp:=h j _ 0 (.str s) hg rfl;rw [Nat.mul_one,Nat.add_zero] at h0;rw [h0];generalize f j 0=y at hp;cases hp;rfl
theorem Ker:liesAt Tryz.prog Tryz.prog.depth 109 1 0 107 1=true:=krf
theorem J0a (b:Bool):Det cx 136 [.ptr 1000 0 0] [(1000,.var 109 [.p .nptr,.p .snil,.p (.bool b)])] (.tup []) [(1000,.var 109 [.ptr 1000 0 0,.p .snil,.p (.bool b)])]:=by
 (refine bgo Tryz.func136 ?_;simp only [go_sem,simprocAttr]);(repeat' (first | ((refine Jyu (Jag _) ?_);simp only [go_sem,simprocAttr]) | fail));exact Ker
theorem Jtx (s:List UInt8) (hs:s.length≤1000000000) (b:Bool):Det cx 112 [.ptr 1000 0 0,.p (.str s)] [(1000,.var 109 [.p .nptr,.p .snil,.p (.bool b)])] (.tup [.int .i64 s.length,.nifc]) [(900,.row 5 1 (bstr s)),(1000,.var 109 [.ptr 1000 0 0,.own 900 0 s.length,.p (.bool b)])]:=by
 (refine bgoR false [(14,900)] Tryz.func112 ?_;simp only [go_sem,simprocAttr]);(repeat' (first | ((refine Jqa (J0a b) ?_);simp only [go_sem,simprocAttr]) | fail));exact ⟨X6 s,by omega,by omega,rfl⟩
theorem Kaf (s:List UInt8) (n:Nat) (b:Bool) (hn:s.length=n) (h1:n≤1000000000) (h0:n≠0):Det cx 94 [.ptr 1000 0 0] [(500001,.row 5 1 (bstr s)),(1000,.var 109 [.ptr 1000 0 0,.own 500001 0 n,.p (.bool b)])] (.p (.str s)) [(1000,.var 109 [.ptr 1000 0 0,.junk,.p (.bool b)])]:=by
 (refine bgo Tryz.func94 ?_;simp only [go_sem,simprocAttr]);(refine Gi 10 hm krf krf ?_;simp only [go_sem,simprocAttr,Ox]);have h2:s≠[]:=fun h=>by subst h;exact h0 (by rw [← hn];rfl)
 simp [hn,h2];omega
theorem J9p {c:Node} (hp:Jqr c) (hk:c.kind=3):Yz c.s c.neg c.e:=by
 have h2:=hp.2.2;unfold G3 at h2;rw [if_neg omg,if_pos hk] at h2;exact h2.2
theorem Jv1 {c:Node} (hp:Jqr c) (hk:c.kind=3):(Jq8 c).length≤200:=by
 obtain ⟨_,a1,a2,a3,_⟩:=J9p hp hk;exact Jy4 omg omg omg
theorem Kbc (c:Node) (hp:Jqr c) (hs:c.s.length≤1000000) (b:Bool):Det cx 126 [.ptr 1000 0 0,.p (.agg [.int .i64 c.kind,.int .i64 c.many,.str c.name,.str c.s,.bool c.neg,.int .i64 c.e])] [(1000,.var 109 [.p .nptr,.p .snil,.p (.bool b)])] (.tup []) [(900,.row 5 1 (bstr (Jrz c))),(1000,.var 109 [.ptr 1000 0 0,.own 900 0 (Jrz c).length,.p (.bool b)])]:=by
 have hN:=fun hk=>J8f c (J29 hp hk)
 have hQ:=fun hv=>Kt c.s hs hv
 obtain ⟨k,m,nm,s,g,e⟩:=c;rcases Juk hp with h | h | h | h | h <;> simp only at h hN hQ <;> subst h
 ·have hW:=Jtx [110,117,108,108] sm b;(refine bgoR false [(18,900)] Tryz.func126 ?_;simp only [go_sem,simprocAttr]);(repeat' (first | ((refine Jqa (hW) ?_);simp only [go_sem,simprocAttr]) | fail))
  all_goals exact ⟨rfl,rfl⟩
 ·have hW:=Jtx [102,97,108,115,101] sm b;(refine bgoR false [(24,900)] Tryz.func126 ?_;simp only [go_sem,simprocAttr]);(repeat' (first | ((refine Jqa (hW) ?_);simp only [go_sem,simprocAttr]) | fail))
  all_goals exact ⟨rfl,rfl⟩
 ·have hW:=Jtx [116,114,117,101] sm b;(refine bgoR false [(30,900)] Tryz.func126 ?_;simp only [go_sem,simprocAttr]);(repeat' (first | ((refine Jqa (hW) ?_);simp only [go_sem,simprocAttr]) | fail))
  all_goals exact ⟨rfl,rfl⟩
 ·have hN:=hN rfl;rw [Jr9] at hN;have hl:=Jv1 hp rfl;have hW:=Jtx (Jq8 ⟨3,m,nm,s,g,e⟩) omg b;(refine bgoR false [(38,900)] Tryz.func126 ?_;simp only [go_sem,simprocAttr]);(refine Gi 5 hm krf krf ?_;simp only [go_sem,simprocAttr]);(repeat' (first | ((first | (refine Jqg (hN) ?_)|(refine Jqa (hW) ?_));simp only [go_sem,simprocAttr]) | fail))
  all_goals exact ⟨rfl,rfl⟩
 ·have hQ:=hQ (Kaz hp rfl);have hl:=Jd4 s;have hW:=Jtx (refQ s) (by simp only at hs;omega) b;(refine bgoR false [(12,900)] Tryz.func126 ?_;simp only [go_sem,simprocAttr]);(refine Gi 6 hm krf krf ?_;simp only [go_sem,simprocAttr]);(repeat' (first | ((first | (refine Jqg (hQ) ?_)|(refine Jqa (hW) ?_));simp only [go_sem,simprocAttr]) | fail))
  all_goals exact ⟨rfl,rfl⟩
theorem Kac {c:Node} (hp:Jqr c):(Jrz c).length≠0:=by
 rcases Juk hp with h | h | h | h | h
 ·unfold Jrz;rw [if_pos h];simp
 ·unfold Jrz;rw [if_neg omg,if_pos h];simp
 ·unfold Jrz;rw [if_neg omg,if_neg omg,if_pos h];simp
 ·unfold Jrz;rw [if_neg omg,if_neg omg,if_neg omg,if_pos h];intro h0;obtain ⟨a,r,e,_⟩:=Jtj (J9p hp h);rw [e] at h0;simp at h0
 ·unfold Jrz;rw [if_neg omg,if_neg omg,if_neg omg,if_neg omg];unfold refQ;simp
theorem Kbg {c:Node} (hp:Jqr c) (hs:c.s.length≤1000000):(Jrz c).length≤10000000:=by
 rcases Juk hp with h | h | h | h | h
 ·unfold Jrz;rw [if_pos h];simp
 ·unfold Jrz;rw [if_neg omg,if_pos h];simp
 ·unfold Jrz;rw [if_neg omg,if_neg omg,if_pos h];simp
 ·unfold Jrz;rw [if_neg omg,if_neg omg,if_neg omg,if_pos h];have:=Jv1 hp h;omega
 ·unfold Jrz;rw [if_neg omg,if_neg omg,if_neg omg,if_neg omg];have:=Jd4 c.s;omega
theorem J98 (c:Node) (hp:Jqr c) (hs:c.s.length≤1000000) (b:Bool):Det cx 93 [.ptr 1000 0 0,.p (.sl [[.int .i64 c.kind,.int .i64 c.many,.str c.name,.str c.s,.bool c.neg,.int .i64 c.e]]),.p (.int .i64 0),.p (.int .i64 0)] [(1000,.var 109 [.p .nptr,.p .snil,.p (.bool b)])] (.p (.int .i64 1)) [(900,.row 5 1 (bstr (Jrz c))),(1000,.var 109 [.ptr 1000 0 0,.own 900 0 (Jrz c).length,.p (.bool b)])]:=by
 have hS:=Kbc c hp hs b;have c1:(c.kind<5)=True:=eq_true hp.1;have w1:IntKind.i64.wrap (0+1)=1:=by decide
 have w2:IntKind.i64.wrap 1=1:=by decide
 have w0:IntKind.i64.wrap 0=0:=by decide
 (refine bgoR false [(23,900)] Tryz.func93 ?_;simp only [go_sem,simprocAttr,c1,w2]);(repeat' (first | ((refine Jqa (hS) ?_);simp only [go_sem,simprocAttr]) | fail))
theorem J7i (c:Node) (hp:Jqr c) (hs:c.s.length≤1000000):Det cx 57 [.p (.sl [[.int .i64 c.kind,.int .i64 c.many,.str c.name,.str c.s,.bool c.neg,.int .i64 c.e]])] [] (.p (.str (Jrz c))) []:=by
 have hP:=J98 c hp hs false;have hS:=Kaf (Jrz c) (Jrz c).length false rfl (by have:=Kbg hp hs;omega) (Kac hp);(refine bgo Tryz.func57 ?_;simp only [go_sem,simprocAttr]);(repeat' (first | ((first | (refine Jqa (hP) ?_)|(refine Jqa (hS) ?_));simp only [go_sem,simprocAttr]) | fail))
def callsL:List (PV×PV):=[(.int .i64 5,.str [109,97,112]),(.int .i64 6,.str [109,97,112,95,118,97,108,117,101,115]),(.int .i64 7,.str [115,101,108,101,99,116]),(.int .i64 12,.str [103,114,111,117,112,95,98,121]),(.int .i64 13,.str [115,111,114,116,95,98,121]),(.int .i64 15,.str [100,101,108]),(.int .i64 10,.str [116,111,95,101,110,116,114,105,101,115]),(.int .i64 11,.str [102,114,111,109,95,101,110,116,114,105,101,115]),(.int .i64 14,.str [114,101,118,101,114,115,101])]
@[go_sem] theorem f_ba6 {parts:List (Nat×L)} {K:L→Prop}:Vf Tryz.prog 76 parts K=(Tryz.prog.cellsOf 9=1∧6=parts.length∧zok (Bu Tryz.prog 76) 6∧Bq (Jvu 0 parts) (kagg K)):=J01 f_u76
def oneL (k:Int) (l:List PTx):List (List PV):=Jq1 (l.map (oneT k))
end Go.LX
namespace Go.LX
open Go Go.RowKit Go.Proofs
section
variable {X:Cx} {ro:Option Nat} {md:Region.Mode} {ops:Array Oper}
def takeQ (md:Region.Mode) (ops:Array Oper) (q:Nat→Bool):List Nat→Array Bool→Bool
 | [],_=>true
 | i :: I,listed=>(Region.ready md ops listed).contains i && (Region.free md ops listed i && (q i && ((List.range ops.size).all (fun j=>q j || ancB md ops ops.size i j) && takeQ md ops q I (listed.setIfInBounds i true))))
def Kdl (X:Cx) (ds:List (Option Tmp)) (ops:List Oper) (q:Nat→Bool) (K:St→Prop):Ord→St→Prop
 | .leaf,s=>K s
 | .nil,_=>True
 | .bad,_=>False
 | .node i sub next,s=>(if q i=true then YSAt X ds ops i (Kdl X ds ops q K sub) s else lAt X ds ops i (Kdl X ds ops q K sub) s)∧Kdl X ds ops q K next s
end
def qi (k a b i:Nat):Bool:=decide (i<k) || (!decide (i<a) && decide (i<b))
section
variable {X:Cx} {ds:List (Option Tmp)} {t:List L} {r:Regs} {E:St→Prop}
def qj (a b c e i:Nat):Bool:=(!decide (i<a) && decide (i<b)) || (!decide (i<c) && decide (i<e))
end
section
variable {X:Cx} {ro:Option Nat} {ops:Array Oper}
def Keq (o:Oper):Bool:=o.guard.isNone && match o.op,o.dst with
 | .buildSlice _ 0 parts,some _=>parts.toList.isEmpty
 | _,_=>false
def J5f (o:Oper):Bool:=Jt4 o || (o.guard.isNone && match o.op with
 | .slice ..=>true
 | _=>false)
def takeAQ (ops:Array Oper) (q:Nat→Bool):List Nat→Array Bool→Bool
 | [],_=>true
 | i :: I,listed=>(Region.ready .any ops listed).contains i && (Region.free .any ops listed i && (q i && ((match ops[i]? with | some o=>J5f o | none=>false) && ((List.range ops.size).all (fun j=>q j || (ancB .any ops ops.size i j || match ops[j]? with | some o=>Keq o | none=>false)) && takeAQ ops q I (listed.setIfInBounds i true)))))
end
section
variable {X:Cx} {r:Regs} {t:List L} {dst:Option Tmp} {ty:TypeId} {ps:String} {af:Array Edge} {g:Option (Nat×Bool)}
def farB (s:St):Option Operand→Prop
 | some x=>farL (s.get x)=true
 | none=>True
end
section
variable {X:Cx} {ro:Option Nat} {ops:Array Oper}
def isMk (kp:Nat→Bool) (o:Oper):Bool:=o.guard.isNone && match o.op,o.dst with
 | .buildSlice t _ parts,some _=>!kp t && decide (parts.toList.length≤1)
 | .call { callee:=.builtin .append,args,argTypes },some _=>decide (args.toList.length=2) && (decide (argTypes.toList.length=2) && argTypes.toList.all fun t=>!kp t)
 | _,_=>false
def takeCQ (kp:Nat→Bool) (ops:Array Oper) (q:Nat→Bool):List Nat→Array Bool→Bool
 | [],_=>true
 | i :: I,listed=>(Region.ready .any ops listed).contains i && (Region.free .any ops listed i && (q i && ((match ops[i]? with | some o=>J5f o | none=>false) && ((List.range ops.size).all (fun j=>q j || (ancB .any ops ops.size i j || match ops[j]? with | some o=>isMk kp o | none=>false)) && takeCQ kp ops q I (listed.setIfInBounds i true)))))
end
attribute [local irreducible] Al Bi SWP
theorem num_rt {n:Node} (h:RightN n):Yz n.s n.neg n.e:=by
 refine ⟨h.figs,h.len,h.e1,h.e2,h.top,?_⟩;split
 ·rename_i hs;exact h.zero (by rw [hs];rfl)
 ·rename_i hs;have:0<n.s.length:=by
   cases hq:n.s with
   | nil=>exact absurd hq hs
   | cons=>simp
  exact ⟨h.head this,h.last this⟩
theorem J6b (n:Node) (hk:n.kind<5) (hs:n.s.length≤1000000):Det cx 149 [.p (.agg [.int .i64 n.kind,.int .i64 n.many,.str n.name,.str n.s,.bool n.neg,.int .i64 n.e])] [] (.p (.bool (decide (G3 n.kind n.s n.neg n.e n.many)))) []:=by
 obtain ⟨k,m,nm,s,g,e⟩:=n;simp only at hk hs ⊢;by_cases k0:k=0∨k=1∨k=2
 ·rcases k0 with rfl | rfl | rfl <;> (
   (refine bgo Tryz.func149 ?_;simp only [go_sem,simprocAttr])
   all_goals (rw [Bool.eq_iff_iff];simp [G3];try (simp_all <;> omega)))
 by_cases k3:k=3
 ·subst k3;have hR:=J17 ⟨3,m,[],s,g,e⟩ hs;rw [Jr9] at hR;have hN:Jsa ⟨3,m,[],s,g,e⟩=decide (G3 3 s g e m):=by
   rw [Bool.eq_iff_iff,J0o,decide_eq_true_eq];unfold G3;rw [if_neg omg,if_pos rfl];constructor
   ·intro h;exact ⟨h.many,(num_rt h)⟩
   ·rintro ⟨rfl,h⟩;exact J3w h
  rw [← hN];(refine bgo Tryz.func149 ?_;simp only [go_sem,simprocAttr]);(repeat' (first | ((refine Jqa (hR) ?_);simp only [go_sem,simprocAttr]) | fail))
 by_cases k4:k=4
 ·subst k4;have hV:=Fi s omg;(refine bgo Tryz.func149 ?_;simp only [go_sem,simprocAttr]);(repeat' (first | (apply iteI <;> intro h)|((refine Jqa (hV) ?_);simp only [go_sem,simprocAttr]) | fail))
  all_goals (rw [Bool.eq_iff_iff];simp [G3];try (simp_all <;> omega))
 have hno:decide (G3 k s g e m)=false:=by
  rw [decide_eq_false_iff_not];unfold G3;rw [if_neg k0,if_neg k3,if_neg k4,if_neg omg];exact id
 rw [hno];have e0:=eq_false (show ¬ k=0 by omega);have e1:=eq_false (show ¬ k=1 by omega);have e2:=eq_false (show ¬ k=2 by omega);have e3:=eq_false k3;have e4:=eq_false k4;have e5:=eq_false (show ¬ k=5 by omega);have e6:=eq_false (show ¬ k=6 by omega);(refine bgo Tryz.func149 ?_;simp only [go_sem,simprocAttr,e0,e1,e2,e3,e4,e5,e6])
 skip
theorem J6j (n:Node) (hk:n.kind<5) (hs:n.s.length≤1000000):Det cx 121 [.p (.sl [[.int .i64 n.kind,.int .i64 n.many,.str n.name,.str n.s,.bool n.neg,.int .i64 n.e]])] [] (.p (.bool (decide (Jqr n)))) []:=by
 by_cases hp:Jqr n
 ·have h:=J3g n.kind n.s n.neg n.e (by have:=hp.2.2;rw [Jto hp] at this;exact this) hk hs;rw [decide_eq_true hp,Jto hp,hp.2.1];exact h
 ·rw [decide_eq_false hp];have hP:=J6b n hk hs;obtain ⟨k,m,nm,s,g,e⟩:=n;simp only at hk hs hP ⊢;(refine bgo Tryz.func121 ?_;simp only [go_sem,simprocAttr]);refine SWP.loop (fun _:Unit=>⟨Ba 123 [(0,.p (.sl [[.int .i64 k,.int .i64 m,.str nm,.str s,.bool g,.int .i64 e]])),(3,.own 9 0 1),(10,.p (.sl [[.int .i64 k,.int .i64 m,.str nm,.str s,.bool g,.int .i64 e]])),(11,.p (.int .i64 1)),(12,.p (.int .i64 0))],[(9,.row 160 4 [[.int .i64 5,.int .i64 1,.bool false,.str []]])]⟩) (fun _=>True) (fun _=>0) () Jqb trivial ?_;rintro _ _;(refine lws ?_;simp only [go_sem,simprocAttr]);refine SWP.loop (fun _:Unit=>⟨Ba 123 [(0,.p (.sl [[.int .i64 k,.int .i64 m,.str nm,.str s,.bool g,.int .i64 e]])),(3,.own 9 0 1),(5,.ptr 5 0 0),(10,.p (.sl [[.int .i64 k,.int .i64 m,.str nm,.str s,.bool g,.int .i64 e]])),(11,.p (.int .i64 1)),(12,.p (.int .i64 0))],[(5,.var 35 [.p (.int .i64 k),.p (.int .i64 m),.p (.str nm),.p (.str s),.p (.bool g),.p (.int .i64 e)]),(9,.row 160 4 [[.int .i64 5,.int .i64 1,.bool false,.str []]])]⟩) (fun _=>True) (fun _=>0) () Jqb trivial ?_;rintro _ _;have e1:((1:Nat):Int)=1:=rfl;have w0:IntKind.i64.wrap 0=0:=by decide
  have w1:IntKind.i64.wrap 1=1:=by decide
  by_cases ho:G3 k s g e m
  ·rw [decide_eq_true ho] at hP;have hm0:m=0:=Jto (n:=⟨k,m,[],s,g,e⟩) ⟨hk,rfl,ho⟩;subst hm0;have hnm:(nm=[])=False:=eq_false fun h=>hp ⟨hk,h,ho⟩
   (refine lws ?_;simp only [go_sem,simprocAttr,e1,w0,decide_true]);(repeat' (first | ((refine Jqa (hP) ?_);simp only [go_sem,simprocAttr,e1,w0,hnm,decide_false,Bool.not_false,Bool.not_true]) | fail))
  ·rw [decide_eq_false ho] at hP;(refine lws ?_;simp only [go_sem,simprocAttr,e1,w0,decide_true]);(repeat' (first | ((refine Jqa (hP) ?_);simp only [go_sem,simprocAttr,Bool.not_false]) | fail))
end Go.LX
namespace Go.LX
open Go
theorem Juo:∀ a b:RF,(a.app b).list=a.list ++ b.list
 | .nil,b=>rfl
 | .cons nm t r,b=>by simp only [RF.app,RF.list,Juo r b,List.cons_append]
end Go.LX
namespace Go.LX
open Go Go.RowKit Go.Proofs
attribute [local irreducible] Al SWP Bi
def Jtq (r:YRow):Prop:=r.s.length≤100∧r.name.length≤100∧r.c.s.length≤100∧-9223372036854775808≤r.c.e∧r.c.e≤9223372036854775807
structure FiFit (v:List YRow):Prop where
 len:v.length≤140737488355328
 row:∀ n∈v,ERow n
theorem Jtp {v:List YRow} {m:Nat} (hv:FiFit v) (h:Jsq v m=true):v.length≤m∧∀ r∈v,Jtq r:=by
 unfold Jsq at h;simp only [Bool.and_eq_true,decide_eq_true_eq,List.all_eq_true] at h;refine ⟨h.1,fun r hr=>?_⟩;have h1:=h.2 r hr;have h2:=hv.row r hr;simp only [Jyh,Bool.and_eq_true,decide_eq_true_eq] at h1;exact ⟨h1.1,h1.2.1,h1.2.2,h2.e0,h2.e1⟩
theorem Kat {r:YRow} (h:Jtq r):RowFit r:=by
 obtain ⟨a,b,c,d,e⟩:=h;exact ⟨by omega,by omega,⟨by omega,d,e⟩⟩
end Go.LX
namespace Go.LX
open Go Go.Proofs Go.RowKit Go.ChangeShapes Go.WideShapes Go.ChangeAt Go.Lib
open Go.Proofs.YtgfggbndbceppaaGreatDoor
theorem cTy:Tryz.prog.cellsOf 58=11:=krf
theorem bTy:0<Tryz.prog.bytesOf 58:=by decide +kernel
def YRow.vals (r:YRow):List Value:=[.int .i64 r.kind,.int .i64 r.many,.string ⟨⟨r.name⟩⟩,.string ⟨⟨r.s⟩⟩,.int .i64 r.n,.int .i64 r.c.kind,.int .i64 r.c.many,.string ⟨⟨r.c.name⟩⟩,.string ⟨⟨r.c.s⟩⟩,.bool r.c.neg,.int .i64 r.c.e]
theorem eachTy {H:Type} {enc:TypeId×Value→H} {w:World} (fuel:Nat) (cs:List Value) (y:DataW H×List MemPlace) (h:DataW.trod enc Tryz.prog w 0 (fun _=>true) true fuel 58 cs=some y) (hz:∀ n∈y.1.weights Tryz.prog 58,n≤reachBytes) :
  ∃ x:YRow,ERow x∧cs=x.vals:=by
 obtain ⟨xs,n,_,rfl,hl,hlen,hf⟩:=DataW.trod_struct Tryz.underlying58 h;rw [cTy] at hl
 match xs,hlen,cs,hl with
 | [y0,y1,y2,y3,y4,y5],_,[a0,a1,a2,a3,a4,a5,a6,a7,a8,a9,a10],_ =>
  have g0:=hf 0 _ rfl;have g1:=hf 1 _ rfl;have g2:=hf 2 _ rfl;have g3:=hf 3 _ rfl;have g4:=hf 4 _ rfl;have g5:=hf 5 _ rfl;simp only [Kc7,cStr,cInt,cNode,List.drop_zero,List.drop_succ_cons,List.take_succ_cons,List.take_zero,List.getElem?_cons_zero,List.getElem?_cons_succ] at g0 g1 g2 g3 g4 g5;obtain ⟨x0,e0,rfl,_⟩:=DataW.trod_int Tryz.underlying3 g0;obtain ⟨x1,e1,rfl,_⟩:=DataW.trod_int Tryz.underlying3 g1;obtain ⟨x2,e2,rfl,z2⟩:=DataW.trod_string Tryz.underlying9 g2;obtain ⟨x3,e3,rfl,z3⟩:=DataW.trod_string Tryz.underlying9 g3;obtain ⟨x4,e4,rfl,_⟩:=DataW.trod_int Tryz.underlying3 g4;obtain ⟨c,hc,e5⟩:=Jly _ _ _ g5 (fun n hn=>hz n (by simp [DataW.weights,DataW.weightsEach,Tryz.underlying58,hn]));cases e0;cases e1;cases e2;cases e3;cases e4;cases e5;have hm:maxLen=9223372036854775807:=by decide
  have s2:=T8 x2;have s3:=T8 x3;refine ⟨⟨x0,x1,x2.data.toList,x3.data.toList,x4,c⟩,⟨?_,?_,hc.s,hc.e0,hc.e1⟩,?_⟩
  ·show x3.data.toList.length≤_;omega
  ·show x2.data.toList.length≤_;omega
  ·simp only [YRow.vals,Jc3]
theorem ty_rep (w:World) (Im:Nat→Prop) (x:YRow) (j:Nat) (p:PV) (h:x.cells[j]? = some p):PRep w Im (x.vals.getD j undef) p:=by
 match j,h with
 | 0,h=>cases h;exact PRep.int _ _
 | 1,h=>cases h;exact PRep.int _ _
 | 2,h=>cases h;exact PRep.str _
 | 3,h=>cases h;exact PRep.str _
 | 4,h=>cases h;exact PRep.int _ _
 | 5,h=>cases h;exact PRep.int _ _
 | 6,h=>cases h;exact PRep.int _ _
 | 7,h=>cases h;exact PRep.str _
 | 8,h=>cases h;exact PRep.str _
 | 9,h=>cases h;exact PRep.bool _
 | 10,h=>cases h;exact PRep.int _ _
 | j+11,h=>simp [YRow.cells] at h
theorem cellTy {H:Type} {enc:TypeId×Value→H} {w:World} {b:Nat} {v:Value} (hok:Cell.okWide Tryz.prog w .any b 40 v) {fuel:Nat} {x:DataW H×List MemPlace} (h:DataW.trod enc Tryz.prog w 0 (fun _=>true) true fuel 40 [v]=some x) (hz:∀ n∈x.1.weights Tryz.prog 40,n≤reachBytes) :
  ∃ p:List YRow,FiFit p∧PRep w (Ja w) v (.sl (rowL p)):=by
 obtain ⟨p,h1,h2,h3⟩:=Xx YRow.vals YRow.cells ERow Tryz.underlying40 cTy bTy (fun _=>rfl) (fun _=>rfl) (fun x p hp=>by simp [YRow.cells] at hp;rcases hp with rfl | rfl | rfl | rfl | rfl | rfl | rfl | rfl | rfl | rfl | rfl <;> rfl) (ty_rep w) eachTy hok h hz;exact ⟨p,⟨h1,h2⟩,h3⟩
theorem J5y {H:Type} {enc:TypeId×Value→H} {w:World} {b:Nat} {v:Value} {d:DataW H} {q:List MemPlace} {ts:List TypeId} {ds:List (DataW H)} (hok:Value.okWide Tryz.prog w .any b 40 v) (h:DataW.Trod enc Tryz.prog w 0 (fun _=>true) true 40 v d q)
  (hz:(DataW.weightsEach Tryz.prog ts ds).all (· ≤ reachBytes)=true) {j:Nat} (h1:ts[j]? = some 40) (h2:ds[j]? = some d):∃ p:List YRow,FiFit p∧PRep w (Ja w) v (.sl (rowL p)):=by
 simp only [Value.okWide,Tryz.underlying40] at hok;obtain ⟨fuel,h⟩:=h;rw [Jkh Tryz.underlying40 hok] at h;exact cellTy hok h (J0 hz h1 h2)
theorem tyG {W:World} (h:laidMetH Tryz.prog Rows.tyTellsRow.laid W):QuoteG W (Ja W):=Jdp h
end Go.LX
namespace Go.Proofs
open Go.Shelf
def Tryz_lays161_renX:Go.Shelf.Ren:=⟨fun | 161=>194 | 231=>217 | 227=>218 | 233=>219 | 235=>220 | 228=>236 | 197=>228 | 151=>237 | 260=>242 | 152=>254 | 137=>206 | 119=>261 | 224=>262 | 225=>263 | 217=>230 | 266=>244 | n=>n,fun | 9=>9 | 4=>4 | 3=>3 | 5=>5 | 117=>231 | 116=>230 | 0=>0 | 124=>234 | 105=>238 | 21=>21 | 119=>136 | 46=>140 | 139=>139 | 138=>138 | n=>n,fun | 3=>0 | 4=>1 | n=>n⟩
theorem J2l:Go.Proofs.Lays.n161 Tryz.prog Tryz_lays161_renX:={
 mixed:=by kernel_rfl
 f119:=Tryz.func261.trans (congrArg some (by kernel_rfl))
 f137:=Tryz.func206.trans (congrArg some (by kernel_rfl))
 f151:=Tryz.func237.trans (congrArg some (by kernel_rfl))
 f152:=Tryz.func254.trans (congrArg some (by kernel_rfl))
 f161:=Tryz.func194.trans (congrArg some (by kernel_rfl))
 f197:=Tryz.func228.trans (congrArg some (by kernel_rfl))
 f217:=Tryz.func230.trans (congrArg some (by kernel_rfl))
 f224:=Tryz.func262.trans (congrArg some (by kernel_rfl))
 f225:=Tryz.func263.trans (congrArg some (by kernel_rfl))
 f227:=Tryz.func218.trans (congrArg some (by kernel_rfl))
 f228:=Tryz.func236.trans (congrArg some (by kernel_rfl))
 f231:=Tryz.func217.trans (congrArg some (by kernel_rfl))
 f233:=Tryz.func219.trans (congrArg some (by kernel_rfl))
 f235:=Tryz.func220.trans (congrArg some (by kernel_rfl))
 f260:=Tryz.func242.trans (congrArg some (by kernel_rfl))
 f266:=Tryz.func244.trans (congrArg some (by kernel_rfl))
 t0:=Tryz.underlying0
 a0:=Tryz.isAgg0
 z0:=Tryz.sizeOf0
 v0:=Tryz.zeroValue0
 t3:=Tryz.underlying3
 a3:=Tryz.isAgg3
 z3:=Tryz.sizeOf3
 v3:=Tryz.zeroValue3
 t4:=Tryz.underlying4
 a4:=Tryz.isAgg4
 z4:=Tryz.sizeOf4
 v4:=Tryz.zeroValue4
 t5:=Tryz.underlying5
 a5:=Tryz.isAgg5
 z5:=Tryz.sizeOf5
 v5:=Tryz.zeroValue5
 t9:=Tryz.underlying9
 a9:=Tryz.isAgg9
 z9:=Tryz.sizeOf9
 v9:=Tryz.zeroValue9
 t21:=Tryz.underlying21
 a21:=Tryz.isAgg21
 z21:=Tryz.sizeOf21
 v21:=Tryz.zeroValue21
 t46:=Tryz.underlying140
 a46:=Tryz.isAgg140
 z46:=Tryz.sizeOf140
 v46:=Tryz.zeroValue140
 t105:=Tryz.underlying238
 a105:=Tryz.isAgg238
 z105:=Tryz.sizeOf238
 v105:=Tryz.zeroValue238
 t116:=Tryz.underlying230
 a116:=Tryz.isAgg230
 z116:=Tryz.sizeOf230
 t117:=Tryz.underlying231
 a117:=Tryz.isAgg231
 z117:=Tryz.sizeOf231
 v117:=Tryz.zeroValue231
 t119:=Tryz.underlying136
 a119:=Tryz.isAgg136
 z119:=Tryz.sizeOf136
 t124:=Tryz.underlying234
 a124:=Tryz.isAgg234
 z124:=Tryz.sizeOf234
 v124:=Tryz.zeroValue234
 t138:=Tryz.underlying138
 a138:=Tryz.isAgg138
 z138:=Tryz.sizeOf138
 v138:=Tryz.zeroValue138
 t139:=Tryz.underlying139
 a139:=Tryz.isAgg139
 z139:=Tryz.sizeOf139
 v139:=Tryz.zeroValue139
 g3:=by kernel_rfl
 g4:=by kernel_rfl }
open Go.RowKit in
theorem Tryz.strings_TrimLeft_one (s:ByteArray) (c:UInt8) (hc:c.toNat<128) (w:World) :
  Calls Tryz.prog 194 #[.string s,.string ⟨#[c]⟩] w fun e w'=>e=.returned (.string ⟨(Lib.trimLeftB s.data.toList c).toArray⟩)∧w'=w:=Any.strings_TrimLeft_one J2l s c hc w
def Tryz_lays162_renX:Go.Shelf.Ren:=⟨fun | 162=>195 | 232=>221 | 227=>218 | 234=>222 | 236=>223 | 228=>236 | 271=>238 | 151=>237 | 120=>255 | 197=>228 | 152=>254 | 260=>242 | 137=>206 | 119=>261 | 224=>262 | 225=>263 | 217=>230 | 266=>244 | n=>n,fun | 9=>9 | 4=>4 | 3=>3 | 5=>5 | 117=>231 | 116=>230 | 0=>0 | 124=>234 | 21=>21 | 105=>238 | 46=>140 | 119=>136 | 139=>139 | 138=>138 | n=>n,fun | 3=>0 | 4=>1 | n=>n⟩
theorem J2h:Go.Proofs.Lays.n162 Tryz.prog Tryz_lays162_renX:={
 mixed:=by kernel_rfl
 f119:=Tryz.func261.trans (congrArg some (by kernel_rfl))
 f120:=Tryz.func255.trans (congrArg some (by kernel_rfl))
 f137:=Tryz.func206.trans (congrArg some (by kernel_rfl))
 f151:=Tryz.func237.trans (congrArg some (by kernel_rfl))
 f152:=Tryz.func254.trans (congrArg some (by kernel_rfl))
 f162:=Tryz.func195.trans (congrArg some (by kernel_rfl))
 f197:=Tryz.func228.trans (congrArg some (by kernel_rfl))
 f217:=Tryz.func230.trans (congrArg some (by kernel_rfl))
 f224:=Tryz.func262.trans (congrArg some (by kernel_rfl))
 f225:=Tryz.func263.trans (congrArg some (by kernel_rfl))
 f227:=Tryz.func218.trans (congrArg some (by kernel_rfl))
 f228:=Tryz.func236.trans (congrArg some (by kernel_rfl))
 f232:=Tryz.func221.trans (congrArg some (by kernel_rfl))
 f234:=Tryz.func222.trans (congrArg some (by kernel_rfl))
 f236:=Tryz.func223.trans (congrArg some (by kernel_rfl))
 f260:=Tryz.func242.trans (congrArg some (by kernel_rfl))
 f266:=Tryz.func244.trans (congrArg some (by kernel_rfl))
 f271:=Tryz.func238.trans (congrArg some (by kernel_rfl))
 t0:=Tryz.underlying0
 a0:=Tryz.isAgg0
 z0:=Tryz.sizeOf0
 v0:=Tryz.zeroValue0
 t3:=Tryz.underlying3
 a3:=Tryz.isAgg3
 z3:=Tryz.sizeOf3
 v3:=Tryz.zeroValue3
 t4:=Tryz.underlying4
 a4:=Tryz.isAgg4
 z4:=Tryz.sizeOf4
 v4:=Tryz.zeroValue4
 t5:=Tryz.underlying5
 a5:=Tryz.isAgg5
 z5:=Tryz.sizeOf5
 v5:=Tryz.zeroValue5
 t9:=Tryz.underlying9
 a9:=Tryz.isAgg9
 z9:=Tryz.sizeOf9
 v9:=Tryz.zeroValue9
 t21:=Tryz.underlying21
 a21:=Tryz.isAgg21
 z21:=Tryz.sizeOf21
 v21:=Tryz.zeroValue21
 t46:=Tryz.underlying140
 a46:=Tryz.isAgg140
 z46:=Tryz.sizeOf140
 v46:=Tryz.zeroValue140
 t105:=Tryz.underlying238
 a105:=Tryz.isAgg238
 z105:=Tryz.sizeOf238
 v105:=Tryz.zeroValue238
 t116:=Tryz.underlying230
 a116:=Tryz.isAgg230
 z116:=Tryz.sizeOf230
 t117:=Tryz.underlying231
 a117:=Tryz.isAgg231
 z117:=Tryz.sizeOf231
 v117:=Tryz.zeroValue231
 t119:=Tryz.underlying136
 a119:=Tryz.isAgg136
 z119:=Tryz.sizeOf136
 t124:=Tryz.underlying234
 a124:=Tryz.isAgg234
 z124:=Tryz.sizeOf234
 v124:=Tryz.zeroValue234
 t138:=Tryz.underlying138
 a138:=Tryz.isAgg138
 z138:=Tryz.sizeOf138
 v138:=Tryz.zeroValue138
 t139:=Tryz.underlying139
 a139:=Tryz.isAgg139
 z139:=Tryz.sizeOf139
 v139:=Tryz.zeroValue139
 g3:=by kernel_rfl
 g4:=by kernel_rfl }
open Go.RowKit in
theorem Tryz.strings_TrimRight_one (s:ByteArray) (c:UInt8) (hc:c.toNat<128) (w:World) (hs:s.size≤9223372036854775807) :
  Calls Tryz.prog 195 #[.string s,.string ⟨#[c]⟩] w fun e w'=>e=.returned (.string ⟨(Lib.trimRightB s.data.toList c).toArray⟩)∧w'=w:=Any.strings_TrimRight_one J2h s c hc w hs
end Go.Proofs
set_option maxRecDepth 100000
set_option maxHeartbeats 2000000
namespace Go.LX
open Go Go.RowKit Go.Proofs
attribute [local irreducible] Al SWP Bi
theorem J7k (s:List UInt8):Det cx 194 [.p (.str s),.p (.str [48])] [] (.p (.str (Jqt s))) []:=by
 refine Jrh (v:=.string ⟨⟨Jqt s⟩⟩) (enters_of Tryz.func194 krf rfl) rfl (fun β w Im=>PRep.str _) fun β Im w vs hg hf=>?_
 obtain ⟨v,u,rfl,h1,h2⟩:=fit2 hf;cases Ks h1;cases Ks h2;refine (Tryz.strings_TrimLeft_one ⟨⟨s⟩⟩ 48 de w).mono fun e w' ⟨h,hw⟩=>⟨h,by subst hw;exact Below.refl _ _⟩
theorem Jvr (s:List UInt8) (c:UInt8) (hc:c.toNat<128) (hs:s.length≤9223372036854775807):Det cx 195 [.p (.str s),.p (.str [c])] [] (.p (.str (Lib.trimRightB s c))) []:=by
 refine Jrh (v:=.string ⟨⟨Lib.trimRightB s c⟩⟩) (enters_of Tryz.func195 krf rfl) rfl (fun β w Im=>PRep.str _) fun β Im w vs hg hf=>?_
 obtain ⟨v,u,rfl,h1,h2⟩:=fit2 hf;cases Ks h1;cases Ks h2;refine (Tryz.strings_TrimRight_one ⟨⟨s⟩⟩ c hc w hs).mono fun e w' ⟨h,hw⟩=>⟨h,by subst hw;exact Below.refl _ _⟩
theorem J6s (s:List UInt8) (hs:s.length≤9223372036854775807):Det cx 195 [.p (.str s),.p (.str [48])] [] (.p (.str (Jqz s))) []:=Jvr s 48 de hs
theorem Jye (neg:Bool) (s:List UInt8) (e:Int) (hs:s.length≤1000000) :
  Det cx 168 [.p (.bool neg),.p (.str s),.p (.int .i64 e)] [] (.tup [.agg (make neg s e).1.pv,.int .i64 (make neg s e).2]) []:=by
 have hl:=J16 s;have hr:=Jz8 (Jqt s);(refine bgo Tryz.func168 ?_;simp only [go_sem,simprocAttr]);(repeat' (first | (apply iteI <;> intro h)|((first | (refine Jqa (Jzc _ omg) ?_)|(refine Jqa (J7k _) ?_)|(refine Jqa (J6s _ omg) ?_)|(refine Jqa (J26 _ _ omg omg) ?_));simp only [go_sem,simprocAttr]) | fail))
 all_goals (try simp (disch:=omega) only [Aa,Qs,Ab,Jlh,Mf,Ja0,Jcc,Ja7,Jak] at *)
 ·simp [make, *,node0,Jr9]
 ·simp [make, *,node0,Jr9]
 ·simp [make, *,node0,Jr9]
 ·simp [make, *,node0,Jr9]
 ·simp [make, *,node0,Jr9]
 ·rw [Jt7] at h;by_cases c1:e+((Jqt s).length - (Jqz (Jqt s)).length) < -1000
  ·simp [make, *,node0,Jr9]
  ·have c2:1000<((Jqz (Jqt s)).length:Int)+(e+((Jqt s).length - (Jqz (Jqt s)).length)):=by omega
   simp [make, *,node0,Jr9]
 ·rw [Jt7] at h;have c1:¬ e+((Jqt s).length - (Jqz (Jqt s)).length) < -1000:=by omega
  have c2:¬ 1000<((Jqz (Jqt s)).length:Int)+(e+((Jqt s).length - (Jqz (Jqt s)).length)):=by omega
  simp [make, *,node0,Jr9]
theorem J2x {x c:UInt8} (hc:c≠x) (l:List UInt8):∀ r,(List.replicate r x ++ c :: l).dropWhile (· == x)=c :: l
 | 0=>by simp [List.dropWhile_cons,hc]
 | r+1=>by rw [List.replicate_succ,List.cons_append,List.dropWhile_cons];simp [J2x hc l r]
theorem J2w (x y:UInt8) (pre:List UInt8) (c:UInt8) (r:Nat):Jte x y pre c 0 r=pre ++ c :: List.replicate r x:=by simp [Jte]
theorem J5v (x y:UInt8) (pre:List UInt8) (c:UInt8) (r:Nat):Jte x y pre c r r=pre ++ c :: List.replicate r y:=by simp [Jte]
theorem Jz4 {x c:UInt8} (hc:c≠x) (pre:List UInt8) (r:Nat):Lib.trimRightB (pre ++ c :: List.replicate r x) x=pre ++ [c]:=by
 unfold Lib.trimRightB;rw [List.reverse_append,List.reverse_cons,List.reverse_replicate,List.append_assoc];rw [show [c] ++ pre.reverse=c :: pre.reverse from rfl,J2x hc];simp
theorem Ka7 (x:UInt8) (r:Nat):Lib.trimRightB (List.replicate r x) x=[]:=by
 unfold Lib.trimRightB;rw [List.reverse_replicate]
 induction r with
 | zero=>rfl
 | succ r ih=>rw [List.replicate_succ,List.dropWhile_cons];simpa using ih
theorem J9h (k:Nat) (b:UInt8):Lib.repeatL [b] k=List.replicate k b:=by
 induction k with
 | zero=>rfl
 | succ k ih=>rw [Lib.repeatL,ih,List.replicate_succ];rfl
def upS (s:List UInt8):List UInt8:=if (Jwy s).head? = some 48 then (Jwy s).drop 1 else Jwy s
theorem Kea (g:Bool) (s:List UInt8) (e:Int):make g (48 :: s) e=make g s e:=by
 have h1:Jrj (48 :: s)=Jrj s:=by simp [Jwv,Pk,Ja8]
 have h2:Jqt (48 :: s)=Jqt s:=by simp [Jqt]
 unfold make;rw [h1,h2]
theorem Kfk (g:Bool) (s:List UInt8) (e:Int):make g (upS s) e=make g (Jwy s) e:=by
 unfold upS;split
 ·rename_i h;cases hm:Jwy s with
  | nil=>rw [hm] at h;cases h
  | cons c l=>rw [hm] at h;cases h;rw [Kea];rfl
 ·rfl
theorem J9e {a:Int} (h0:0≤a) (h1:a<128):(Utf8.encode a).data.toList=[UInt8.ofNat a.toNat]:=by
 obtain ⟨n,rfl⟩:=Int.eq_ofNat_of_zero_le h0;have:∀ n<128,(Utf8.encode ((n:Nat):Int)).data.toList=[UInt8.ofNat n]:=by decide +kernel
 exact this n omg
theorem d_up (s:List UInt8) (hs:s.length≤10000) (hd:∀ c∈s,48≤c∧c≤57):Det cx 169 [.p (.str s)] [] (.p (.str (upS s))) []:=by
 obtain ⟨pre,c,r,h1,h2,h3,h4⟩:=J8a s;rw [J2w] at h1;rw [J5v] at h4;have hT:=Jvr s 57 de omg;cases pre with
 | nil =>
  rw [List.nil_append] at h1 h4;injection h1 with e1 e2
  subst e1;have hu:upS s=[49] ++ Lib.repeatL [48] s.length:=by
   unfold upS;rw [h4,J9h,e2,List.length_replicate];simp
  rw [hu];rw [e2,Ka7,← e2] at hT;have hR:=Jvx [48] s.length omg (by simp;omega);have w1:IntKind.i64.wrap ((s.length:Int) - 0)=(s.length:Int):=by rw [Aa omg omg];omega
  have hrl:(Lib.repeatL [48] s.length).length=s.length:=by rw [Lib.repeatL_length];simp
  generalize Lib.repeatL [48] s.length=z at *
  (refine bgo Tryz.func169 ?_;simp only [go_sem,simprocAttr]);(repeat' (first | ((first | (refine Jqa (hT) ?_)|(refine Jqa (hR) ?_));simp only [go_sem,simprocAttr,w1]) | fail));omega
 | cons a p =>
  rw [List.cons_append] at h1 h4;injection h1 with e1 e2
  subst e1;have hcm:c∈s:=by rw [e2];simp
  have hcl:=hd c hcm;have hcn:48≤c.toNat∧c.toNat≤57:=⟨UInt8.le_iff_toNat_le.1 hcl.1,UInt8.le_iff_toNat_le.1 hcl.2⟩
  have hu:upS s=p ++ [c+1] ++ Lib.repeatL [48] r:=by
   unfold upS;rw [h4,J9h];simp
  rw [hu];rw [e2,Jz4 h2,← e2] at hT;have hlen:s.length=p.length+1+r:=by rw [e2];simp;omega
  have hR:=Jvx [48] r omg (by simp;omega);have w1:IntKind.i64.wrap ((s.length:Int) - ((p.length+1:Nat):Int))=(r:Int):=by rw [Aa omg omg];omega
  have hrl:(Lib.repeatL [48] r).length=r:=by rw [Lib.repeatL_length];simp
  have hpl:(p ++ [c]).length=p.length+1:=by simp
  have w2:IntKind.i64.wrap (((p.length+1:Nat):Int) - 1)=(p.length:Int):=by rw [Aa omg omg];omega
  have hat:at_ s p.length=c.toNat:=by rw [e2];simp [at_,List.getD_eq_getElem?_getD]
  have htk:s.take p.length=p:=by rw [e2];simp
  have c0:(((p.length+1:Nat):Int)=0)=False:=eq_false omg;have w3:IntKind.u8.wrap ((c.toNat:Int)+1)=((c.toNat+1:Nat):Int):=by rw [Ab omg omg];omega
  have w4:IntKind.i32.wrap ((c.toNat+1:Nat):Int)=((c.toNat+1:Nat):Int):=Qs omg omg;have he:(Utf8.encode ((c.toNat+1:Nat):Int)).data.toList=[c+1]:=by
   rw [J9e omg omg,Int.toNat_natCast];rfl
  generalize Lib.repeatL [48] r=z at *
  (refine bgo Tryz.func169 ?_;simp only [go_sem,simprocAttr]);(repeat' (first | (refine Jqd ?_)|((first | (refine Jqp ?_)|(refine Jqa (hT) ?_)|(refine Jqa (hR) ?_));simp only [go_sem,simprocAttr,hpl,w1,w2,hat,htk,c0,w3,w4,he,Int.toNat_natCast]) | fail));rw [List.length_append,List.length_cons,List.length_nil];omega
theorem d_down (s:List UInt8) (hs:s.length≤10000) (h0:∃ c∈s,c≠48) (hd:∀ c∈s,48≤c∧c≤57):Det cx 170 [.p (.str s)] [] (.p (.str (Jvt s))) []:=by
 obtain ⟨p,c,r,h1,h2,h3,h4⟩:=J8o s h0;rw [J2w] at h1;rw [J5v] at h4;have hT:=Jvr s 48 de omg;have hcl:=hd c h3;have hcn:48≤c.toNat∧c.toNat≤57:=⟨UInt8.le_iff_toNat_le.1 hcl.1,UInt8.le_iff_toNat_le.1 hcl.2⟩
 rw [h4];rw [h1,Jz4 h2,← h1] at hT;have hlen:s.length=p.length+1+r:=by rw [h1];simp;omega
 have hR:=Jvx [57] r omg (by simp;omega);have w1:IntKind.i64.wrap ((s.length:Int) - ((p.length+1:Nat):Int))=(r:Int):=by rw [Aa omg omg];omega
 have hrl:(Lib.repeatL [57] r).length=r:=by rw [Lib.repeatL_length];simp
 rw [show p ++ (c - 1) :: List.replicate r 57=p ++ [c - 1] ++ Lib.repeatL [57] r by rw [J9h];simp];have hpl:(p ++ [c]).length=p.length+1:=by simp
 have w2:IntKind.i64.wrap (((p.length+1:Nat):Int) - 1)=(p.length:Int):=by rw [Aa omg omg];omega
 have hat:at_ s p.length=c.toNat:=by rw [h1];simp [at_,List.getD_eq_getElem?_getD]
 have htk:s.take p.length=p:=by rw [h1];simp
 have c0:(((p.length+1:Nat):Int)=0)=False:=eq_false omg;have w3:IntKind.u8.wrap ((c.toNat:Int) - 1)=((c.toNat - 1:Nat):Int):=by rw [Ab omg omg];omega
 have w4:IntKind.i32.wrap ((c.toNat - 1:Nat):Int)=((c.toNat - 1:Nat):Int):=Qs omg omg;have he:(Utf8.encode ((c.toNat - 1:Nat):Int)).data.toList=[c - 1]:=by
  rw [J9e omg omg,Int.toNat_natCast];congr 1;refine UInt8.toNat_inj.1 ?_;have:(1:UInt8)≤c:=UInt8.le_iff_toNat_le.2 (by show 1≤c.toNat;omega);rw [UInt8.toNat_sub_of_le _ _ this];show (UInt8.ofNat (c.toNat - 1)).toNat=c.toNat - 1;rw [UInt8.toNat_ofNat'];omega
 generalize Lib.repeatL [57] r=z at *
 (refine bgo Tryz.func170 ?_;simp only [go_sem,simprocAttr]);(repeat' (first | (refine Jqd ?_)|((first | (refine Jqp ?_)|(refine Jqa (hT) ?_)|(refine Jqg (hR) ?_));simp only [go_sem,simprocAttr,hpl,w1,w2,hat,htk,w3,w4,he,Int.toNat_natCast]) | fail));rw [List.length_append,List.length_cons,List.length_nil];omega
end Go.LX
