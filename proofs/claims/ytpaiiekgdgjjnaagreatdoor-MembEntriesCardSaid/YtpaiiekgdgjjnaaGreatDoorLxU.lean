/- Numbers, plain: their values; what is greater. -/
import Derived.Test.YtpaiiekgdgjjnaaGreatDoorLxT
import Derived.Test.YtpaiiekgdgjjnaaGreatDoorLxR
import Derived.Test.YtpaiiekgdgjjnaaGreatDoorLxQ
import Derived.Test.YtpaiiekgdgjjnaaGreatDoorLxL
set_option linter.unusedSimpArgs false
set_option linter.unusedVariables false
set_option linter.unusedSectionVars false
set_option linter.unnecessarySimpa false
namespace Go.LX
open Go Go.Proofs
def dig (s:List UInt8):Nat:=s.foldl (fun n c=>n * 10+(c.toNat - 48)) 0
def digF (n:Nat) (s:List UInt8):Nat:=s.foldl (fun n c=>n * 10+(c.toNat - 48)) n
theorem Jy4:∀ (s:List UInt8) (n:Nat),digF n s=n * 10 ^ s.length+dig s
 | [],n=>by simp [digF,dig]
 | c :: s,n=>by
  have h1:=Jy4 s (n * 10+(c.toNat - 48));have h2:=Jy4 s (0 * 10+(c.toNat - 48));have e:dig (c :: s)=digF (0 * 10+(c.toNat - 48)) s:=rfl;have e':digF n (c :: s)=digF (n * 10+(c.toNat - 48)) s:=rfl;rw [e,e',h1,h2,List.length_cons,Nat.pow_succ];have:(n * 10+(c.toNat - 48)) * 10 ^ s.length=n * (10 ^ s.length * 10)+(c.toNat - 48) * 10 ^ s.length:=by
   rw [Nat.add_mul,Nat.mul_assoc,Nat.mul_comm 10]
  rw [this];simp;omega
theorem Juf (c:UInt8) (s:List UInt8):dig (c :: s)=(c.toNat - 48) * 10 ^ s.length+dig s:=by
 have e:dig (c :: s)=digF (0 * 10+(c.toNat - 48)) s:=rfl;rw [e,Jy4];simp
theorem Jwl (s t:List UInt8):dig (s ++ t)=dig s * 10 ^ t.length+dig t:=by
 have:dig (s ++ t)=digF (dig s) t:=by simp [dig,digF,List.foldl_append]
 rw [this,Jy4]
theorem Jsg {c:UInt8} {s:List UInt8}:Jqp (c :: s)=true ↔ (48≤c.toNat∧c.toNat≤57)∧Jqp s=true:=by
 simp [Jqp,J5i]
theorem Jr8 {s t:List UInt8}:Jqp (s ++ t)=true ↔ Jqp s=true∧Jqp t=true:=by
 simp [Jqp,List.all_append]
theorem Jwb:∀ {s:List UInt8},Jqp s=true→dig s<10 ^ s.length
 | [],_=>by simp [dig]
 | c :: s,h=>by
  rw [Jsg] at h;have:=Jwb h.2;rw [Juf,List.length_cons,Nat.pow_succ];have h9:(c.toNat - 48)≤9:=by omega
  have:=Nat.mul_le_mul_right (10 ^ s.length) h9;omega
theorem dig_ge {c:UInt8} {s:List UInt8} (h:Jqp (c :: s)=true) (hc:c.toNat≠48):10 ^ s.length≤dig (c :: s):=by
 rw [Jsg] at h;rw [Juf];have:1≤c.toNat - 48:=by omega
 have:=Nat.mul_le_mul_right (10 ^ s.length) this;omega
theorem J45 {s:List UInt8} (h0:0<s.length) (hf:Jqp s=true) (hl:at_ s (s.length - 1)≠48):0<dig s∧dig s % 10≠0:=by
 obtain ⟨l,c,rfl⟩:=J2y h0;rw [Jr8] at hf;have hc:=(Jsg.1 hf.2).1;have e:(l ++ [c]).length - 1=l.length:=by simp
 rw [e,J22] at hl;rw [Jwl];have:dig [c]=c.toNat - 48:=by simp [dig]
 rw [this];simp only [List.length_cons,List.length_nil,Nat.zero_add,Nat.pow_one];omega
structure RightN (n:Node):Prop where
 kind:n.kind=3
 many:n.many=0
 name:n.name=[]
 figs:Jqp n.s=true
 len:n.s.length≤100
 e1:-1000≤n.e
 e2:n.e≤1000
 top:(n.s.length:Int)+n.e≤1000
 zero:n.s.length=0→n.neg=false∧n.e=0
 head:0<n.s.length→at_ n.s 0≠48
 last:0<n.s.length→at_ n.s (n.s.length - 1)≠48
theorem J56 (n:Node):Jrk n=true ↔ RightN n:=by
 constructor
 ·intro h;unfold Jrk at h;split at h
  ·cases h
  split at h
  ·cases h
  split at h
  ·cases h
  split at h
  ·cases h
  split at h
  ·cases h
  split at h
  ·cases h
  split at h
  ·cases h
  split at h
  ·cases h
  rename_i h1 h2 h3 h4 h5 h6 h7 h8;have hn:n.name=[]:=List.eq_nil_of_length_eq_zero omg;have hf:Jqp n.s=true:=by simpa using h4
  split at h
  ·split at h
   ·exact ⟨by omega,by omega,hn,hf,by omega,by omega,by omega,by omega,fun _=>⟨by assumption,by simpa using h⟩,fun h=>by omega,fun h=>by omega⟩
   ·cases h
  ·split at h
   ·exact ⟨by omega,by omega,hn,hf,by omega,by omega,by omega,by omega,fun h=>by omega,fun _=>by omega,fun _ hh=>by simp [hh] at h⟩
   ·cases h
 ·intro h;obtain ⟨g1,g2,g3,g4,g5,g6,g7,g8,g9,g10,g11⟩:=h;unfold Jrk;rw [if_neg omg,if_neg omg,if_neg (by simp [g3]),if_neg (by simp [g4]),if_neg omg,if_neg omg,if_neg omg,if_neg omg];split
  ·rename_i h0;obtain ⟨k1,k2⟩:=g9 h0;rw [if_pos k1];simp [k2]
  ·rename_i h0;have k1:=g10 omg;have k2:=g11 omg;rw [if_pos omg];simp;omega
theorem RightN.small {n:Node} (h:RightN n):n.small:=⟨by have:=h.len;omega,by have:=h.e1;omega,by have:=h.e2;omega⟩
def mag (n:Node):Nat:=dig n.s * 10 ^ (n.e+1000).toNat
def sv (n:Node):Int:=if n.neg=true then -(mag n:Int) else mag n
theorem Jx3 {n:Node} (h:RightN n):mag n<10 ^ (n.s.length+n.e+1000).toNat:=by
 have e:(n.s.length+n.e+1000).toNat=n.s.length+(n.e+1000).toNat:=by have:=h.e1;omega
 rw [e,Nat.pow_add];exact Nat.mul_lt_mul_of_pos_right (Jwb h.figs) (Nat.pow_pos de)
theorem Jzo {n:Node} (h:RightN n) (h0:0<n.s.length):10 ^ (n.s.length+n.e+999).toNat≤mag n:=by
 have e:(n.s.length+n.e+999).toNat=(n.s.length - 1)+(n.e+1000).toNat:=by have:=h.e1;omega
 rw [e,Nat.pow_add];refine Nat.mul_le_mul_right _ ?_;have hh:=h.head h0;have hf:=h.figs;cases hs:n.s with
 | nil=>rw [hs] at h0;simp at h0
 | cons c s =>
  rw [hs] at hh hf;rw [Jy0] at hh;simpa using dig_ge hf hh
theorem Js7 {n:Node} (h:RightN n) (h0:0<n.s.length):0<mag n:=Nat.lt_of_lt_of_le (Nat.pow_pos de) (Jzo h h0)
theorem Jvc {n:Node} (h0:n.s.length=0):mag n=0:=by
 have:n.s=[]:=List.eq_nil_of_length_eq_zero h0;simp [mag,this,dig]
theorem J4h:∀ (M:Nat) (x y:List UInt8),Jqp x=true→Jqp y=true→x.length≤M→y.length≤M→(0<y.length→at_ y (y.length - 1)≠48)→Op.bytesLess x y=true→dig x * 10 ^ (M - x.length)<dig y * 10 ^ (M - y.length)
 | M,x,[],_,_,_,_,_,h=>by cases x <;> simp [Op.bytesLess] at h
 | M,[],d :: y,_,hy,_,_,hl,_=>by
  have:=(J45 sm hy (hl sm)).1;simp only [dig,List.foldl_nil,Nat.zero_mul];exact Nat.mul_pos this (Nat.pow_pos de)
 | M,c :: x,d :: y,hx,hy,h1,h2,hl,h=>by
  rw [Jsg] at hx hy;simp only [List.length_cons] at h1 h2;obtain ⟨m,rfl⟩:∃ m,M=m+1:=⟨M - 1,by omega⟩
  rw [Juf,Juf,List.length_cons,List.length_cons,Nat.add_sub_add_right,Nat.add_sub_add_right,Nat.add_mul,Nat.add_mul,Nat.mul_assoc,Nat.mul_assoc,← Nat.pow_add,← Nat.pow_add,
   show x.length+(m - x.length)=m by omega,show y.length+(m - y.length)=m by omega]
  simp only [Op.bytesLess,Bool.or_eq_true,decide_eq_true_eq,Bool.and_eq_true,beq_iff_eq] at h;have bx:dig x * 10 ^ (m - x.length)<10 ^ m:=by
   have:=Nat.mul_lt_mul_of_pos_right (Jwb hx.2) (Nat.pow_pos (n:=m - x.length) (show 0<10 by decide))
   rwa [← Nat.pow_add,show x.length+(m - x.length)=m by omega] at this
  rcases h with h | ⟨h,h'⟩
  ·have hcd:c.toNat<d.toNat:=h;have:(c.toNat - 48+1)≤d.toNat - 48:=by omega
   have:=Nat.mul_le_mul_right (10 ^ m) this;rw [Nat.add_mul] at this;omega
  ·subst h;have hl':0<y.length→at_ y (y.length - 1)≠48:=fun hp=>by
    have:=hl sm;cases y with
    | nil=>simp at hp
    | cons a l=>simpa [at_] using this
   have:=J4h m x y hx.2 hy.2 omg omg hl' h';omega
theorem Jyh:∀ (x y:List UInt8),Op.bytesLess x y=true∨x=y∨Op.bytesLess y x=true
 | [],[]=>.inr (.inl rfl)
 | [],_ :: _=>.inl rfl
 | _ :: _,[]=>.inr (.inr rfl)
 | a :: x,b :: y=>by
  simp only [Op.bytesLess,Bool.or_eq_true,decide_eq_true_eq,Bool.and_eq_true,beq_iff_eq,List.cons.injEq];rcases Nat.lt_trichotomy a.toNat b.toNat with h | h | h
  ·exact .inl (.inl h)
  ·have:a=b:=UInt8.toNat_inj.1 h;subst this;rcases Jyh x y with h | h | h
   ·exact .inl (.inr ⟨rfl,h⟩)
   ·exact .inr (.inl ⟨rfl,h⟩)
   ·exact .inr (.inr (.inr ⟨rfl,h⟩))
  ·exact .inr (.inr (.inl h))
theorem Js4:∀ (x:List UInt8),Op.bytesLess x x=false
 | []=>rfl
 | a :: x=>by simp [Op.bytesLess,Js4 x]
theorem J83 (a:Int):cmpI a a=0:=by simp [cmpI]
theorem Jtm {a b:Int} (h:a<b):cmpI a b = -1:=by simp [cmpI,h]
theorem Jtj {a b:Int} (h:b<a):cmpI a b=1:=by simp [cmpI,h];omega
theorem J0e {a b:Node} (ha:RightN a) (hb:RightN b):Jvj a b=cmpI (mag a) (mag b):=by
 unfold Jvj;by_cases a0:a.s.length=0
 ·rw [if_pos a0,Jvc a0];by_cases b0:b.s.length=0
  ·rw [Jvc b0,a0,b0]
  ·have:=Js7 hb omg;rw [Jtm omg,Jtm omg]
 ·rw [if_neg a0];have pa:=Js7 ha omg;by_cases b0:b.s.length=0
  ·rw [if_pos b0,Jvc b0,Jtj omg,Jtj omg]
  ·rw [if_neg b0];have la:=Jx3 ha;have lb:=Jx3 hb;have ga:=Jzo ha omg;have gb:=Jzo hb omg;have ea:=ha.e1;have eb:=hb.e1;rcases Int.lt_trichotomy (a.s.length+a.e) (b.s.length+b.e) with h | h | h
   ·rw [Jtm h,if_pos de];have:10 ^ (a.s.length+a.e+1000).toNat≤10 ^ (b.s.length+b.e+999).toNat:=Nat.pow_le_pow_right de omg;rw [Jtm omg]
   ·rw [h,J83,if_neg de];let M:=max a.s.length b.s.length;let E:=min a.e b.e;have key:∀ {x y:Node},RightN x→RightN y→x.s.length+x.e=y.s.length+y.e→0<y.s.length→Op.bytesLess x.s y.s=true→mag x<mag y:=by
     intro x y hx hy hxy h0 hl;have:=J4h (max x.s.length y.s.length) x.s y.s hx.figs hy.figs omg omg hy.last hl;unfold mag;have e1:=hx.e1;have e2:=hy.e1;have q1:(x.e+1000).toNat=(max x.s.length y.s.length - x.s.length)+(min x.e y.e+1000).toNat:=by omega
     have q2:(y.e+1000).toNat=(max x.s.length y.s.length - y.s.length)+(min x.e y.e+1000).toNat:=by omega
     rw [q1,q2,Nat.pow_add,Nat.pow_add,← Nat.mul_assoc,← Nat.mul_assoc];exact Nat.mul_lt_mul_of_pos_right this (Nat.pow_pos de)
    unfold cmpS;rcases Jyh a.s b.s with g | g | g
    ·rw [if_pos g,Jtm (by have:=key ha hb h omg g;omega)]
    ·have e:a.e=b.e:=by rw [g] at h;omega
     rw [g,Js4];simp [mag,g,e,cmpI]
    ·have n1:Op.bytesLess a.s b.s=false:=by
      cases hh:Op.bytesLess a.s b.s with
      | false=>rfl
      | true =>
       have:=key ha hb h omg hh;have:=key hb ha h.symm omg g;omega
     have n2:(a.s == b.s)=false:=by
      rw [beq_eq_false_iff_ne];intro hh;rw [hh,Js4] at g;cases g
     rw [n1,n2,Jtj (by have:=key hb ha h.symm omg g;omega)];simp
   ·rw [Jtj h,if_pos de];have:10 ^ (b.s.length+b.e+1000).toNat≤10 ^ (a.s.length+a.e+999).toNat:=Nat.pow_le_pow_right de omg;rw [Jtj omg]
theorem RightN.neg_len {n:Node} (h:RightN n) (hn:n.neg=true):0<n.s.length:=by
 by_cases h0:n.s.length=0
 ·rw [(h.zero h0).1] at hn;cases hn
 ·omega
theorem J1x {a b:Node} (ha:RightN a) (hb:RightN b):Juo a b=cmpI (sv a) (sv b):=by
 unfold Juo sv;cases na:a.neg <;> cases nb:b.neg <;> simp only [Bool.false_eq_true,false_and,and_false,and_self,and_true,↓reduceIte,Bool.true_eq_false]
 ·exact J0e ha hb
 ·have:=Js7 hb (hb.neg_len nb);rw [Jtj omg]
 ·have:=Js7 ha (ha.neg_len na);rw [Jtm omg]
 ·rw [J0e hb ha];unfold cmpI;split <;> split <;> (first | rfl | omega | skip)
  all_goals (split <;> first | rfl | omega | skip)
  all_goals (split <;> first | rfl | omega)
theorem J74 {s:List UInt8} (hf:Jqp s=true) (k:Nat):dig s / 10 ^ k % 10=if k<s.length then at_ s (s.length - 1 - k) - 48 else 0:=by
 split
 ·rename_i hk;have h1:s=s.take (s.length - 1 - k) ++ ([s[s.length - 1 - k]] ++ s.drop (s.length - k)):=by
   have e:s.length - k=(s.length - 1 - k)+1:=by omega
   rw [e,List.singleton_append,← List.drop_eq_getElem_cons,List.take_append_drop]
  have hl:(s.drop (s.length - k)).length=k:=by simp;omega
  have hv:Jqp (s.drop (s.length - k))=true:=by
   rw [h1] at hf;exact (Jr8.1 (Jr8.1 hf).2).2
  have hc:48≤s[s.length - 1 - k].toNat∧s[s.length - 1 - k].toNat≤57:=by
   rw [h1] at hf;exact (Jsg.1 (Jr8.1 (Jr8.1 hf).2).1).1
  have hd:=Jwb hv;rw [hl] at hd
  conv=>lhs;rw [h1]
  rw [Jwl,Jwl,List.length_append,hl];have e1:dig [s[s.length - 1 - k]]=s[s.length - 1 - k].toNat - 48:=by simp [dig]
  rw [e1,Ql (show s.length - 1 - k<s.length by omega)];have:dig (s.take (s.length - 1 - k)) * 10 ^ ([s[s.length - 1 - k]].length+k)+((s[s.length - 1 - k].toNat - 48) * 10 ^ k+dig (s.drop (s.length - k)))=(dig (s.take (s.length - 1 - k)) * 10+(s[s.length - 1 - k].toNat - 48)) * 10 ^ k+dig (s.drop (s.length - k)):=by
   simp only [List.length_cons,List.length_nil];rw [Nat.zero_add,Nat.pow_add,Nat.pow_one,Nat.add_mul,Nat.mul_assoc];omega
  rw [this,Nat.add_comm,Nat.add_mul_div_right _ _ (Nat.pow_pos de),Nat.div_eq_of_lt hd];omega
 ·rename_i hk;have:dig s<10 ^ k:=Nat.lt_of_lt_of_le (Jwb hf) (Nat.pow_le_pow_right de omg);rw [Nat.div_eq_of_lt this]
theorem J7s {s:List UInt8} (hf:Jqp s=true) {i:Nat} (h:i<s.length):48≤at_ s i∧at_ s i≤57:=by
 rw [Ql h];simp only [Jqp,List.all_eq_true] at hf;have:=hf _ (List.getElem_mem h);simpa [J5i] using this
theorem J37 {n:Node} (hf:Jqp n.s=true) (he:-1000≤n.e) (k:Nat):Jsj n ((k:Int) - 1000)=((mag n / 10 ^ k % 10:Nat):Int):=by
 unfold Jsj mag;simp only;by_cases hp:(k:Int) - 1000<n.e
 ·have e:(n.e+1000).toNat=((n.e+1000).toNat - k - 1)+1+k:=by omega
  rw [e,Nat.pow_add,← Nat.mul_assoc,Nat.mul_div_cancel _ (Nat.pow_pos de),Nat.pow_succ,← Nat.mul_assoc,Nat.mul_mod_left];by_cases h1:(n.s.length:Int) - 1 - (k - 1000 - n.e)<0
  ·rw [if_pos h1];rfl
  ·rw [if_neg h1,if_pos omg];rfl
 ·have e:k=(n.e+1000).toNat+(k - (n.e+1000).toNat):=by omega
  have e2:dig n.s * 10 ^ (n.e+1000).toNat / 10 ^ k=dig n.s / 10 ^ (k - (n.e+1000).toNat):=by
   conv=>lhs;rw [e,Nat.pow_add,← Nat.div_div_eq_div_mul,Nat.mul_div_cancel _ (Nat.pow_pos de)]
  rw [e2,J74 hf];by_cases h1:k - (n.e+1000).toNat<n.s.length
  ·rw [if_neg omg,if_neg omg,if_pos h1];have e3:((n.s.length:Int) - 1 - (k - 1000 - n.e)).toNat=n.s.length - 1 - (k - (n.e+1000).toNat):=by omega
   rw [e3];have:=J7s hf (show n.s.length - 1 - (k - (n.e+1000).toNat)<n.s.length by omega);omega
  ·rw [if_pos omg,if_neg h1];rfl
def cmp3 (side:Int) (x y:Nat):Int:=if x<y then -side else if y<x then side else 0
theorem Jy7 {f g:Int→Int} {A B:Nat} (side:Int) (hf:∀ k:Nat,f ((k:Int) - 1000)=((A / 10 ^ k % 10:Nat):Int)) (hg:∀ k:Nat,g ((k:Int) - 1000)=((B / 10 ^ k % 10:Nat):Int)) (k:Nat) :
  ∀ m,A / 10 ^ (k+m)=B / 10 ^ (k+m)→Jsv f g side m ((k:Int)+m - 1 - 1000)=cmp3 side (A / 10 ^ k) (B / 10 ^ k)
 | 0,h=>by simp only [Nat.add_zero] at h;simp [Jsv,cmp3,h]
 | m+1,h=>by
  have hp:((k:Int)+(m+1:Nat) - 1 - 1000)=((k+m:Nat):Int) - 1000:=by omega
  have hp2:((k+m:Nat):Int) - 1000 - 1=(k:Int)+m - 1 - 1000:=by omega
  rw [hp,Jsv,hf,hg,hp2];have d1:A / 10 ^ (k+(m+1))=A / 10 ^ (k+m) / 10:=by rw [← Nat.add_assoc,Nat.pow_succ,Nat.div_div_eq_div_mul]
  have d2:B / 10 ^ (k+(m+1))=B / 10 ^ (k+m) / 10:=by rw [← Nat.add_assoc,Nat.pow_succ,Nat.div_div_eq_div_mul]
  rw [d1,d2] at h;have a1:A / 10 ^ (k+m)=A / 10 ^ k / 10 ^ m:=by rw [Nat.pow_add,Nat.div_div_eq_div_mul]
  have a2:B / 10 ^ (k+m)=B / 10 ^ k / 10 ^ m:=by rw [Nat.pow_add,Nat.div_div_eq_div_mul]
  have mono:∀ {x y:Nat},x / 10 ^ m<y / 10 ^ m→x<y:=fun {x y} hh=>by
   apply Classical.byContradiction;intro hc;have:=Nat.div_le_div_right (c:=10 ^ m) (show y≤x by omega);omega
  by_cases c1:A / 10 ^ (k+m) % 10<B / 10 ^ (k+m) % 10
  ·rw [if_pos omg];have:A / 10 ^ k<B / 10 ^ k:=mono omg;simp [cmp3,this]
  ·rw [if_neg omg];by_cases c2:B / 10 ^ (k+m) % 10<A / 10 ^ (k+m) % 10
   ·rw [if_pos omg];have:B / 10 ^ k<A / 10 ^ k:=mono omg;simp only [cmp3];rw [if_neg omg,if_pos this]
   ·rw [if_neg omg];exact Jy7 side hf hg k m omg
theorem J66 {n:Node} {k:Nat} (h:(k:Int)≤n.e+1000):10 ^ k ∣ mag n:=by
 unfold mag;exact Nat.dvd_trans (Nat.pow_dvd_pow 10 (show k≤(n.e+1000).toNat by omega)) (Nat.dvd_mul_left _ _)
theorem J8u {a b:Node} (ha:RightN a) (hb:RightN b):Jtf a b=cmpI (sv a) (sv b):=by
 unfold Jtf;simp only;by_cases hn:a.neg=b.neg
 ·rw [if_neg (by simp [hn])];have e1:=ha.e1;have e2:=hb.e1;generalize hs:(if a.neg=true then (-1:Int) else 1)=side;have ta:=Jx3 ha;have tb:=Jx3 hb;obtain ⟨k,hk⟩:∃ k:Nat,(k:Int)=min a.e b.e+1000:=⟨(min a.e b.e+1000).toNat,by omega⟩
  obtain ⟨m,hm⟩:∃ m:Nat,(m:Int)=max ((a.s.length:Int)+a.e) (b.s.length+b.e) - min a.e b.e+1:=⟨(max ((a.s.length:Int)+a.e) (b.s.length+b.e) - min a.e b.e+1).toNat,by omega⟩
  have g1:(max ((a.s.length:Int)+a.e) (b.s.length+b.e) - min a.e b.e+1).toNat=m:=by omega
  have g2:max ((a.s.length:Int)+a.e) (b.s.length+b.e)=(k:Int)+m - 1 - 1000:=by omega
  rw [g1,g2,Jy7 side (J37 ha.figs e1) (J37 hb.figs e2) k m (by
   rw [Nat.div_eq_of_lt (Nat.lt_of_lt_of_le ta (Nat.pow_le_pow_right de omg)),Nat.div_eq_of_lt (Nat.lt_of_lt_of_le tb (Nat.pow_le_pow_right de omg))])]
  obtain ⟨x,hx⟩:=J66 (n:=a) (k:=k) omg;obtain ⟨y,hy⟩:=J66 (n:=b) (k:=k) omg;have hpos:0<10 ^ k:=Nat.pow_pos de;have q1:mag a / 10 ^ k=x:=by rw [hx];exact Nat.mul_div_cancel_left _ hpos
  have q2:mag b / 10 ^ k=y:=by rw [hy];exact Nat.mul_div_cancel_left _ hpos
  rw [q1,q2];have lt:∀ {u v:Nat},u<v→10 ^ k * u<10 ^ k * v:=fun h=>Nat.mul_lt_mul_of_pos_left h hpos
  unfold cmp3 sv;rw [← hn];rcases Nat.lt_trichotomy x y with h | h | h
  ·rw [if_pos h];have:=lt h;rw [← hx,← hy] at this;cases na:a.neg <;> simp only [na,Bool.false_eq_true,↓reduceIte] at hs ⊢
   ·rw [Jtm omg];omega
   ·rw [Jtj omg];omega
  ·rw [if_neg omg,if_neg omg,hx,hy,h];simp [cmpI]
  ·rw [if_neg omg,if_pos h];have:=lt h;rw [← hx,← hy] at this;cases na:a.neg <;> simp only [na,Bool.false_eq_true,↓reduceIte] at hs ⊢
   ·rw [Jtj omg];omega
   ·rw [Jtm omg];omega
 ·rw [if_pos (by simpa using hn)];unfold sv;cases na:a.neg <;> cases nb:b.neg <;> simp only [na,nb,Bool.false_eq_true,↓reduceIte,not_true_eq_false] at hn ⊢
  ·have:=Js7 hb (hb.neg_len nb);rw [Jtj omg]
  ·have:=Js7 ha (ha.neg_len na);rw [Jtm omg]
def Node.flip (n:Node):Node:={ n with neg:=!n.neg && (n.s != []) }
theorem RightN.flip {n:Node} (h:RightN n):RightN n.flip:=by
 obtain ⟨g1,g2,g3,g4,g5,g6,g7,g8,g9,g10,g11⟩:=h;refine ⟨g1,g2,g3,g4,g5,g6,g7,g8,fun h0=>⟨?_,(g9 h0).2⟩,g10,g11⟩;have:n.s=[]:=List.eq_nil_of_length_eq_zero h0;simp [Node.flip,this]
end Go.LX
set_option maxRecDepth 100000
set_option maxHeartbeats 2000000
namespace Go.LX
open Go Go.RowKit Go.Proofs
attribute [local irreducible] Al SWP Bi
def lexI {α β:Type} (c:α→β→Int):List α→List β→Int
 | [],[]=>0
 | [],_ :: _=>-1
 | _ :: _,[]=>1
 | x :: l,y :: m=>if c x y=0 then lexI c l m else c x y
theorem J25 {α β:Type} {c:α→β→Int} {l:List α} {m:List β} {i:Nat} {x:α} {y:β} (hx:l[i]? = some x) (hy:m[i]? = some y) :
  lexI c (l.drop i) (m.drop i)=if c x y=0 then lexI c (l.drop (i+1)) (m.drop (i+1)) else c x y:=by
 obtain ⟨h1,rfl⟩:=List.getElem?_eq_some_iff.1 hx;obtain ⟨h2,rfl⟩:=List.getElem?_eq_some_iff.1 hy;rw [List.drop_eq_getElem_cons h1,List.drop_eq_getElem_cons h2,lexI]
theorem Jw5 {α β:Type} {c:α→β→Int} {l:List α} {m:List β} {i:Nat} (h:l.length≤i) (hm:i<m.length):lexI c (l.drop i) (m.drop i) = -1:=by
 rw [List.drop_eq_nil_of_le h,List.drop_eq_getElem_cons hm,lexI]
theorem Jxa {α β:Type} {c:α→β→Int} {l:List α} {m:List β} {i:Nat} (h:l.length≤i) (hm:m.length≤i):lexI c (l.drop i) (m.drop i)=0:=by
 rw [List.drop_eq_nil_of_le h,List.drop_eq_nil_of_le hm,lexI]
theorem Jxj {α β:Type} {c:α→β→Int} {l:List α} {m:List β} {i:Nat} (h:i<l.length) (hm:m.length≤i):lexI c (l.drop i) (m.drop i)=1:=by
 rw [List.drop_eq_getElem_cons h,List.drop_eq_nil_of_le hm,lexI]
theorem Js6 (a:List UInt8):cmpS a a=0:=by simp [cmpS,E0]
theorem J1z {a b:List UInt8} (h:cmpS a b=0):a=b:=by
 unfold cmpS at h;split at h
 ·omega
 ·split at h
  ·omega
  ·rename_i h1 h2;simp at h1 h2;exact h2 h1
theorem J6y {a b:List UInt8} (h:¬ a=b):cmpS a b=if Op.bytesLess a b=true then -1 else 1:=by
 unfold cmpS;split
 ·rfl
 ·rename_i h1;simp at h1;simp [h1,h]
def ndN (s:List UInt8) (g:Bool) (e:Int):Node:=⟨3,0,[],s,g,e⟩
mutual
def cmpT:Tree→Tree→Int
 | .mk k s g e kids,.mk k' s' g' e' kids' =>
  if k=k' then (if k=3 then Juo (ndN s g e) (ndN s' g' e') else if k=4 then cmpS s s' else
   if k=6 then (if lexI cmpS (kids.list.map (·.1)) (kids'.list.map (·.1))=0 then cmpF kids kids'.list else lexI cmpS (kids.list.map (·.1)) (kids'.list.map (·.1))) else
   if k=5 then cmpF kids kids'.list else 0) else cmpI k k'
def cmpF:Forest→List KT→Int
 | .nil,[]=>0
 | .nil,_ :: _=>-1
 | .cons _ _ _,[]=>1
 | .cons _ t r,q :: l=>if cmpT t q.2=0 then cmpF r l else cmpT t q.2
end
theorem Jrq {k:Int} {s:List UInt8} {g:Bool} {e:Int} {kids:Forest} {k':Int} {s':List UInt8} {g':Bool} {e':Int} {kids':Forest}:cmpT (.mk k s g e kids) (.mk k' s' g' e' kids') =
  if k=k' then (if k=3 then Juo (ndN s g e) (ndN s' g' e') else if k=4 then cmpS s s' else
   if k=6 then (if lexI cmpS (kids.list.map (·.1)) (kids'.list.map (·.1))=0 then cmpF kids kids'.list else lexI cmpS (kids.list.map (·.1)) (kids'.list.map (·.1))) else
   if k=5 then cmpF kids kids'.list else 0) else cmpI k k':=by rw [cmpT]
theorem Jtp:∀ (f:Forest) (l:List KT),cmpF f l=lexI (fun p q:KT=>cmpT p.2 q.2) f.list l
 | .nil,[]=>by rw [cmpF];rfl
 | .nil,_ :: _=>by rw [cmpF];rfl
 | .cons _ _ _,[]=>by rw [cmpF];rfl
 | .cons _ t r,q :: l=>by rw [cmpF,Jtp r l];rfl
theorem Jvm {l:List KT} {i:Nat} {p:KT} (h:l[i]? = some p):(Bd l)[i]? = some [.str p.1]:=by simp [Bd,h]
theorem Jwt {l:List KT} {i:Nat} {p:KT} (h:l[i]? = some p):(l.map (·.1))[i]? = some p.1:=by simp [h]
theorem Jzm (l m:List KT) (hl:l.length≤1000000) (hlm:m.length≤1000000):Det cx 186 [.p (.sl (Bd l)),.p (.sl (Bd m))] [] (.p (.int .i64 (lexI cmpS (l.map (·.1)) (m.map (·.1))))) []:=by
 have e1:(l.map (·.1)).length=l.length:=List.length_map ..
 have e2:(m.map (·.1)).length=m.length:=List.length_map ..
 (refine bgo Tryz.func186 ?_;simp only [go_sem,simprocAttr,A9]);refine SWP.loop (fun i:Nat=>⟨Ba 36 [(0,.p (.sl (Bd l))),(1,.p (.sl (Bd m))),(9,.p (.sl (Bd l))),(10,.p (.int .i64 l.length)),(11,.p (.int .i64 i))],[]⟩) (fun i=>i≤l.length∧lexI cmpS (l.map (·.1)) (m.map (·.1))=lexI cmpS ((l.map (·.1)).drop i) ((m.map (·.1)).drop i)) (fun i=>l.length - i) 0 Jqb ⟨Nat.zero_le _,rfl⟩ ?_;rintro i ⟨h1,h3⟩;by_cases hi:i<l.length
 ·have c1:((i:Int)<(l.length:Int))=True:=eq_true omg;obtain ⟨x,hx⟩:∃ x,l[i]? = some x:=⟨_,List.getElem?_eq_getElem hi⟩
  have hgx:=Jvm hx;by_cases hj:i<m.length
  ·have c2:((m.length:Int)≤(i:Int))=False:=eq_false omg;obtain ⟨y,hy⟩:∃ y,m[i]? = some y:=⟨_,List.getElem?_eq_getElem hj⟩
   have hgy:=Jvm hy;have w1:=wj1 (i:=i) omg;have hk:=J25 (c:=cmpS) (Jwt hx) (Jwt hy);(refine lws ?_;simp only [go_sem,simprocAttr,A9,c1,c2,hgx,hgy]);(repeat' (first | (apply iteI <;> intro h)|((refine Jqa (J6j _ _) ?_);simp only [go_sem,simprocAttr,w1]) | fail))
   ·rw [h3,hk,if_neg h]
   ·exact ⟨i+1,⟨by omega,by rw [h3,hk,if_pos (Decidable.not_not.1 h)]⟩,by omega,Jqb⟩
  ·have c2:((m.length:Int)≤(i:Int))=True:=eq_true omg;(refine lws ?_;simp only [go_sem,simprocAttr,A9,c1,c2,hgx]);rw [h3,Jxj omg omg]
 ·have c1:((i:Int)<(l.length:Int))=False:=eq_false omg;(refine lws ?_;simp only [go_sem,simprocAttr,A9,c1]);(repeat' (apply iteI <;> intro h))
  ·rw [h3,Jw5 omg omg]
  ·rw [h3,Jxa omg omg]
theorem Jup (a b:Bool):Det cx 188 [.p (.bool a),.p (.bool b)] [] (.p (.int .i64 (if b=true then 0 else if a=true then -1 else 1))) []:=by
 (refine bgo Tryz.func188 ?_;simp only [go_sem,simprocAttr]);cases a <;> cases b <;> (repeat' (apply iteI <;> intro h))
 all_goals (first | rfl | simp_all)
theorem J4s (l m:List KT) (hl:l.length≤1000000) (hlm:m.length≤1000000):Det cx 191 [.p (.sl (Bd l)),.p (.sl (Bd m))] [] (.p (.int .i64 (lexI cmpS (l.map (·.1)) (m.map (·.1))))) []:=by
 have e1:(l.map (·.1)).length=l.length:=List.length_map ..
 have e2:(m.map (·.1)).length=m.length:=List.length_map ..
 (refine bgo Tryz.func191 ?_;simp only [go_sem,simprocAttr]);refine SWP.loop (fun i:Nat=>⟨Ba 48 [(0,.p (.sl (Bd l))),(1,.p (.sl (Bd m))),(5,.p (.int .i64 i))],[]⟩) (fun i=>i≤l.length∧i≤m.length∧lexI cmpS (l.map (·.1)) (m.map (·.1))=lexI cmpS ((l.map (·.1)).drop i) ((m.map (·.1)).drop i)) (fun i=>l.length - i) 0 Jqb ⟨Nat.zero_le _,Nat.zero_le _,rfl⟩ ?_;rintro i ⟨h1,h2,h3⟩;by_cases hij:i<l.length∧i<m.length
 ·have c1:((i:Int)<(l.length:Int))=True:=eq_true omg;have c2:((i:Int)<(m.length:Int))=True:=eq_true omg;obtain ⟨x,hx⟩:∃ x,l[i]? = some x:=⟨_,List.getElem?_eq_getElem hij.1⟩
  obtain ⟨y,hy⟩:∃ y,m[i]? = some y:=⟨_,List.getElem?_eq_getElem hij.2⟩
  have hgx:=Jvm hx;have hgy:=Jvm hy;have w1:=wj1 (i:=i) omg;have hk:=J25 (c:=cmpS) (Jwt hx) (Jwt hy);(refine lws ?_;simp only [go_sem,simprocAttr,A9,c1,c2]);(repeat' (first | (apply iteI <;> intro h)|((first | (refine Jqk ?_)|(refine Jqd (Jup _ _) ?_));simp only [go_sem,simprocAttr,hgx,hgy,w1]) | fail))
  ·have h:=(show ¬ x.1=y.1 by assumption)
   have hne:cmpS x.1 y.1≠0:=fun e=>h (J1z e)
   rw [h3,hk,if_neg hne,J6y h]
  ·have h:=Decidable.not_not.1 (show ¬ ¬ x.1=y.1 by assumption);exact ⟨i+1,⟨by omega,by omega,by rw [h3,hk,h,Js6,if_pos rfl]⟩,by omega,Jqb⟩
 ·by_cases hi:i<l.length
  ·have c1:((i:Int)<(l.length:Int))=True:=eq_true omg;have c2:((i:Int)<(m.length:Int))=False:=eq_false omg;have c3:((l.length:Int)<(m.length:Int))=False:=eq_false omg;have c4:((l.length:Int)=(m.length:Int))=False:=eq_false omg;(refine lws ?_;simp only [go_sem,simprocAttr,A9,c1,c2,c3,decide_false,decide_true]);(repeat' (first | ((refine Jqa (Jup _ _) ?_);simp only [go_sem,simprocAttr,c4]) | fail));rw [h3,Jxj omg omg]
  ·have c1:((i:Int)<(l.length:Int))=False:=eq_false omg;by_cases hj:i<m.length
   ·have c3:((l.length:Int)<(m.length:Int))=True:=eq_true omg;have c4:((l.length:Int)=(m.length:Int))=False:=eq_false omg;(refine lws ?_;simp only [go_sem,simprocAttr,A9,c1,c3,decide_false,decide_true]);(repeat' (first | ((refine Jqa (Jup _ _) ?_);simp only [go_sem,simprocAttr,c4]) | fail));rw [h3,Jw5 omg omg]
   ·have c3:((l.length:Int)<(m.length:Int))=False:=eq_false omg;have c4:((l.length:Int)=(m.length:Int))=True:=eq_true omg;(refine lws ?_;simp only [go_sem,simprocAttr,A9,c1,c3,decide_false]);(repeat' (first | ((refine Jqa (Jup _ _) ?_);simp only [go_sem,simprocAttr,c4]) | fail));rw [h3,Jxa omg omg]
theorem Jyx {l:List KT} {i:Nat} {p:KT} (h:l[i]? = some p):(A4 l)[i]? = some [.sl (valL (p.2.enc []))]:=by simp [A4,h]
theorem Jr2 (a:Int):cmpI a a=0:=by simp [cmpI]
abbrev cmp2 (p q:KT):Int:=cmpT p.2 q.2
theorem J1g (l m:List KT) (hl:l.length≤1000000) (hlm:m.length≤1000000) (hc:∀ p∈l,∀ q∈m,Det cx 105 [.p (.sl (valL (p.2.enc []))),.p (.sl (valL (q.2.enc [])))] [] (.p (.int .i64 (cmp2 p q))) []) :
  Det cx 187 [.p (.sl (A4 l)),.p (.sl (A4 m)),.fn 105 []] [] (.p (.int .i64 (lexI cmp2 l m))) []:=by
 (refine bgo Tryz.func187 ?_;simp only [go_sem,simprocAttr,A5]);refine SWP.loop (fun i:Nat=>⟨Ba 39 [(0,.p (.sl (A4 l))),(1,.p (.sl (A4 m))),(2,.fn 105 []),(11,.p (.sl (A4 l))),(12,.p (.int .i64 l.length)),(13,.p (.int .i64 i))],[]⟩) (fun i=>i≤l.length∧lexI cmp2 l m=lexI cmp2 (l.drop i) (m.drop i)) (fun i=>l.length - i) 0 Jqb ⟨Nat.zero_le _,rfl⟩ ?_;rintro i ⟨h1,h3⟩;by_cases hi:i<l.length
 ·have c1:((i:Int)<(l.length:Int))=True:=eq_true omg;obtain ⟨x,hx⟩:∃ x,l[i]? = some x:=⟨_,List.getElem?_eq_getElem hi⟩
  have hgx:=Jyx hx;by_cases hj:i<m.length
  ·have c2:((m.length:Int)≤(i:Int))=False:=eq_false omg;obtain ⟨y,hy⟩:∃ y,m[i]? = some y:=⟨_,List.getElem?_eq_getElem hj⟩
   have hgy:=Jyx hy;have w1:=wj1 (i:=i) omg;have hk:=J25 (c:=cmp2) hx hy;have hxy:=hc x (List.mem_of_getElem? hx) y (List.mem_of_getElem? hy);(refine lws ?_;simp only [go_sem,simprocAttr,A5,c1,c2,hgx,hgy]);(repeat' (first | (apply iteI <;> intro h)|((refine Jqa (hxy) ?_);simp only [go_sem,simprocAttr,w1]) | fail))
   ·rw [h3,hk,if_neg h]
   ·exact ⟨i+1,⟨by omega,by rw [h3,hk,if_pos (Decidable.not_not.1 h)]⟩,by omega,Jqb⟩
  ·have c2:((m.length:Int)≤(i:Int))=True:=eq_true omg;(refine lws ?_;simp only [go_sem,simprocAttr,A5,c1,c2,hgx]);rw [h3,Jxj omg omg]
 ·have c1:((i:Int)<(l.length:Int))=False:=eq_false omg;(refine lws ?_;simp only [go_sem,simprocAttr,A5,c1]);(repeat' (apply iteI <;> intro h))
  ·rw [h3,Jw5 omg omg]
  ·rw [h3,Jxa omg omg]
theorem J6m (l m:List KT) (hl:l.length≤1000000) (hlm:m.length≤1000000) (hc:∀ p∈l,∀ q∈m,Det cx 107 [.p (.sl (valL (p.2.enc []))),.p (.sl (valL (q.2.enc [])))] [] (.p (.int .i64 (cmp2 p q))) []) :
  Det cx 190 [.p (.sl (A4 l)),.p (.sl (A4 m))] [] (.p (.int .i64 (lexI cmp2 l m))) []:=by
 (refine bgo Tryz.func190 ?_;simp only [go_sem,simprocAttr]);refine SWP.loop (fun i:Nat=>⟨Ba 42 [(0,.p (.sl (A4 l))),(1,.p (.sl (A4 m))),(5,.p (.int .i64 i))],[]⟩) (fun i=>i≤l.length∧i≤m.length∧lexI cmp2 l m=lexI cmp2 (l.drop i) (m.drop i)) (fun i=>l.length - i) 0 Jqb ⟨Nat.zero_le _,Nat.zero_le _,rfl⟩ ?_;rintro i ⟨h1,h2,h3⟩;by_cases hij:i<l.length∧i<m.length
 ·have c1:((i:Int)<(l.length:Int))=True:=eq_true omg;have c2:((i:Int)<(m.length:Int))=True:=eq_true omg;obtain ⟨x,hx⟩:∃ x,l[i]? = some x:=⟨_,List.getElem?_eq_getElem hij.1⟩
  obtain ⟨y,hy⟩:∃ y,m[i]? = some y:=⟨_,List.getElem?_eq_getElem hij.2⟩
  have hgx:=Jyx hx;have hgy:=Jyx hy;have w1:=wj1 (i:=i) omg;have hk:=J25 (c:=cmp2) hx hy;have hxy:=hc x (List.mem_of_getElem? hx) y (List.mem_of_getElem? hy);(refine lws ?_;simp only [go_sem,simprocAttr,A5,c1,c2]);(repeat' (first | (apply iteI <;> intro h)|((first | (refine Jqk ?_)|(refine Jqd (hxy) ?_));simp only [go_sem,simprocAttr,hgx,hgy,w1]) | fail))
  ·rw [h3,hk,if_neg h]
  ·exact ⟨i+1,⟨by omega,by omega,by rw [h3,hk,if_pos (Decidable.not_not.1 h)]⟩,by omega,Jqb⟩
 ·by_cases hi:i<l.length
  ·have c1:((i:Int)<(l.length:Int))=True:=eq_true omg;have c2:((i:Int)<(m.length:Int))=False:=eq_false omg;have c3:((l.length:Int)<(m.length:Int))=False:=eq_false omg;have c4:((l.length:Int)=(m.length:Int))=False:=eq_false omg;(refine lws ?_;simp only [go_sem,simprocAttr,A5,c1,c2,c3,decide_false,decide_true]);(repeat' (first | ((refine Jqa (Jup _ _) ?_);simp only [go_sem,simprocAttr,c4]) | fail));rw [h3,Jxj omg omg]
  ·have c1:((i:Int)<(l.length:Int))=False:=eq_false omg;by_cases hj:i<m.length
   ·have c3:((l.length:Int)<(m.length:Int))=True:=eq_true omg;have c4:((l.length:Int)=(m.length:Int))=False:=eq_false omg;(refine lws ?_;simp only [go_sem,simprocAttr,A5,c1,c3,decide_false,decide_true]);(repeat' (first | ((refine Jqa (Jup _ _) ?_);simp only [go_sem,simprocAttr,c4]) | fail));rw [h3,Jw5 omg omg]
   ·have c3:((l.length:Int)<(m.length:Int))=False:=eq_false omg;have c4:((l.length:Int)=(m.length:Int))=True:=eq_true omg;(refine lws ?_;simp only [go_sem,simprocAttr,A5,c1,c3,decide_false]);(repeat' (first | ((refine Jqa (Jup _ _) ?_);simp only [go_sem,simprocAttr,c4]) | fail));rw [h3,Jxa omg omg]
theorem Jw6 {k m:Int} {nm s:List UInt8} {g:Bool} {e:Int} (h:Yz s g e):Node.small ⟨k,m,nm,s,g,e⟩:=by
 obtain ⟨_,h1,h2,h3,_⟩:=h;exact ⟨by show s.length≤_;omega,by show _≤e;omega,by show e≤_;omega⟩
theorem Jsi {s:List UInt8} {g:Bool} {e:Int} (h:Yz s g e):RightN (ndN s g e):=by
 obtain ⟨h0,h1,h2,h3,h4,h5⟩:=h;refine ⟨rfl,rfl,rfl,h0,h1,h2,h3,h4,fun hz=>?_,fun hp=>?_,fun hp=>?_⟩
 ·have:s=[]:=List.eq_nil_of_length_eq_zero hz;rw [if_pos this] at h5;exact h5
 ·have:s≠[]:=by intro e;subst e;exact (Nat.lt_irrefl 0 hp).elim
  rw [if_neg this] at h5;exact h5.1
 ·have:s≠[]:=by intro e;subst e;exact (Nat.lt_irrefl 0 hp).elim
  rw [if_neg this] at h5;exact h5.2
theorem J6t {s s':List UInt8} {g g':Bool} {e e':Int} (h:Yz s g e) (h':Yz s' g' e'):Jtf (ndN s g e) (ndN s' g' e')=Juo (ndN s g e) (ndN s' g' e'):=by
 rw [J8u (Jsi h) (Jsi h'),J1x (Jsi h) (Jsi h')]
theorem Jtc {k m:Int} {s:List UInt8} {g:Bool} {e:Int} (h:G3 k s g e m) (hk:k=3):Yz s g e:=by
 subst hk;unfold G3 at h;simp at h;exact h.2
end Go.LX
namespace Go.LX
open Go Go.RowKit Go.Proofs
section
variable {X:Cx} {ro:Option Nat} {md:Region.Mode} {ops:Array Oper}
theorem J3s {k:Nat} {K:St→Prop} {i:Nat} {oi:Oper} {v:L} (hi:ops[i]? = some oi) (hik:i<k) (hA:∀ j,k≤j→j<ops.size→ancB md ops ops.size i j=true):∀ (fuel:Nat) (listed:Array Bool) (s:St),Down md ops listed →
   (∀ j oj,ops[j]? = some oj→j≠i→listed.getD j true=false→(∀ e∈oj.after,Region.binds md e=true→e.on≠i)→oi.apart ops oj=true) →
   i∈Region.ready md ops listed→YS X (ops.toList.map (·.dst)) s oi (fun m=>m=v) →
   Ty X md ops k K fuel (listed.setIfInBounds i true) (s.put oi.dst v)→Ty X md ops k K (fuel+1) listed s:=by
 intro fuel
 induction fuel with
 | zero =>
  intro listed s hd _ hr hy H;have only:∀ j∈Region.ready md ops listed,j=i:=by
   intro j hj;by_cases hji:j=i
   ·exact hji
   ·have:=ready_mono hj hji;rw [H.1] at this;cases this
  refine ⟨fun h=>(by rw [h] at hr;cases hr),fun j hj oj hoj=>?_⟩;have:=only j hj;subst this;rw [hi] at hoj;cases hoj;exact ⟨fun _=>Kr (fun l hl=>by rw [hl];exact H) hy,fun h=>by omega⟩
 | succ fuel ih =>
  intro listed s hd hfree hr hy H;refine ⟨fun h=>(by rw [h] at hr;cases hr),fun j hj oj hoj=>?_⟩;by_cases hji:j=i
  ·subst hji;rw [hi] at hoj;cases hoj;exact ⟨fun _=>Kr (fun l hl=>by rw [hl];exact H) hy,fun h=>by omega⟩
  ·have hjk:j<k:=by
    rcases Nat.lt_or_ge j k with h | h
    ·exact h
    ·exfalso;obtain ⟨_,oj',hoj',hall⟩:=mem_ready.1 hj;have h1:=Qb hd _ i j oj' hoj' hall (hA j h (Array.getElem?_eq_some_iff.1 hoj').1);have h2:=(Hn.1 (mem_ready.1 hr).1).2;rw [h1] at h2;cases h2
   refine ⟨fun _=>?_,fun h=>by omega⟩;have h1:=(H.2 j (ready_mono hj hji) oj hoj).1 hjk;obtain ⟨hjun,oj',hoj',hall⟩:=mem_ready.1 hj;rw [hoj] at hoj';cases hoj';have hnot:∀ e∈oj.after,Region.binds md e=true→e.on≠i:=fun e he hb heq=>by
    have h1:=hall e he hb;have h0:=(Hn.1 (mem_ready.1 hr).1).2;rw [heq] at h1;rw [h1] at h0;cases h0
   obtain ⟨a1,a2,a3⟩:=Oper.apart_spec (hfree j oj hoj hji hjun hnot);have hfree':∀ q ok,ops[q]? = some ok→q≠i→(listed.setIfInBounds j true).getD q true=false →
     (∀ e∈ok.after,Region.binds md e=true→e.on≠i)→oi.apart ops ok=true:=fun q ok hk hki hun hno=>by
    refine hfree q ok hk hki ?_ hno;by_cases hjk:j=q
    ·subst hjk;exact hjun
    ·rw [getD_set_ne true hjk] at hun;exact hun
   refine Kr (fun l hl=>?_) (Yr a1 h1);refine ih (listed.setIfInBounds j true) (s.put oj.dst l) (hd.set hj) hfree' (ready_mono hr (Ne.symm hji)) (Uk a3 hy) ?_;rw [Array.setIfInBounds_comm _ _ hji];rw [← Jtn s v l a2];exact hl
def YSAt (X:Cx) (ds:List (Option Tmp)) (ops:List Oper) (i:Nat) (C:St→Prop) (s:St):Prop:=match ops[i]? with
 | some o=>YS X ds s o fun l=>C (s.put o.dst l)
 | none=>False
def Jv7 (X:Cx) (ds:List (Option Tmp)) (ops:List Oper) (E:St→Prop):List Nat→St→Prop
 | [],s=>E s
 | i :: I,s=>YSAt X ds ops i (Jv7 X ds ops E I) s
def J68 (md:Region.Mode) (ops:Array Oper) (k:Nat):List Nat→Array Bool→Bool
 | [],_=>true
 | i :: I,listed=>(Region.ready md ops listed).contains i && (Region.free md ops listed i && (decide (i<k) && ((List.range ops.size).all (fun j=>decide (j<k) || ancB md ops ops.size i j) && J68 md ops k I (listed.setIfInBounds i true))))
def Jzg:List Nat→Array Bool→Array Bool
 | [],listed=>listed
 | i :: I,listed=>Jzg I (listed.setIfInBounds i true)
theorem Jyb {k:Nat} {K:St→Prop} {fuel:Nat}:∀ (I:List Nat) (listed:Array Bool) (s:St),J68 md ops k I listed=true→Down md ops listed →
  Jv7 X (ops.toList.map (·.dst)) ops.toList (Ty X md ops k K fuel (Jzg I listed)) I s→Ty X md ops k K (fuel+I.length) listed s
 | [],listed,s,_,_,h=>h
 | i :: I,listed,s,hB,hd,h=>by
  simp only [J68,Bool.and_eq_true,List.contains_eq_mem,decide_eq_true_eq] at hB;obtain ⟨h1,h2,h3,h4,h5⟩:=hB;obtain ⟨_,oi,hoi,_⟩:=mem_ready.1 h1;simp only [Jv7,YSAt] at h;rw [Array.getElem?_toList,hoi] at h;obtain ⟨v,hy,hK⟩:=Jab (X:=X) h;refine J3s hoi h3 (fun j hj hs=>?_) (fuel+I.length) listed s hd (Region.free_spec hoi h2) h1 hy (Jyb I _ _ h5 (hd.set h1) hK);have:=List.all_eq_true.1 h4 j (List.mem_range.2 hs);rw [Bool.or_eq_true,decide_eq_true_eq] at this;rcases this with h | h
  ·omega
  ·exact h
theorem J0q {ds:List (Option Tmp)} {os:List Oper} {E E':St→Prop} (hE:∀ s,E s→E' s):∀ (I:List Nat) (s:St),Jv7 X ds os E I s→Jv7 X ds os E' I s
 | [],s,h=>hE s h
 | i :: I,s,h=>by
  simp only [Jv7,YSAt] at h ⊢;split
  ·rename_i o ho;rw [ho] at h;exact Kr (fun l hl=>J0q hE I _ hl) h
  ·rename_i ho;rw [ho] at h;exact h
def Jti (X:Cx) (ds:List (Option Tmp)) (ops:List Oper) (k:Nat) (K:St→Prop):Ord→St→Prop
 | .leaf,s=>K s
 | .nil,_=>True
 | .bad,_=>False
 | .node i sub next,s=>(if i<k then YSAt X ds ops i (Jti X ds ops k K sub) s else lAt X ds ops i (Jti X ds ops k K sub) s)∧Jti X ds ops k K next s
theorem Jzy {k:Nat} {K:St→Prop} {f:Nat} {listed:Array Bool} {s:St}:∀ (is:List Nat),Jti X (ops.toList.map (·.dst)) ops.toList k K (is.foldr (fun i acc=>.node i (P6 ops f (listed.setIfInBounds i true)) acc) .nil) s →
  ∀ i∈is,(if i<k then YSAt X (ops.toList.map (·.dst)) ops.toList i (Jti X (ops.toList.map (·.dst)) ops.toList k K (P6 ops f (listed.setIfInBounds i true))) s else lAt X (ops.toList.map (·.dst)) ops.toList i (Jti X (ops.toList.map (·.dst)) ops.toList k K (P6 ops f (listed.setIfInBounds i true))) s)
 | [],_,i,hi=>by cases hi
 | j :: is,h,i,hi=>by
  simp only [List.foldr_cons,Jti] at h;rcases List.mem_cons.1 hi with rfl | hi
  ·exact h.1
  ·exact Jzy is h.2 i hi
theorem Jtl {k:Nat} {K:St→Prop}:∀ (f:Nat) (listed:Array Bool) (s:St),Jti X (ops.toList.map (·.dst)) ops.toList k K (P6 ops f listed) s→Ty X .any ops k K f listed s
 | 0,listed,s,h=>by
  unfold P6 at h;split at h
  ·rename_i h0;exact ⟨h0,h⟩
  ·exact h.elim
 | f+1,listed,s,h=>by
  unfold P6 at h;split at h
  ·rename_i h0;exact ⟨fun _=>h,fun i hi=>by rw [h0] at hi;cases hi⟩
  ·rename_i h0;refine ⟨fun h1=>absurd h1 h0,fun i hi o ho=>?_⟩;have:=Jzy _ h i hi;refine ⟨fun hk=>?_,fun hk=>?_⟩
   ·rw [if_pos hk] at this;unfold YSAt at this;rw [Array.getElem?_toList,ho] at this;exact Kr (fun l hl=>Jtl f _ _ hl) this
   ·rw [if_neg omg] at this;exact ⟨_,this,fun s' hs=>Jtl f _ _ hs⟩
theorem J4m {id:Nat} {Q:Ex→St→Prop} {s:St} (k:Nat) (I:List Nat) (T:Ord) (f:Nat) (hm:X.P.follows .mixedOrders=true) (hf:f+I.length=ops.size) (hB:J68 .any ops k I (Array.replicate ops.size false)=true) (hT:P6 ops f (Jzg I (Array.replicate ops.size false))=T)
  (h:Jv7 X (ops.toList.map (·.dst)) ops.toList (Jti X (ops.toList.map (·.dst)) ops.toList k (Q .normal) T) I s):SWP X ro (.region id ops true) Q s:=fun Γ a w hG hr=>by
 have h':RR Γ s a { w with drawn:=w.drawn+1 }:=by
  obtain ⟨ms,hdef,β,Im,hx⟩:=hr;exact ⟨ms,hdef,β,Im,hx.grow (Grow.drew hx.fit.im)⟩
 refine wpIn_region_any hm (G0 (k:=k) (K:=Q .normal) hG (fun s _ _ h1 h2=>⟨s,h1,h2⟩) _ _ s a _ h' ?_);have hd:Down .any ops (Array.replicate ops.size false):=by
  intro i o ho hl;exfalso;have hi:=(Array.getElem?_eq_some_iff.1 ho).1;simp [Array.getD_eq_getD_getElem?,hi] at hl
 have:=Jyb (X:=X) (K:=Q .normal) (fuel:=f) I (Array.replicate ops.size false) s hB hd ?_
 ·rw [hf] at this;exact this
 ·subst hT;exact J0q (fun s hs=>Jtl f _ s hs) I s h
end
section
variable {X:Cx} {ds:List (Option Tmp)} {t:List L} {r:Regs} {E:St→Prop}
theorem y_take0 {ops:List Oper}:Jv7 X ds ops E [] ⟨t,r⟩=E ⟨t,r⟩:=(rfl)
theorem y_take {ops:List Oper} {i:Nat} {I:List Nat}:Jv7 X ds ops E (i :: I) ⟨t,r⟩=YSAt X ds ops i (Jv7 X ds ops E I) ⟨t,r⟩:=(rfl)
theorem y_at0 {o:Oper} {ops:List Oper}:YSAt X ds (o :: ops) 0 E ⟨t,r⟩=YS X ds ⟨t,r⟩ o (kput o.dst E ⟨t,r⟩):=(rfl)
theorem y_atS {o:Oper} {ops:List Oper} {i:Nat}:YSAt X ds (o :: ops) (i+1) E ⟨t,r⟩=YSAt X ds ops i E ⟨t,r⟩:=(rfl)
theorem y_leaf {ops:List Oper} {k:Nat}:Jti X ds ops k E .leaf ⟨t,r⟩=E ⟨t,r⟩:=(rfl)
theorem y_nil {ops:List Oper} {k:Nat}:Jti X ds ops k E .nil ⟨t,r⟩=True:=(rfl)
theorem y_node {ops:List Oper} {k i:Nat} {sub next:Ord}:Jti X ds ops k E (.node i sub next) ⟨t,r⟩=((if i<k then YSAt X ds ops i (Jti X ds ops k E sub) ⟨t,r⟩ else lAt X ds ops i (Jti X ds ops k E sub) ⟨t,r⟩)∧Jti X ds ops k E next ⟨t,r⟩):=(rfl)
attribute [go_sem] y_take0 y_take y_at0 y_atS y_leaf y_nil y_node
end
def farL:L→Bool
 | .p _=>true
 | .eptr _=>true
 | _=>false
theorem J0t {d:Nat} {l:L} (h:farL l=true):L.forget d l=l:=by
 cases l <;> simp [farL] at h <;> rfl
theorem lqv_far {P:Program} {regs regs':List (Nat×Reg)} {ρ:Operand→L} {op:Op} {l:L} (hf:∀ x∈op.operands.toList,farL (ρ x)=true) (h:lqv P regs ρ op l):lqv P regs' ρ op l:=by
 cases op with
 | lookup t x ix ok =>
  have hx:=hf x (by simp [Op.operands]);have e:Tz regs (ρ x)=Tz regs' (ρ x):=by
   unfold Tz;cases hρ:ρ x <;> rw [hρ] at hx <;> simp [farL] at hx <;> (try rfl)
   rename_i a;cases a <;> rfl
  simp only [lqv,Yc] at h ⊢;rw [← e];exact h
 | call c =>
  obtain ⟨callee,args,ts⟩:=c;cases callee with
  | builtin b =>
   cases b with
   | cap =>
    simp only [lqv] at h ⊢;split at h
    ·rename_i x t hargs hts;have hx:=hf x (by simp [Op.operands,Call.operands,hargs]);revert h;cases hρ:ρ x <;> rw [hρ] at hx <;> simp [farL] at hx
     ·rename_i a;cases a <;> exact id
     ·exact id
    ·exact h
   | _=>exact h
  | _=>exact h
 | _=>exact h
theorem J9m {P:Program} {regs regs':List (Nat×Reg)} {ρ:Operand→L} {op:Op} {K:L→Prop} (hf:∀ x∈op.operands.toList,farL (ρ x)=true) (h:lq P regs ρ op K):lq P regs' ρ op K:=by
 have ptr:∀ {x:L} {d i j:Nat},farL x=true→x=.ptr d i j→False:=by intro x d i j h e;subst e;cases h
 unfold lq at h ⊢;split at h
 case h_8 =>
  rename_i a;have hx:=hf a (by simp [Op.operands]);revert h;unfold Jc;generalize B2 P _=b;rcases b with _ | _ | _ <;> cases hρ:ρ a <;> rw [hρ] at hx <;> simp [farL] at hx <;> exact id
 case h_11 =>
  rename_i x y;have hx:=hf x (by simp [Op.operands]);revert h;unfold Dg;generalize ρ y=iy;cases hρ:ρ x <;> rw [hρ] at hx <;> simp [farL] at hx
  ·rename_i a;cases iy with
   | p b=>cases a <;> cases b <;> exact id
   | _=>cases a <;> exact id
  ·cases iy with
   | p b=>cases b <;> exact id
   | _=>exact id
 case h_13 t x lo hi mx =>
  have hx:=hf x (by simp [Op.operands]);revert h;unfold G2;generalize P.underlying t=u;cases hρ:ρ x <;> rw [hρ] at hx <;> simp [farL] at hx
  ·rename_i a;cases u with
   | none=>exact id
   | some u=>cases u <;> cases a <;> exact id
  ·cases u with
   | none=>exact id
   | some u=>cases u <;> exact id
 all_goals first
  | exact h
  | skip
 obtain ⟨l,h1,h2⟩:=h;exact ⟨l,lqv_far hf h1,h2⟩
section
variable {X:Cx} {ro:Option Nat} {ops:Array Oper}
def Jxg (o:Oper):Bool:=o.guard.isNone && match o.op with
 | .move _=>true
 | .indexAddr ..=>true
 | .fieldAddr ..=>true
 | .load ..=>true
 | .binOp ..=>true
 | _=>false
def Jvv (o:Oper):Bool:=o.guard.isNone && match o.op,o.dst with
 | .alloc _,some _=>true
 | _,_=>false
def Jvn (o:Oper):Bool:=o.guard.isNone && match o.op,o.dst with
 | .store ..,none=>true
 | _,_=>false
def Jte (s:St) (o:Oper):Prop:=∀ x∈o.op.operands.toList,farL (s.get x)=true
theorem J32 {ds:List (Option Tmp)} {s:St} {o:Oper} {K:L→Prop} (h:Jxg o=true):YS X ds s o K=lq X.P s.regs s.get o.op K:=by
 obtain ⟨dst,op,ty,ps,af,g⟩:=o;cases g with
 | some g=>simp [Jxg] at h
 | none =>
  unfold YS lqc;cases op <;> first | rfl | (simp [Jxg] at h)
theorem put_far {s:St} {dst:Option Tmp} {v:L} {d:Nat} {r:Reg} {l:L} (hv:farL v=true) (hne:∀ x,dst=some x→x≠d):(((s.newReg d r).put (some d) l).put dst v)=(((s.put dst v).newReg d r).put (some d) l):=by
 cases dst with
 | none=>rfl
 | some x =>
  have:=hne x rfl;simp only [St.put,St.newReg,List.map_set,J0t hv];rw [List.set_comm _ _ this]
theorem J8r {s:St} {d:Nat} {r:Reg} {l:L} {x:Operand} (hx:x≠.tmp d) (hf:farL (s.get x)=true):((s.newReg d r).put (some d) l).get x=s.get x:=by
 rw [Jmw (fun e he=>by cases he;exact hx)];cases x with
 | tmp i =>
  simp only [St.get,St.newReg,List.getD_eq_getElem?_getD,List.getElem?_map] at hf ⊢;cases hi:s.tmps[i]? with
  | none=>rfl
  | some m =>
   rw [hi] at hf;simp only [Option.map_some,Option.getD_some] at hf ⊢;exact J0t hf
 | _=>rfl
theorem J0f {d:Nat} {z:Fz} {l:L} (h:farL l=true):L.freeze d z l=l:=by
 cases l <;> simp [farL] at h <;> rfl
theorem J57 {s:St} {d:Nat} {dst:Option Tmp} {v:L} (hv:farL v=true):(s.put dst v).freeze d=(s.freeze d).put dst v:=by
 cases dst with
 | none=>rfl
 | some x =>
  simp only [St.put,St.freeze,Dx];cases fzOf (Am d s.regs) with
  | none=>rfl
  | some z=>simp only [List.map_set,J0f hv]
theorem J6i {s:St} {d:Nat} {y:Operand} (hf:farL (s.get y)=true):(s.freeze d).get y=s.get y:=by
 unfold St.freeze Dx;cases fzOf (Am d s.regs) with
 | none=>rfl
 | some z =>
 cases y with
 | tmp i =>
  simp only [St.get,List.getD_eq_getElem?_getD,List.getElem?_map] at hf ⊢;cases hi:s.tmps[i]? with
  | none=>rfl
  | some m =>
   rw [hi] at hf;simp only [Option.map_some,Option.getD_some] at hf ⊢;exact J0f hf
 | _=>rfl
theorem J1d {s:St} {x:Operand} {dst:Option Tmp} {v:L} (hv:farL v=true) (hx:∀ d,dst=some d→x≠.tmp d):(s.put dst v).freezeOps [x]=(s.freezeOps [x]).put dst v:=by
 simp only [St.freezeOps,Jmw hx];cases s.get x <;> first | rfl | (simp only;split <;> first | exact J57 hv | rfl)
theorem J1b {s:St} {x y:Operand} (hf:farL (s.get y)=true):(s.freezeOps [x]).get y=s.get y:=by
 simp only [St.freezeOps];cases s.get x <;> first | rfl | (simp only;split <;> first | exact J6i hf | rfl)
theorem J4x {s:St} {dst:Option Tmp} {v:L}:(s.put dst v).regs=s.regs:=by cases dst <;> rfl
theorem J0s {s:St} {dst:Option Tmp} {v:L} {R:Regs}:({ (s.put dst v) with regs:=R }:St)=({ s with regs:=R }:St).put dst v:=by cases dst <;> rfl
theorem J5q {P:Program} {t:TypeId} {s:St} {a x:Operand} {dst:Option Tmp} {v:L} {K:St→Prop} (hv:farL v=true) (ha:∀ d,dst=some d→a≠.tmp d) (hx:∀ d,dst=some d→x≠.tmp d) (h:Nv P t (s.put dst v) a x K) :
  Nv P t s a x fun s'=>K (s'.put dst v)∧∀ y,farL (s.get y)=true→s'.get y=s.get y:=by
 unfold Nv at h ⊢;rw [Jmw ha,Jmw hx,J4x] at h;split at h
 ·rename_i d i j hd;simp only;split at h
  ·obtain ⟨xs,h1,h2,h3,h4,h5,h6⟩:=h;refine ⟨xs,h1,h2,h3,h4,h5,?_,fun y _=>?_⟩
   ·rw [J0s] at h6;exact h6
   ·cases y <;> rfl
  ·rw [J1d hv hx] at h;obtain ⟨xs,h1,ps,h2,e,h3,h4,h5,h6,h7,h8,h9⟩:=h;rw [Jmw hx] at h1;rw [J4x] at h7 h9;rw [Jmw ha] at h8;refine ⟨xs,h1,ps,h2,e,h3,h4,h5,h6,h7,h8,?_,fun y hy=>?_⟩
   ·rw [J0s] at h9;exact h9
   ·have:=J1b (x:=x) hy;cases y <;> exact this
  ·obtain ⟨xs,h1,e,h2,h3,h4,h5,h6⟩:=h;refine ⟨xs,h1,e,h2,h3,h4,h5,?_,fun y _=>?_⟩
   ·rw [J0s] at h6;exact h6
   ·cases y <;> rfl
  ·exact h.elim
  ·exact h.elim
 ·exact h.elim
theorem J46 {k:Nat} {K:St→Prop} {i:Nat} {oi:Oper} {v:L} (hi:ops[i]? = some oi) (hik:i<k) (hp:Jxg oi=true) (hv:farL v=true) (hA:∀ j oj,k≤j→ops[j]? = some oj→ancB .any ops ops.size i j=true∨Jvv oj=true∨Jvn oj=true):∀ (fuel:Nat) (listed:Array Bool) (s:St),Down .any ops listed→Jte s oi →
   (∀ j oj,ops[j]? = some oj→j≠i→listed.getD j true=false→(∀ e∈oj.after,Region.binds .any e=true→e.on≠i)→oi.apart ops oj=true) →
   i∈Region.ready .any ops listed→YS X (ops.toList.map (·.dst)) s oi (fun m=>m=v) →
   Ty X .any ops k K fuel (listed.setIfInBounds i true) (s.put oi.dst v)→Ty X .any ops k K (fuel+1) listed s:=by
 intro fuel
 induction fuel with
 | zero =>
  intro listed s hd _ _ hr hy H;have only:∀ j∈Region.ready .any ops listed,j=i:=by
   intro j hj;by_cases hji:j=i
   ·exact hji
   ·have:=ready_mono hj hji;rw [H.1] at this;cases this
  refine ⟨fun h=>(by rw [h] at hr;cases hr),fun j hj oj hoj=>?_⟩;have:=only j hj;subst this;rw [hi] at hoj;cases hoj;exact ⟨fun _=>Kr (fun l hl=>by rw [hl];exact H) hy,fun h=>by omega⟩
 | succ fuel ih =>
  intro listed s hd hfar hfree hr hy H;refine ⟨fun h=>(by rw [h] at hr;cases hr),fun j hj oj hoj=>?_⟩;by_cases hji:j=i
  ·subst hji;rw [hi] at hoj;cases hoj;exact ⟨fun _=>Kr (fun l hl=>by rw [hl];exact H) hy,fun h=>by omega⟩
  ·obtain ⟨hjun,oj',hoj',hall⟩:=mem_ready.1 hj;rw [hoj] at hoj';cases hoj';have hnot:∀ e∈oj.after,Region.binds .any e=true→e.on≠i:=fun e he hb heq=>by
    have h1:=hall e he hb;have h0:=(Hn.1 (mem_ready.1 hr).1).2;rw [heq] at h1;rw [h1] at h0;cases h0
   obtain ⟨a1,a2,a3⟩:=Oper.apart_spec (hfree j oj hoj hji hjun hnot);have hfree':∀ q ok,ops[q]? = some ok→q≠i→(listed.setIfInBounds j true).getD q true=false →
     (∀ e∈ok.after,Region.binds .any e=true→e.on≠i)→oi.apart ops ok=true:=fun q ok hk hki hun hno=>by
    refine hfree q ok hk hki ?_ hno;by_cases hjk:j=q
    ·subst hjk;exact hjun
    ·rw [getD_set_ne true hjk] at hun;exact hun
   have hop:∀ d,oj.dst=some d→∀ x∈oi.op.operands.toList,x≠.tmp d:=fun d hd x hx hxd=>a3 d hd (by
    subst hxd;exact List.mem_append_left _ (List.mem_filterMap.2 ⟨.tmp d,by simpa using hx,rfl⟩))
   refine ⟨fun hjk=>?_,fun hkj=>?_⟩
   ·have h1:=(H.2 j (ready_mono hj hji) oj hoj).1 hjk;refine Kr (fun l hl=>?_) (Yr a1 h1);refine ih (listed.setIfInBounds j true) (s.put oj.dst l) (hd.set hj) (fun x hx=>?_) hfree' (ready_mono hr (Ne.symm hji)) (Uk a3 hy) ?_
    ·rw [Jmw (fun d hd=>hop d hd x hx)];exact hfar x hx
    ·rw [Array.setIfInBounds_comm _ _ hji];rw [← Jtn s v l a2];exact hl
   ·have hal:Jvv oj=true∨Jvn oj=true:=by
     rcases hA j oj hkj hoj with h | h
     ·exfalso;have h1:=Qb hd _ i j oj hoj hall h;have h2:=(Hn.1 (mem_ready.1 hr).1).2;rw [h1] at h2;cases h2
     ·exact h
    obtain ⟨C,h1,h2⟩:=(H.2 j (ready_mono hj hji) oj hoj).2 hkj;have hlook:∀ d,oi.dst=some d→∀ x∈oj.op.operands.toList,x≠.tmp d:=fun d hd x hx hxd=>a1 d hd (by
     subst hxd;exact List.mem_append_left _ (List.mem_filterMap.2 ⟨.tmp d,by simpa using hx,rfl⟩))
    obtain ⟨dst,op,ty,ps,af,g⟩:=oj;cases g with
    | some g=>simp [Jvv,Jvn] at hal
    | none =>
    rcases hal with hal | hal
    ·cases dst with
     | none=>cases op <;> simp [Jvv] at hal
     | some d =>
     cases op <;> simp [Jvv] at hal;rename_i T;unfold lAt at h1;rw [Array.getElem?_toList,hoj] at h1;simp only [F4,lop] at h1;obtain ⟨hd1,zs,hzs,hC⟩:=h1;have hne:∀ x,oi.dst=some x→x≠d:=fun x hx e=>a2 x hx (by rw [e])
     have hop':=hop d rfl;refine ⟨fun s'=>s'=(s.newReg d (.var T (zs.map .p))).put (some d) (.ptr d 0 0),?_,?_⟩
     ·unfold lAt;rw [Array.getElem?_toList,hoj];exact ⟨hd1,zs,hzs,rfl⟩
     ·rintro s' rfl;have hg:∀ x∈oi.op.operands.toList,((s.newReg d (.var T (zs.map .p))).put (some d) (.ptr d 0 0)).get x=s.get x:=fun x hx=>J8r (hop' x hx) (hfar x hx)
      refine ih (listed.setIfInBounds j true) _ (hd.set hj) (fun x hx=>by rw [hg x hx];exact hfar x hx) hfree' (ready_mono hr (Ne.symm hji)) ?_ ?_
      ·rw [J32 hp] at hy ⊢;exact J9m (fun x hx=>by rw [hg x hx];exact hfar x hx) (Jj8 hg hy)
      ·rw [Array.setIfInBounds_comm _ _ hji,put_far hv hne];exact h2 _ hC
    ·cases dst with
     | some d=>cases op <;> simp [Jvn] at hal
     | none =>
     cases op <;> simp [Jvn] at hal;rename_i T a x;unfold lAt at h1;rw [Array.getElem?_toList,hoj] at h1;simp only [F4,lop] at h1;have h3:=J5q hv (fun d hd=>hlook d hd a (by simp [Op.operands])) (fun d hd=>hlook d hd x (by simp [Op.operands])) h1;refine ⟨fun s'=>C (s'.put oi.dst v)∧∀ y,farL (s.get y)=true→s'.get y=s.get y,?_,?_⟩
     ·unfold lAt;rw [Array.getElem?_toList,hoj];exact h3
     ·rintro s' ⟨hC,hgy⟩;have hg:∀ x∈oi.op.operands.toList,s'.get x=s.get x:=fun x hx=>hgy x (hfar x hx)
      refine ih (listed.setIfInBounds j true) _ (hd.set hj) (fun x hx=>by rw [hg x hx];exact hfar x hx) hfree' (ready_mono hr (Ne.symm hji)) ?_ ?_
      ·rw [J32 hp] at hy ⊢;exact J9m (fun x hx=>by rw [hg x hx];exact hfar x hx) (Jj8 hg hy)
      ·rw [Array.setIfInBounds_comm _ _ hji];exact h2 _ hC
def Jt8 (X:Cx) (ds:List (Option Tmp)) (ops:List Oper) (E:St→Prop):List Nat→St→Prop
 | [],s=>E s
 | i :: I,s=>match ops[i]? with
  | some o=>Jte s o∧YS X ds s o fun l=>farL l=true∧Jt8 X ds ops E I (s.put o.dst l)
  | none=>False
def J3a (ops:Array Oper) (k:Nat):List Nat→Array Bool→Bool
 | [],_=>true
 | i :: I,listed=>(Region.ready .any ops listed).contains i && (Region.free .any ops listed i && (decide (i<k) && ((match ops[i]? with | some o=>Jxg o | none=>false) && ((List.range ops.size).all (fun j=>decide (j<k) || (ancB .any ops ops.size i j || match ops[j]? with | some o=>Jvv o || Jvn o | none=>false)) && J3a ops k I (listed.setIfInBounds i true)))))
theorem Jw7 {k:Nat} {K:St→Prop} {fuel:Nat}:∀ (I:List Nat) (listed:Array Bool) (s:St),J3a ops k I listed=true→Down .any ops listed →
  Jt8 X (ops.toList.map (·.dst)) ops.toList (Ty X .any ops k K fuel (Jzg I listed)) I s→Ty X .any ops k K (fuel+I.length) listed s
 | [],listed,s,_,_,h=>h
 | i :: I,listed,s,hB,hd,h=>by
  simp only [J3a,Bool.and_eq_true,List.contains_eq_mem,decide_eq_true_eq] at hB;obtain ⟨h1,h2,h3,hp,h4,h5⟩:=hB;obtain ⟨_,oi,hoi,_⟩:=mem_ready.1 h1;rw [hoi] at hp;simp only [Jt8] at h;rw [Array.getElem?_toList,hoi] at h;obtain ⟨hf,h⟩:=h;obtain ⟨v,hy,hv,hK⟩:=Jab (X:=X) h;refine J46 hoi h3 hp hv (fun j oj hj hoj=>?_) (fuel+I.length) listed s hd hf (Region.free_spec hoi h2) h1 hy (Jw7 I _ _ h5 (hd.set h1) hK);have:=List.all_eq_true.1 h4 j (List.mem_range.2 (Array.getElem?_eq_some_iff.1 hoj).1);rw [Bool.or_eq_true,decide_eq_true_eq,hoj,Bool.or_eq_true] at this;rcases this with h | h | h
  ·omega
  ·exact .inl h
  ·exact .inr (by simpa using h)
theorem Jx8 {ds:List (Option Tmp)} {os:List Oper} {E E':St→Prop} (hE:∀ s,E s→E' s):∀ (I:List Nat) (s:St),Jt8 X ds os E I s→Jt8 X ds os E' I s
 | [],s,h=>hE s h
 | i :: I,s,h=>by
  simp only [Jt8] at h ⊢;split
  ·rename_i o ho;rw [ho] at h;exact ⟨h.1,Kr (fun l hl=>⟨hl.1,Jx8 hE I _ hl.2⟩) h.2⟩
  ·rename_i ho;rw [ho] at h;exact h
theorem Ju2 {id:Nat} {Q:Ex→St→Prop} {s:St} (k:Nat) (I:List Nat) (T:Ord) (f:Nat) (hm:X.P.follows .mixedOrders=true) (hf:f+I.length=ops.size) (hB:J3a ops k I (Array.replicate ops.size false)=true) (hT:P6 ops f (Jzg I (Array.replicate ops.size false))=T)
  (h:Jt8 X (ops.toList.map (·.dst)) ops.toList (Jti X (ops.toList.map (·.dst)) ops.toList k (Q .normal) T) I s):SWP X ro (.region id ops true) Q s:=fun Γ a w hG hr=>by
 have h':RR Γ s a { w with drawn:=w.drawn+1 }:=by
  obtain ⟨ms,hdef,β,Im,hx⟩:=hr;exact ⟨ms,hdef,β,Im,hx.grow (Grow.drew hx.fit.im)⟩
 refine wpIn_region_any hm (G0 (k:=k) (K:=Q .normal) hG (fun s _ _ h1 h2=>⟨s,h1,h2⟩) _ _ s a _ h' ?_);have hd:Down .any ops (Array.replicate ops.size false):=by
  intro i o ho hl;exfalso;have hi:=(Array.getElem?_eq_some_iff.1 ho).1;simp [Array.getD_eq_getD_getElem?,hi] at hl
 have:=Jw7 (X:=X) (K:=Q .normal) (fuel:=f) I (Array.replicate ops.size false) s hB hd ?_
 ·rw [hf] at this;exact this
 ·subst hT;exact Jx8 (fun s hs=>Jtl f _ s hs) I s h
end
section
variable {X:Cx} {ds:List (Option Tmp)} {t:List L} {r:Regs} {E:St→Prop} {dst:Option Tmp} {ty:TypeId} {ps:String} {af:Array Edge} {g:Option (Nat×Bool)}
def YVar (X:Cx) (ds:List (Option Tmp)) (ops:List Oper) (i:Nat) (C:St→Prop) (s:St):Prop:=match ops[i]? with
 | some o=>Jte s o∧YS X ds s o fun l=>farL l=true∧C (s.put o.dst l)
 | none=>False
def kfar (dst:Option Tmp) (C:St→Prop) (s:St) (l:L):Prop:=farL l=true∧C (s.put dst l)
theorem v_take0 {ops:List Oper}:Jt8 X ds ops E [] ⟨t,r⟩=E ⟨t,r⟩:=(rfl)
theorem v_take {ops:List Oper} {i:Nat} {I:List Nat}:Jt8 X ds ops E (i :: I) ⟨t,r⟩=YVar X ds ops i (Jt8 X ds ops E I) ⟨t,r⟩:=(rfl)
theorem v_at0 {o:Oper} {ops:List Oper}:YVar X ds (o :: ops) 0 E ⟨t,r⟩=(Jte ⟨t,r⟩ o∧YS X ds ⟨t,r⟩ o (kfar o.dst E ⟨t,r⟩)):=(rfl)
theorem v_atS {o:Oper} {ops:List Oper} {i:Nat}:YVar X ds (o :: ops) (i+1) E ⟨t,r⟩=YVar X ds ops i E ⟨t,r⟩:=(rfl)
theorem v_kp {x:PV}:kfar dst E ⟨t,r⟩ (.p x)=kput dst E ⟨t,r⟩ (.p x):=by simp [kfar,farL,kput]
theorem v_ke {cs:List PV}:kfar dst E ⟨t,r⟩ (.eptr cs)=kput dst E ⟨t,r⟩ (.eptr cs):=by simp [kfar,farL,kput]
theorem v_fp {x:PV}:(farL (.p x)=true)=True:=by simp [farL]
theorem v_fe {cs:List PV}:(farL (.eptr cs)=true)=True:=by simp [farL]
theorem v_move {x:Operand}:Jte ⟨t,r⟩ ⟨dst,.move x,ty,ps,af,g⟩=(farL ((St.mk t r).get x)=true):=by simp [Jte,Op.operands]
theorem v_ia {T:TypeId} {x y:Operand}:Jte ⟨t,r⟩ ⟨dst,.indexAddr T x y,ty,ps,af,g⟩=(farL ((St.mk t r).get x)=true∧farL ((St.mk t r).get y)=true):=by simp [Jte,Op.operands]
theorem v_fa {T:TypeId} {x:Operand} {f:Nat}:Jte ⟨t,r⟩ ⟨dst,.fieldAddr T x f,ty,ps,af,g⟩=(farL ((St.mk t r).get x)=true):=by simp [Jte,Op.operands]
theorem v_ld {T:TypeId} {x:Operand}:Jte ⟨t,r⟩ ⟨dst,.load T x,ty,ps,af,g⟩=(farL ((St.mk t r).get x)=true):=by simp [Jte,Op.operands]
def callQ (X:Cx) (args:List L) (C:L→Prop) (l:L):Prop:=match l with
 | .fn g []=>Bi X g args C
 | _=>False
theorem q_callT {n:Tmp} {args:Array Operand} {ats:Array TypeId} {C:L→Prop}:lqc X ⟨t,r⟩ ⟨dst,.call { callee:=.value (.tmp n),args:=args,argTypes:=ats },ty,ps,af,g⟩ C=callQ X (args.toList.map (St.mk t r).get) C ((St.mk t r).get (.tmp n)):=(rfl)
theorem q_callQ {f:FuncId} {args:List L} {C:L→Prop}:callQ X args C (.fn f [])=Bi X f args C:=(rfl)
attribute [go_sem] q_callT q_callQ v_take0 v_take v_at0 v_atS v_kp v_ke v_fp v_fe v_move v_ia v_fa v_ld
end
theorem Al.perm {X:Cx} {f:FuncId} {args:List L} {rs rs':Regs} {Post:L→Regs→Prop} (hp:rs'.Perm rs) (h:Al X f args rs Post):Al X f args rs' Post:=by
 refine ⟨h.1,fun β Im w vs hg hf=>?_⟩;have hmi:∀ x,x∈rs ↔ x∈rs':=fun x=>hp.symm.mem_iff
 have hf':Fit β w Im ⟨args,rs⟩ ⟨vs⟩:={ size:=hf.size,tmps:=hf.tmps,im:=hf.im,regs:=fun d r hd=>hf.regs d r ((hmi _).1 hd),nodup:=((hp.map _).nodup_iff).1 hf.nodup,live:=fun d r loc hd hl=>hf.live d r loc ((hmi _).1 hd) hl,apart:=fun d r d' r' l1 l2 hd hd' hne h1 h2=>hf.apart d r d' r' l1 l2 ((hmi _).1 hd) ((hmi _).1 hd') hne h1 h2 }
 refine (h.2 β Im w vs hg hf').mono fun e w' ⟨v,m,q,β',Im',he,hP,hr,hc⟩=>⟨v,m,q,β',Im',he,hP,hr,?_⟩
 exact { hc with
  block:=fun k hk hno=>hc.block k hk fun d r loc hd hl=>hno d r loc ((hmi _).1 hd) hl
  imnew:=fun b hb=>by
   rcases hc.imnew b hb with h | h | ⟨d,r,loc,h1,h2⟩
   ·exact .inl h
   ·exact .inr (.inl h)
   ·exact .inr (.inr ⟨d,r,loc,(hmi _).1 h1,h2⟩)
  keys:=fun d r hd=>by
   rcases hc.keys d r hd with h | ⟨r0,h⟩
   ·exact .inl h
   ·exact .inr ⟨r0,(hmi _).1 h⟩
  regnew:=fun d r loc hd hl=>by
   rcases hc.regnew d r loc hd hl with h | ⟨d1,r1,loc1,h1,h2⟩
   ·exact .inl h
   ·exact .inr ⟨d1,r1,loc1,(hmi _).1 h1,h2⟩ }
end Go.LX
