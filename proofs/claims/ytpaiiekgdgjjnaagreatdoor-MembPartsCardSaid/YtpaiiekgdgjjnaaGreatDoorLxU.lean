/- Numbers, plain: their values; what is greater. -/
import Derived.Test.YtpaiiekgdgjjnaaGreatDoorLxT
import Derived.Test.YtpaiiekgdgjjnaaGreatDoorLxS
import Derived.Test.YtpaiiekgdgjjnaaGreatDoorLxR
set_option linter.unusedSimpArgs false
set_option linter.unusedVariables false
set_option linter.unusedSectionVars false
set_option linter.unnecessarySimpa false
namespace Go.LX
open Go Go.Proofs
def dig (s:List UInt8):Nat:=s.foldl (fun n c=>n * 10+(c.toNat - 48)) 0
def digF (n:Nat) (s:List UInt8):Nat:=s.foldl (fun n c=>n * 10+(c.toNat - 48)) n
theorem Jxu:∀ (s:List UInt8) (n:Nat),digF n s=n * 10 ^ s.length+dig s
 | [],n=>by simp [digF,dig]
 | c :: s,n=>by
  have h1:=Jxu s (n * 10+(c.toNat - 48))
  have h2:=Jxu s (0 * 10+(c.toNat - 48))
  have e:dig (c :: s)=digF (0 * 10+(c.toNat - 48)) s:=rfl
  have e':digF n (c :: s)=digF (n * 10+(c.toNat - 48)) s:=rfl
  rw [e,e',h1,h2,List.length_cons,Nat.pow_succ]
  have:(n * 10+(c.toNat - 48)) * 10 ^ s.length=n * (10 ^ s.length * 10)+(c.toNat - 48) * 10 ^ s.length:=by
   rw [Nat.add_mul,Nat.mul_assoc,Nat.mul_comm 10]
  rw [this];simp;omega
theorem Jtp (c:UInt8) (s:List UInt8):dig (c :: s)=(c.toNat - 48) * 10 ^ s.length+dig s:=by
 have e:dig (c :: s)=digF (0 * 10+(c.toNat - 48)) s:=rfl
 rw [e,Jxu];simp
theorem Jvr (s t:List UInt8):dig (s ++ t)=dig s * 10 ^ t.length+dig t:=by
 have:dig (s ++ t)=digF (dig s) t:=by simp [dig,digF,List.foldl_append]
 rw [this,Jxu]
theorem Jr0 {c:UInt8} {s:List UInt8}:Jql (c :: s)=true ↔ (48≤c.toNat∧c.toNat≤57)∧Jql s=true:=by
 simp [Jql,J2h]
theorem Jry {s t:List UInt8}:Jql (s ++ t)=true ↔ Jql s=true∧Jql t=true:=by
 simp [Jql,List.all_append]
theorem Jvj:∀ {s:List UInt8},Jql s=true→dig s<10 ^ s.length
 | [],_=>by simp [dig]
 | c :: s,h=>by
  rw [Jr0] at h
  have:=Jvj h.2
  rw [Jtp,List.length_cons,Nat.pow_succ]
  have h9:(c.toNat - 48)≤9:=by omega
  have:=Nat.mul_le_mul_right (10 ^ s.length) h9
  omega
theorem dig_ge {c:UInt8} {s:List UInt8} (h:Jql (c :: s)=true) (hc:c.toNat≠48):10 ^ s.length≤dig (c :: s):=by
 rw [Jr0] at h
 rw [Jtp]
 have:1≤c.toNat - 48:=by omega
 have:=Nat.mul_le_mul_right (10 ^ s.length) this
 omega
theorem J16 {s:List UInt8} (h0:0<s.length) (hf:Jql s=true) (hl:at_ s (s.length - 1)≠48):0<dig s∧dig s % 10≠0:=by
 obtain ⟨l,c,rfl⟩:=J1l h0
 rw [Jry] at hf
 have hc:=(Jr0.1 hf.2).1
 have e:(l ++ [c]).length - 1=l.length:=by simp
 rw [e,J1f] at hl
 rw [Jvr]
 have:dig [c]=c.toNat - 48:=by simp [dig]
 rw [this]
 simp only [List.length_cons,List.length_nil,Nat.zero_add,Nat.pow_one]
 omega
structure RightN (n:Node):Prop where
 kind:n.kind=3
 many:n.many=0
 name:n.name=[]
 figs:Jql n.s=true
 len:n.s.length≤100
 e1:-1000≤n.e
 e2:n.e≤1000
 top:(n.s.length:Int)+n.e≤1000
 zero:n.s.length=0→n.neg=false∧n.e=0
 head:0<n.s.length→at_ n.s 0≠48
 last:0<n.s.length→at_ n.s (n.s.length - 1)≠48
theorem J38 (n:Node):Jq8 n=true ↔ RightN n:=by
 constructor
 ·intro h
  unfold Jq8 at h
  split at h
  ·cases h
  split at h
  ·cases h
  split at h
  ·cases h
  split at h
  ·cases h
  split at h
  ·cases h
  split at h
  ·cases h
  split at h
  ·cases h
  split at h
  ·cases h
  rename_i h1 h2 h3 h4 h5 h6 h7 h8
  have hn:n.name=[]:=List.eq_nil_of_length_eq_zero (by omega)
  have hf:Jql n.s=true:=by simpa using h4
  split at h
  ·split at h
   ·exact ⟨by omega,by omega,hn,hf,by omega,by omega,by omega,by omega,fun _=>⟨by assumption,by simpa using h⟩,fun h=>by omega,fun h=>by omega⟩
   ·cases h
  ·split at h
   ·exact ⟨by omega,by omega,hn,hf,by omega,by omega,by omega,by omega,fun h=>by omega,fun _=>by omega,fun _ hh=>by simp [hh] at h⟩
   ·cases h
 ·intro h
  obtain ⟨g1,g2,g3,g4,g5,g6,g7,g8,g9,g10,g11⟩:=h
  unfold Jq8
  rw [if_neg (by omega),if_neg (by omega),if_neg (by simp [g3]),if_neg (by simp [g4]),if_neg (by omega),if_neg (by omega),if_neg (by omega),if_neg (by omega)]
  split
  ·rename_i h0
   obtain ⟨k1,k2⟩:=g9 h0
   rw [if_pos k1];simp [k2]
  ·rename_i h0
   have k1:=g10 (by omega)
   have k2:=g11 (by omega)
   rw [if_pos (by omega)]
   simp
   omega
theorem RightN.small {n:Node} (h:RightN n):n.small:=⟨by have:=h.len;omega,by have:=h.e1;omega,by have:=h.e2;omega⟩
def mag (n:Node):Nat:=dig n.s * 10 ^ (n.e+1000).toNat
def sv (n:Node):Int:=if n.neg=true then -(mag n:Int) else mag n
theorem Jwk {n:Node} (h:RightN n):mag n<10 ^ (n.s.length+n.e+1000).toNat:=by
 have e:(n.s.length+n.e+1000).toNat=n.s.length+(n.e+1000).toNat:=by have:=h.e1;omega
 rw [e,Nat.pow_add]
 exact Nat.mul_lt_mul_of_pos_right (Jvj h.figs) (Nat.pow_pos (by decide))
theorem Jzc {n:Node} (h:RightN n) (h0:0<n.s.length):10 ^ (n.s.length+n.e+999).toNat≤mag n:=by
 have e:(n.s.length+n.e+999).toNat=(n.s.length - 1)+(n.e+1000).toNat:=by have:=h.e1;omega
 rw [e,Nat.pow_add]
 refine Nat.mul_le_mul_right _ ?_
 have hh:=h.head h0
 have hf:=h.figs
 cases hs:n.s with
 | nil=>rw [hs] at h0;simp at h0
 | cons c s =>
  rw [hs] at hh hf
  rw [Jxv] at hh
  simpa using dig_ge hf hh
theorem Jsq {n:Node} (h:RightN n) (h0:0<n.s.length):0<mag n:=Nat.lt_of_lt_of_le (Nat.pow_pos (by decide)) (Jzc h h0)
theorem Jt9 {n:Node} (h0:n.s.length=0):mag n=0:=by
 have:n.s=[]:=List.eq_nil_of_length_eq_zero h0
 simp [mag,this,dig]
theorem J3n:∀ (M:Nat) (x y:List UInt8),Jql x=true→Jql y=true→x.length≤M→y.length≤M→(0<y.length→at_ y (y.length - 1)≠48)→Op.bytesLess x y=true→dig x * 10 ^ (M - x.length)<dig y * 10 ^ (M - y.length)
 | M,x,[],_,_,_,_,_,h=>by cases x <;> simp [Op.bytesLess] at h
 | M,[],d :: y,_,hy,_,_,hl,_=>by
  have:=(J16 (by simp) hy (hl (by simp))).1
  simp only [dig,List.foldl_nil,Nat.zero_mul]
  exact Nat.mul_pos this (Nat.pow_pos (by decide))
 | M,c :: x,d :: y,hx,hy,h1,h2,hl,h=>by
  rw [Jr0] at hx hy
  simp only [List.length_cons] at h1 h2
  obtain ⟨m,rfl⟩:∃ m,M=m+1:=⟨M - 1,by omega⟩
  rw [Jtp,Jtp,List.length_cons,List.length_cons,Nat.add_sub_add_right,Nat.add_sub_add_right,Nat.add_mul,Nat.add_mul,Nat.mul_assoc,Nat.mul_assoc,← Nat.pow_add,← Nat.pow_add,
   show x.length+(m - x.length)=m by omega,show y.length+(m - y.length)=m by omega]
  simp only [Op.bytesLess,Bool.or_eq_true,decide_eq_true_eq,Bool.and_eq_true,beq_iff_eq] at h
  have bx:dig x * 10 ^ (m - x.length)<10 ^ m:=by
   have:=Nat.mul_lt_mul_of_pos_right (Jvj hx.2) (Nat.pow_pos (n:=m - x.length) (show 0<10 by decide))
   rwa [← Nat.pow_add,show x.length+(m - x.length)=m by omega] at this
  rcases h with h | ⟨h,h'⟩
  ·have hcd:c.toNat<d.toNat:=h
   have:(c.toNat - 48+1)≤d.toNat - 48:=by omega
   have:=Nat.mul_le_mul_right (10 ^ m) this
   rw [Nat.add_mul] at this
   omega
  ·subst h
   have hl':0<y.length→at_ y (y.length - 1)≠48:=fun hp=>by
    have:=hl (by simp)
    cases y with
    | nil=>simp at hp
    | cons a l=>simpa [at_] using this
   have:=J3n m x y hx.2 hy.2 (by omega) (by omega) hl' h'
   omega
theorem Jxf:∀ (x y:List UInt8),Op.bytesLess x y=true∨x=y∨Op.bytesLess y x=true
 | [],[]=>.inr (.inl rfl)
 | [],_ :: _=>.inl rfl
 | _ :: _,[]=>.inr (.inr rfl)
 | a :: x,b :: y=>by
  simp only [Op.bytesLess,Bool.or_eq_true,decide_eq_true_eq,Bool.and_eq_true,beq_iff_eq,List.cons.injEq]
  rcases Nat.lt_trichotomy a.toNat b.toNat with h | h | h
  ·exact .inl (.inl h)
  ·have:a=b:=UInt8.toNat_inj.1 h
   subst this
   rcases Jxf x y with h | h | h
   ·exact .inl (.inr ⟨rfl,h⟩)
   ·exact .inr (.inl ⟨rfl,h⟩)
   ·exact .inr (.inr (.inr ⟨rfl,h⟩))
  ·exact .inr (.inr (.inl h))
theorem Jso:∀ (x:List UInt8),Op.bytesLess x x=false
 | []=>rfl
 | a :: x=>by simp [Op.bytesLess,Jso x]
theorem J50 (a:Int):cmpI a a=0:=by simp [cmpI]
theorem Js4 {a b:Int} (h:a<b):cmpI a b = -1:=by simp [cmpI,h]
theorem Js3 {a b:Int} (h:b<a):cmpI a b=1:=by simp [cmpI,h];omega
theorem Jzt {a b:Node} (ha:RightN a) (hb:RightN b):Jx0 a b=cmpI (mag a) (mag b):=by
 unfold Jx0
 by_cases a0:a.s.length=0
 ·rw [if_pos a0,Jt9 a0]
  by_cases b0:b.s.length=0
  ·rw [Jt9 b0,a0,b0]
  ·have:=Jsq hb (by omega)
   rw [Js4 (by omega),Js4 (by omega)]
 ·rw [if_neg a0]
  have pa:=Jsq ha (by omega)
  by_cases b0:b.s.length=0
  ·rw [if_pos b0,Jt9 b0,Js3 (by omega),Js3 (by omega)]
  ·rw [if_neg b0]
   have la:=Jwk ha
   have lb:=Jwk hb
   have ga:=Jzc ha (by omega)
   have gb:=Jzc hb (by omega)
   have ea:=ha.e1
   have eb:=hb.e1
   rcases Int.lt_trichotomy (a.s.length+a.e) (b.s.length+b.e) with h | h | h
   ·rw [Js4 h,if_pos (by decide)]
    have:10 ^ (a.s.length+a.e+1000).toNat≤10 ^ (b.s.length+b.e+999).toNat:=Nat.pow_le_pow_right (by decide) (by omega)
    rw [Js4 (by omega)]
   ·rw [h,J50,if_neg (by decide)]
    let M:=max a.s.length b.s.length
    let E:=min a.e b.e
    have key:∀ {x y:Node},RightN x→RightN y→x.s.length+x.e=y.s.length+y.e→0<y.s.length→Op.bytesLess x.s y.s=true→mag x<mag y:=by
     intro x y hx hy hxy h0 hl
     have:=J3n (max x.s.length y.s.length) x.s y.s hx.figs hy.figs (by omega) (by omega) hy.last hl
     unfold mag
     have e1:=hx.e1
     have e2:=hy.e1
     have q1:(x.e+1000).toNat=(max x.s.length y.s.length - x.s.length)+(min x.e y.e+1000).toNat:=by omega
     have q2:(y.e+1000).toNat=(max x.s.length y.s.length - y.s.length)+(min x.e y.e+1000).toNat:=by omega
     rw [q1,q2,Nat.pow_add,Nat.pow_add,← Nat.mul_assoc,← Nat.mul_assoc]
     exact Nat.mul_lt_mul_of_pos_right this (Nat.pow_pos (by decide))
    unfold cmpS
    rcases Jxf a.s b.s with g | g | g
    ·rw [if_pos g,Js4 (by have:=key ha hb h (by omega) g;omega)]
    ·have e:a.e=b.e:=by rw [g] at h;omega
     rw [g,Jso]
     simp [mag,g,e,cmpI]
    ·have n1:Op.bytesLess a.s b.s=false:=by
      cases hh:Op.bytesLess a.s b.s with
      | false=>rfl
      | true =>
       have:=key ha hb h (by omega) hh
       have:=key hb ha h.symm (by omega) g
       omega
     have n2:(a.s == b.s)=false:=by
      rw [beq_eq_false_iff_ne]
      intro hh
      rw [hh,Jso] at g
      cases g
     rw [n1,n2,Js3 (by have:=key hb ha h.symm (by omega) g;omega)]
     simp
   ·rw [Js3 h,if_pos (by decide)]
    have:10 ^ (b.s.length+b.e+1000).toNat≤10 ^ (a.s.length+a.e+999).toNat:=Nat.pow_le_pow_right (by decide) (by omega)
    rw [Js3 (by omega)]
theorem RightN.neg_len {n:Node} (h:RightN n) (hn:n.neg=true):0<n.s.length:=by
 by_cases h0:n.s.length=0
 ·rw [(h.zero h0).1] at hn;cases hn
 ·omega
theorem Jz8 {a b:Node} (ha:RightN a) (hb:RightN b):Jty a b=cmpI (sv a) (sv b):=by
 unfold Jty sv
 cases na:a.neg <;> cases nb:b.neg <;> simp only [Bool.false_eq_true,false_and,and_false,and_self,and_true,↓reduceIte,Bool.true_eq_false]
 ·exact Jzt ha hb
 ·have:=Jsq hb (hb.neg_len nb)
  rw [Js3 (by omega)]
 ·have:=Jsq ha (ha.neg_len na)
  rw [Js4 (by omega)]
 ·rw [Jzt hb ha]
  unfold cmpI
  split <;> split <;> (first | rfl | omega | skip)
  all_goals (split <;> first | rfl | omega | skip)
  all_goals (split <;> first | rfl | omega)
end Go.LX
namespace Go.LX
open Go Go.Proofs
theorem J7c {s:List UInt8} (hf:Jql s=true) (k:Nat):dig s / 10 ^ k % 10=if k<s.length then at_ s (s.length - 1 - k) - 48 else 0:=by
 split
 ·rename_i hk
  have h1:s=s.take (s.length - 1 - k) ++ ([s[s.length - 1 - k]] ++ s.drop (s.length - k)):=by
   have e:s.length - k=(s.length - 1 - k)+1:=by omega
   rw [e,List.singleton_append,← List.drop_eq_getElem_cons,List.take_append_drop]
  have hl:(s.drop (s.length - k)).length=k:=by simp;omega
  have hv:Jql (s.drop (s.length - k))=true:=by
   rw [h1] at hf
   exact (Jry.1 (Jry.1 hf).2).2
  have hc:48≤s[s.length - 1 - k].toNat∧s[s.length - 1 - k].toNat≤57:=by
   rw [h1] at hf
   exact (Jr0.1 (Jry.1 (Jry.1 hf).2).1).1
  have hd:=Jvj hv
  rw [hl] at hd
  conv=>lhs;rw [h1]
  rw [Jvr,Jvr,List.length_append,hl]
  have e1:dig [s[s.length - 1 - k]]=s[s.length - 1 - k].toNat - 48:=by simp [dig]
  rw [e1,Ql (show s.length - 1 - k<s.length by omega)]
  have:dig (s.take (s.length - 1 - k)) * 10 ^ ([s[s.length - 1 - k]].length+k)+((s[s.length - 1 - k].toNat - 48) * 10 ^ k+dig (s.drop (s.length - k)))=(dig (s.take (s.length - 1 - k)) * 10+(s[s.length - 1 - k].toNat - 48)) * 10 ^ k+dig (s.drop (s.length - k)):=by
   simp only [List.length_cons,List.length_nil]
   rw [Nat.zero_add,Nat.pow_add,Nat.pow_one,Nat.add_mul,Nat.mul_assoc];omega
  rw [this,Nat.add_comm,Nat.add_mul_div_right _ _ (Nat.pow_pos (by decide)),Nat.div_eq_of_lt hd]
  omega
 ·rename_i hk
  have:dig s<10 ^ k:=Nat.lt_of_lt_of_le (Jvj hf) (Nat.pow_le_pow_right (by decide) (by omega))
  rw [Nat.div_eq_of_lt this]
theorem J6f {s:List UInt8} (hf:Jql s=true) {i:Nat} (h:i<s.length):48≤at_ s i∧at_ s i≤57:=by
 rw [Ql h]
 simp only [Jql,List.all_eq_true] at hf
 have:=hf _ (List.getElem_mem h)
 simpa [J2h] using this
theorem J2c {n:Node} (hf:Jql n.s=true) (he:-1000≤n.e) (k:Nat):Jr4 n ((k:Int) - 1000)=((mag n / 10 ^ k % 10:Nat):Int):=by
 unfold Jr4 mag
 simp only
 by_cases hp:(k:Int) - 1000<n.e
 ·have e:(n.e+1000).toNat=((n.e+1000).toNat - k - 1)+1+k:=by omega
  rw [e,Nat.pow_add,← Nat.mul_assoc,Nat.mul_div_cancel _ (Nat.pow_pos (by decide)),Nat.pow_succ,← Nat.mul_assoc,Nat.mul_mod_left]
  by_cases h1:(n.s.length:Int) - 1 - (k - 1000 - n.e)<0
  ·rw [if_pos h1];rfl
  ·rw [if_neg h1,if_pos (by omega)];rfl
 ·have e:k=(n.e+1000).toNat+(k - (n.e+1000).toNat):=by omega
  have e2:dig n.s * 10 ^ (n.e+1000).toNat / 10 ^ k=dig n.s / 10 ^ (k - (n.e+1000).toNat):=by
   conv=>lhs;rw [e,Nat.pow_add,← Nat.div_div_eq_div_mul,Nat.mul_div_cancel _ (Nat.pow_pos (by decide))]
  rw [e2,J7c hf]
  by_cases h1:k - (n.e+1000).toNat<n.s.length
  ·rw [if_neg (by omega),if_neg (by omega),if_pos h1]
   have e3:((n.s.length:Int) - 1 - (k - 1000 - n.e)).toNat=n.s.length - 1 - (k - (n.e+1000).toNat):=by omega
   rw [e3]
   have:=J6f hf (show n.s.length - 1 - (k - (n.e+1000).toNat)<n.s.length by omega)
   omega
  ·rw [if_pos (by omega),if_neg h1]
   rfl
def cmp3 (side:Int) (x y:Nat):Int:=if x<y then -side else if y<x then side else 0
theorem Jy5 {f g:Int→Int} {A B:Nat} (side:Int) (hf:∀ k:Nat,f ((k:Int) - 1000)=((A / 10 ^ k % 10:Nat):Int)) (hg:∀ k:Nat,g ((k:Int) - 1000)=((B / 10 ^ k % 10:Nat):Int)) (k:Nat) :
  ∀ m,A / 10 ^ (k+m)=B / 10 ^ (k+m)→Jsf f g side m ((k:Int)+m - 1 - 1000)=cmp3 side (A / 10 ^ k) (B / 10 ^ k)
 | 0,h=>by simp only [Nat.add_zero] at h;simp [Jsf,cmp3,h]
 | m+1,h=>by
  have hp:((k:Int)+(m+1:Nat) - 1 - 1000)=((k+m:Nat):Int) - 1000:=by omega
  have hp2:((k+m:Nat):Int) - 1000 - 1=(k:Int)+m - 1 - 1000:=by omega
  rw [hp,Jsf,hf,hg,hp2]
  have d1:A / 10 ^ (k+(m+1))=A / 10 ^ (k+m) / 10:=by rw [← Nat.add_assoc,Nat.pow_succ,Nat.div_div_eq_div_mul]
  have d2:B / 10 ^ (k+(m+1))=B / 10 ^ (k+m) / 10:=by rw [← Nat.add_assoc,Nat.pow_succ,Nat.div_div_eq_div_mul]
  rw [d1,d2] at h
  have a1:A / 10 ^ (k+m)=A / 10 ^ k / 10 ^ m:=by rw [Nat.pow_add,Nat.div_div_eq_div_mul]
  have a2:B / 10 ^ (k+m)=B / 10 ^ k / 10 ^ m:=by rw [Nat.pow_add,Nat.div_div_eq_div_mul]
  have mono:∀ {x y:Nat},x / 10 ^ m<y / 10 ^ m→x<y:=fun {x y} hh=>by
   apply Classical.byContradiction
   intro hc
   have:=Nat.div_le_div_right (c:=10 ^ m) (show y≤x by omega)
   omega
  by_cases c1:A / 10 ^ (k+m) % 10<B / 10 ^ (k+m) % 10
  ·rw [if_pos (by omega)]
   have:A / 10 ^ k<B / 10 ^ k:=mono (by omega)
   simp [cmp3,this]
  ·rw [if_neg (by omega)]
   by_cases c2:B / 10 ^ (k+m) % 10<A / 10 ^ (k+m) % 10
   ·rw [if_pos (by omega)]
    have:B / 10 ^ k<A / 10 ^ k:=mono (by omega)
    simp only [cmp3]
    rw [if_neg (by omega),if_pos this]
   ·rw [if_neg (by omega)]
    exact Jy5 side hf hg k m (by omega)
theorem J5u {n:Node} {k:Nat} (h:(k:Int)≤n.e+1000):10 ^ k ∣ mag n:=by
 unfold mag
 exact Nat.dvd_trans (Nat.pow_dvd_pow 10 (show k≤(n.e+1000).toNat by omega)) (Nat.dvd_mul_left _ _)
theorem J6n {a b:Node} (ha:RightN a) (hb:RightN b):Jsz a b=cmpI (sv a) (sv b):=by
 unfold Jsz
 simp only
 by_cases hn:a.neg=b.neg
 ·rw [if_neg (by simp [hn])]
  have e1:=ha.e1
  have e2:=hb.e1
  generalize hs:(if a.neg=true then (-1:Int) else 1)=side
  have ta:=Jwk ha
  have tb:=Jwk hb
  obtain ⟨k,hk⟩:∃ k:Nat,(k:Int)=min a.e b.e+1000:=⟨(min a.e b.e+1000).toNat,by omega⟩
  obtain ⟨m,hm⟩:∃ m:Nat,(m:Int)=max ((a.s.length:Int)+a.e) (b.s.length+b.e) - min a.e b.e+1:=⟨(max ((a.s.length:Int)+a.e) (b.s.length+b.e) - min a.e b.e+1).toNat,by omega⟩
  have g1:(max ((a.s.length:Int)+a.e) (b.s.length+b.e) - min a.e b.e+1).toNat=m:=by omega
  have g2:max ((a.s.length:Int)+a.e) (b.s.length+b.e)=(k:Int)+m - 1 - 1000:=by omega
  rw [g1,g2,Jy5 side (J2c ha.figs e1) (J2c hb.figs e2) k m (by
   rw [Nat.div_eq_of_lt (Nat.lt_of_lt_of_le ta (Nat.pow_le_pow_right (by decide) (by omega))),Nat.div_eq_of_lt (Nat.lt_of_lt_of_le tb (Nat.pow_le_pow_right (by decide) (by omega)))])]
  obtain ⟨x,hx⟩:=J5u (n:=a) (k:=k) (by omega)
  obtain ⟨y,hy⟩:=J5u (n:=b) (k:=k) (by omega)
  have hpos:0<10 ^ k:=Nat.pow_pos (by decide)
  have q1:mag a / 10 ^ k=x:=by rw [hx];exact Nat.mul_div_cancel_left _ hpos
  have q2:mag b / 10 ^ k=y:=by rw [hy];exact Nat.mul_div_cancel_left _ hpos
  rw [q1,q2]
  have lt:∀ {u v:Nat},u<v→10 ^ k * u<10 ^ k * v:=fun h=>Nat.mul_lt_mul_of_pos_left h hpos
  unfold cmp3 sv
  rw [← hn]
  rcases Nat.lt_trichotomy x y with h | h | h
  ·rw [if_pos h]
   have:=lt h
   rw [← hx,← hy] at this
   cases na:a.neg <;> simp only [na,Bool.false_eq_true,↓reduceIte] at hs ⊢
   ·rw [Js4 (by omega)];omega
   ·rw [Js3 (by omega)];omega
  ·rw [if_neg (by omega),if_neg (by omega),hx,hy,h]
   simp [cmpI]
  ·rw [if_neg (by omega),if_pos h]
   have:=lt h
   rw [← hx,← hy] at this
   cases na:a.neg <;> simp only [na,Bool.false_eq_true,↓reduceIte] at hs ⊢
   ·rw [Js3 (by omega)];omega
   ·rw [Js4 (by omega)];omega
 ·rw [if_pos (by simpa using hn)]
  unfold sv
  cases na:a.neg <;> cases nb:b.neg <;> simp only [na,nb,Bool.false_eq_true,↓reduceIte,not_true_eq_false] at hn ⊢
  ·have:=Jsq hb (hb.neg_len nb)
   rw [Js3 (by omega)]
  ·have:=Jsq ha (ha.neg_len na)
   rw [Js4 (by omega)]
def Node.flip (n:Node):Node:={ n with neg:=!n.neg && (n.s != []) }
theorem RightN.flip {n:Node} (h:RightN n):RightN n.flip:=by
 obtain ⟨g1,g2,g3,g4,g5,g6,g7,g8,g9,g10,g11⟩:=h
 refine ⟨g1,g2,g3,g4,g5,g6,g7,g8,fun h0=>⟨?_,(g9 h0).2⟩,g10,g11⟩
 have:n.s=[]:=List.eq_nil_of_length_eq_zero h0
 simp [Node.flip,this]
end Go.LX
set_option maxRecDepth 100000
set_option maxHeartbeats 2000000
namespace Go.LX
open Go Go.RowKit Go.Proofs
attribute [local irreducible] Al SWP Bi
def lexI {α β:Type} (c:α→β→Int):List α→List β→Int
 | [],[]=>0
 | [],_ :: _=>-1
 | _ :: _,[]=>1
 | x :: l,y :: m=>if c x y=0 then lexI c l m else c x y
theorem J1a {α β:Type} {c:α→β→Int} {l:List α} {m:List β} {i:Nat} {x:α} {y:β} (hx:l[i]? = some x) (hy:m[i]? = some y) :
  lexI c (l.drop i) (m.drop i)=if c x y=0 then lexI c (l.drop (i+1)) (m.drop (i+1)) else c x y:=by
 obtain ⟨h1,rfl⟩:=List.getElem?_eq_some_iff.1 hx
 obtain ⟨h2,rfl⟩:=List.getElem?_eq_some_iff.1 hy
 rw [List.drop_eq_getElem_cons h1,List.drop_eq_getElem_cons h2,lexI]
theorem Jvz {α β:Type} {c:α→β→Int} {l:List α} {m:List β} {i:Nat} (h:l.length≤i) (hm:i<m.length):lexI c (l.drop i) (m.drop i) = -1:=by
 rw [List.drop_eq_nil_of_le h,List.drop_eq_getElem_cons hm,lexI]
theorem Jvu {α β:Type} {c:α→β→Int} {l:List α} {m:List β} {i:Nat} (h:l.length≤i) (hm:m.length≤i):lexI c (l.drop i) (m.drop i)=0:=by
 rw [List.drop_eq_nil_of_le h,List.drop_eq_nil_of_le hm,lexI]
theorem Jwh {α β:Type} {c:α→β→Int} {l:List α} {m:List β} {i:Nat} (h:i<l.length) (hm:m.length≤i):lexI c (l.drop i) (m.drop i)=1:=by
 rw [List.drop_eq_getElem_cons h,List.drop_eq_nil_of_le hm,lexI]
theorem Jsl (a:List UInt8):cmpS a a=0:=by simp [cmpS,E0]
theorem J0n {a b:List UInt8} (h:cmpS a b=0):a=b:=by
 unfold cmpS at h
 split at h
 ·omega
 ·split at h
  ·omega
  ·rename_i h1 h2
   simp at h1 h2
   exact h2 h1
theorem J5c {a b:List UInt8} (h:¬ a=b):cmpS a b=if Op.bytesLess a b=true then -1 else 1:=by
 unfold cmpS
 split
 ·rfl
 ·rename_i h1
  simp at h1
  simp [h1,h]
def ndN (s:List UInt8) (g:Bool) (e:Int):Node:=⟨3,0,[],s,g,e⟩
mutual
def cmpT:Tree→Tree→Int
 | .mk k s g e kids,.mk k' s' g' e' kids' =>
  if k=k' then (if k=3 then Jty (ndN s g e) (ndN s' g' e') else if k=4 then cmpS s s' else
   if k=6 then (if lexI cmpS (kids.list.map (·.1)) (kids'.list.map (·.1))=0 then cmpF kids kids'.list else lexI cmpS (kids.list.map (·.1)) (kids'.list.map (·.1))) else
   if k=5 then cmpF kids kids'.list else 0) else cmpI k k'
def cmpF:Forest→List KT→Int
 | .nil,[]=>0
 | .nil,_ :: _=>-1
 | .cons _ _ _,[]=>1
 | .cons _ t r,q :: l=>if cmpT t q.2=0 then cmpF r l else cmpT t q.2
end
theorem Jrd {k:Int} {s:List UInt8} {g:Bool} {e:Int} {kids:Forest} {k':Int} {s':List UInt8} {g':Bool} {e':Int} {kids':Forest}:cmpT (.mk k s g e kids) (.mk k' s' g' e' kids') =
  if k=k' then (if k=3 then Jty (ndN s g e) (ndN s' g' e') else if k=4 then cmpS s s' else
   if k=6 then (if lexI cmpS (kids.list.map (·.1)) (kids'.list.map (·.1))=0 then cmpF kids kids'.list else lexI cmpS (kids.list.map (·.1)) (kids'.list.map (·.1))) else
   if k=5 then cmpF kids kids'.list else 0) else cmpI k k':=by rw [cmpT]
theorem Jtf:∀ (f:Forest) (l:List KT),cmpF f l=lexI (fun p q:KT=>cmpT p.2 q.2) f.list l
 | .nil,[]=>by rw [cmpF];rfl
 | .nil,_ :: _=>by rw [cmpF];rfl
 | .cons _ _ _,[]=>by rw [cmpF];rfl
 | .cons _ t r,q :: l=>by rw [cmpF,Jtf r l];rfl
theorem Jux {l:List KT} {i:Nat} {p:KT} (h:l[i]? = some p):(Bd l)[i]? = some [.str p.1]:=by simp [Bd,h]
theorem Jwg {l:List KT} {i:Nat} {p:KT} (h:l[i]? = some p):(l.map (·.1))[i]? = some p.1:=by simp [h]
theorem Jy4 (l m:List KT) (hl:l.length≤1000000) (hlm:m.length≤1000000):Det cx 186 [.p (.sl (Bd l)),.p (.sl (Bd m))] [] (.p (.int .i64 (lexI cmpS (l.map (·.1)) (m.map (·.1))))) []:=by
 have e1:(l.map (·.1)).length=l.length:=List.length_map ..
 have e2:(m.map (·.1)).length=m.length:=List.length_map ..
 (refine Jqa false [] Tryz.func186 ?_;refine Ae hm _ _ _ ?_;simp only [Tryz.ntmps186,Tryz.results186,go_sem,simprocAttr,A9,if_true,if_false])
 skip
 refine SWP.loop (fun i:Nat=>⟨Ba 36 [(0,.p (.sl (Bd l))),(1,.p (.sl (Bd m))),(9,.p (.sl (Bd l))),(10,.p (.int .i64 l.length)),(11,.p (.int .i64 i))],[]⟩) (fun i=>i≤l.length∧lexI cmpS (l.map (·.1)) (m.map (·.1))=lexI cmpS ((l.map (·.1)).drop i) ((m.map (·.1)).drop i)) (fun i=>l.length - i) 0 Jqb ⟨Nat.zero_le _,rfl⟩ ?_
 rintro i ⟨h1,h3⟩
 by_cases hi:i<l.length
 ·have c1:((i:Int)<(l.length:Int))=True:=eq_true (by omega)
  obtain ⟨x,hx⟩:∃ x,l[i]? = some x:=⟨_,List.getElem?_eq_getElem hi⟩
  have hgx:=Jux hx
  by_cases hj:i<m.length
  ·have c2:((m.length:Int)≤(i:Int))=False:=eq_false (by omega)
   obtain ⟨y,hy⟩:∃ y,m[i]? = some y:=⟨_,List.getElem?_eq_getElem hj⟩
   have hgy:=Jux hy
   have w1:=wj1 (i:=i) (by omega)
   have hk:=J1a (c:=cmpS) (Jwg hx) (Jwg hy)
   (refine Ae hm _ _ _ ?_;simp only [go_sem,simprocAttr,A9,c1,c2,hgx,hgy])
   (repeat' (first | (refine iteI (fun h=>?_) (fun h=>?_))|((refine Det.use (J9j _ _) ?_);simp only [go_sem,simprocAttr,w1]) | fail))
   ·rw [h3,hk,if_neg h]
   ·exact ⟨i+1,⟨by omega,by rw [h3,hk,if_pos (Decidable.not_not.1 h)]⟩,by omega,Jqb⟩
  ·have c2:((m.length:Int)≤(i:Int))=True:=eq_true (by omega)
   (refine Ae hm _ _ _ ?_;simp only [go_sem,simprocAttr,A9,c1,c2,hgx])
   skip
   rw [h3,Jwh (by omega) (by omega)]
 ·have c1:((i:Int)<(l.length:Int))=False:=eq_false (by omega)
  (refine Ae hm _ _ _ ?_;simp only [go_sem,simprocAttr,A9,c1])
  (repeat' (refine iteI (fun h=>?_) (fun h=>?_)))
  ·rw [h3,Jvz (by omega) (by omega)]
  ·rw [h3,Jvu (by omega) (by omega)]
theorem Jtx (a b:Bool):Det cx 188 [.p (.bool a),.p (.bool b)] [] (.p (.int .i64 (if b=true then 0 else if a=true then -1 else 1))) []:=by
 (refine Jqa false [] Tryz.func188 ?_;refine Ae hm _ _ _ ?_;simp only [Tryz.ntmps188,Tryz.results188,go_sem,simprocAttr])
 cases a <;> cases b <;> (repeat' (refine iteI (fun h=>?_) (fun h=>?_)))
 all_goals (first | rfl | simp_all)
theorem J26 (l m:List KT) (hl:l.length≤1000000) (hlm:m.length≤1000000):Det cx 191 [.p (.sl (Bd l)),.p (.sl (Bd m))] [] (.p (.int .i64 (lexI cmpS (l.map (·.1)) (m.map (·.1))))) []:=by
 have e1:(l.map (·.1)).length=l.length:=List.length_map ..
 have e2:(m.map (·.1)).length=m.length:=List.length_map ..
 (refine Jqa false [] Tryz.func191 ?_;refine Ae hm _ _ _ ?_;simp only [Tryz.ntmps191,Tryz.results191,go_sem,simprocAttr,A9,if_true,if_false])
 refine SWP.loop (fun i:Nat=>⟨Ba 48 [(0,.p (.sl (Bd l))),(1,.p (.sl (Bd m))),(5,.p (.int .i64 i))],[]⟩) (fun i=>i≤l.length∧i≤m.length∧lexI cmpS (l.map (·.1)) (m.map (·.1))=lexI cmpS ((l.map (·.1)).drop i) ((m.map (·.1)).drop i)) (fun i=>l.length - i) 0 Jqb ⟨Nat.zero_le _,Nat.zero_le _,rfl⟩ ?_
 rintro i ⟨h1,h2,h3⟩
 by_cases hij:i<l.length∧i<m.length
 ·have c1:((i:Int)<(l.length:Int))=True:=eq_true (by omega)
  have c2:((i:Int)<(m.length:Int))=True:=eq_true (by omega)
  obtain ⟨x,hx⟩:∃ x,l[i]? = some x:=⟨_,List.getElem?_eq_getElem hij.1⟩
  obtain ⟨y,hy⟩:∃ y,m[i]? = some y:=⟨_,List.getElem?_eq_getElem hij.2⟩
  have hgx:=Jux hx
  have hgy:=Jux hy
  have w1:=wj1 (i:=i) (by omega)
  have hk:=J1a (c:=cmpS) (Jwg hx) (Jwg hy)
  (refine Ae hm _ _ _ ?_;simp only [go_sem,simprocAttr,A9,c1,c2])
  (repeat' (first | (refine iteI (fun h=>?_) (fun h=>?_))|((first | (refine Jqd hm ?_)|(refine Det.useQ (Jtx _ _) ?_));simp only [go_sem,simprocAttr,hgx,hgy,w1]) | fail))
  ·have h:=(show ¬ x.1=y.1 by assumption)
   have hne:cmpS x.1 y.1≠0:=fun e=>h (J0n e)
   rw [h3,hk,if_neg hne,J5c h]
  ·have h:=Decidable.not_not.1 (show ¬ ¬ x.1=y.1 by assumption)
   exact ⟨i+1,⟨by omega,by omega,by rw [h3,hk,h,Jsl,if_pos rfl]⟩,by omega,Jqb⟩
 ·by_cases hi:i<l.length
  ·have c1:((i:Int)<(l.length:Int))=True:=eq_true (by omega)
   have c2:((i:Int)<(m.length:Int))=False:=eq_false (by omega)
   have c3:((l.length:Int)<(m.length:Int))=False:=eq_false (by omega)
   have c4:((l.length:Int)=(m.length:Int))=False:=eq_false (by omega)
   (refine Ae hm _ _ _ ?_;simp only [go_sem,simprocAttr,A9,c1,c2,c3,decide_false,decide_true])
   (repeat' (first | ((refine Det.use (Jtx _ _) ?_);simp only [go_sem,simprocAttr,c4]) | fail))
   rw [h3,Jwh (by omega) (by omega)]
  ·have c1:((i:Int)<(l.length:Int))=False:=eq_false (by omega)
   by_cases hj:i<m.length
   ·have c3:((l.length:Int)<(m.length:Int))=True:=eq_true (by omega)
    have c4:((l.length:Int)=(m.length:Int))=False:=eq_false (by omega)
    (refine Ae hm _ _ _ ?_;simp only [go_sem,simprocAttr,A9,c1,c3,decide_false,decide_true])
    (repeat' (first | ((refine Det.use (Jtx _ _) ?_);simp only [go_sem,simprocAttr,c4]) | fail))
    rw [h3,Jvz (by omega) (by omega)]
   ·have c3:((l.length:Int)<(m.length:Int))=False:=eq_false (by omega)
    have c4:((l.length:Int)=(m.length:Int))=True:=eq_true (by omega)
    (refine Ae hm _ _ _ ?_;simp only [go_sem,simprocAttr,A9,c1,c3,decide_false])
    (repeat' (first | ((refine Det.use (Jtx _ _) ?_);simp only [go_sem,simprocAttr,c4]) | fail))
    rw [h3,Jvu (by omega) (by omega)]
theorem Jxr {l:List KT} {i:Nat} {p:KT} (h:l[i]? = some p):(A4 l)[i]? = some [.sl (valL (p.2.enc []))]:=by simp [A4,h]
theorem Jrp (a:Int):cmpI a a=0:=by simp [cmpI]
abbrev cmp2 (p q:KT):Int:=cmpT p.2 q.2
theorem Jz3 (l m:List KT) (hl:l.length≤1000000) (hlm:m.length≤1000000) (hc:∀ p∈l,∀ q∈m,Det cx 105 [.p (.sl (valL (p.2.enc []))),.p (.sl (valL (q.2.enc [])))] [] (.p (.int .i64 (cmp2 p q))) []) :
  Det cx 187 [.p (.sl (A4 l)),.p (.sl (A4 m)),.fn 105 []] [] (.p (.int .i64 (lexI cmp2 l m))) []:=by
 (refine Jqa false [] Tryz.func187 ?_;refine Ae hm _ _ _ ?_;simp only [Tryz.ntmps187,Tryz.results187,go_sem,simprocAttr,A5,if_true,if_false])
 skip
 refine SWP.loop (fun i:Nat=>⟨Ba 39 [(0,.p (.sl (A4 l))),(1,.p (.sl (A4 m))),(2,.fn 105 []),(11,.p (.sl (A4 l))),(12,.p (.int .i64 l.length)),(13,.p (.int .i64 i))],[]⟩) (fun i=>i≤l.length∧lexI cmp2 l m=lexI cmp2 (l.drop i) (m.drop i)) (fun i=>l.length - i) 0 Jqb ⟨Nat.zero_le _,rfl⟩ ?_
 rintro i ⟨h1,h3⟩
 by_cases hi:i<l.length
 ·have c1:((i:Int)<(l.length:Int))=True:=eq_true (by omega)
  obtain ⟨x,hx⟩:∃ x,l[i]? = some x:=⟨_,List.getElem?_eq_getElem hi⟩
  have hgx:=Jxr hx
  by_cases hj:i<m.length
  ·have c2:((m.length:Int)≤(i:Int))=False:=eq_false (by omega)
   obtain ⟨y,hy⟩:∃ y,m[i]? = some y:=⟨_,List.getElem?_eq_getElem hj⟩
   have hgy:=Jxr hy
   have w1:=wj1 (i:=i) (by omega)
   have hk:=J1a (c:=cmp2) hx hy
   have hxy:=hc x (List.mem_of_getElem? hx) y (List.mem_of_getElem? hy)
   (refine Ae hm _ _ _ ?_;simp only [go_sem,simprocAttr,A5,c1,c2,hgx,hgy])
   (repeat' (first | (refine iteI (fun h=>?_) (fun h=>?_))|((refine Det.use (hxy) ?_);simp only [go_sem,simprocAttr,w1]) | fail))
   ·rw [h3,hk,if_neg h]
   ·exact ⟨i+1,⟨by omega,by rw [h3,hk,if_pos (Decidable.not_not.1 h)]⟩,by omega,Jqb⟩
  ·have c2:((m.length:Int)≤(i:Int))=True:=eq_true (by omega)
   (refine Ae hm _ _ _ ?_;simp only [go_sem,simprocAttr,A5,c1,c2,hgx])
   skip
   rw [h3,Jwh (by omega) (by omega)]
 ·have c1:((i:Int)<(l.length:Int))=False:=eq_false (by omega)
  (refine Ae hm _ _ _ ?_;simp only [go_sem,simprocAttr,A5,c1])
  (repeat' (refine iteI (fun h=>?_) (fun h=>?_)))
  ·rw [h3,Jvz (by omega) (by omega)]
  ·rw [h3,Jvu (by omega) (by omega)]
theorem J4i (l m:List KT) (hl:l.length≤1000000) (hlm:m.length≤1000000) (hc:∀ p∈l,∀ q∈m,Det cx 107 [.p (.sl (valL (p.2.enc []))),.p (.sl (valL (q.2.enc [])))] [] (.p (.int .i64 (cmp2 p q))) []) :
  Det cx 190 [.p (.sl (A4 l)),.p (.sl (A4 m))] [] (.p (.int .i64 (lexI cmp2 l m))) []:=by
 (refine Jqa false [] Tryz.func190 ?_;refine Ae hm _ _ _ ?_;simp only [Tryz.ntmps190,Tryz.results190,go_sem,simprocAttr,A5,if_true,if_false])
 refine SWP.loop (fun i:Nat=>⟨Ba 42 [(0,.p (.sl (A4 l))),(1,.p (.sl (A4 m))),(5,.p (.int .i64 i))],[]⟩) (fun i=>i≤l.length∧i≤m.length∧lexI cmp2 l m=lexI cmp2 (l.drop i) (m.drop i)) (fun i=>l.length - i) 0 Jqb ⟨Nat.zero_le _,Nat.zero_le _,rfl⟩ ?_
 rintro i ⟨h1,h2,h3⟩
 by_cases hij:i<l.length∧i<m.length
 ·have c1:((i:Int)<(l.length:Int))=True:=eq_true (by omega)
  have c2:((i:Int)<(m.length:Int))=True:=eq_true (by omega)
  obtain ⟨x,hx⟩:∃ x,l[i]? = some x:=⟨_,List.getElem?_eq_getElem hij.1⟩
  obtain ⟨y,hy⟩:∃ y,m[i]? = some y:=⟨_,List.getElem?_eq_getElem hij.2⟩
  have hgx:=Jxr hx
  have hgy:=Jxr hy
  have w1:=wj1 (i:=i) (by omega)
  have hk:=J1a (c:=cmp2) hx hy
  have hxy:=hc x (List.mem_of_getElem? hx) y (List.mem_of_getElem? hy)
  (refine Ae hm _ _ _ ?_;simp only [go_sem,simprocAttr,A5,c1,c2])
  (repeat' (first | (refine iteI (fun h=>?_) (fun h=>?_))|((first | (refine Jqd hm ?_)|(refine Det.useQ (hxy) ?_));simp only [go_sem,simprocAttr,hgx,hgy,w1]) | fail))
  ·rw [h3,hk,if_neg h]
  ·exact ⟨i+1,⟨by omega,by omega,by rw [h3,hk,if_pos (Decidable.not_not.1 h)]⟩,by omega,Jqb⟩
 ·by_cases hi:i<l.length
  ·have c1:((i:Int)<(l.length:Int))=True:=eq_true (by omega)
   have c2:((i:Int)<(m.length:Int))=False:=eq_false (by omega)
   have c3:((l.length:Int)<(m.length:Int))=False:=eq_false (by omega)
   have c4:((l.length:Int)=(m.length:Int))=False:=eq_false (by omega)
   (refine Ae hm _ _ _ ?_;simp only [go_sem,simprocAttr,A5,c1,c2,c3,decide_false,decide_true])
   (repeat' (first | ((refine Det.use (Jtx _ _) ?_);simp only [go_sem,simprocAttr,c4]) | fail))
   rw [h3,Jwh (by omega) (by omega)]
  ·have c1:((i:Int)<(l.length:Int))=False:=eq_false (by omega)
   by_cases hj:i<m.length
   ·have c3:((l.length:Int)<(m.length:Int))=True:=eq_true (by omega)
    have c4:((l.length:Int)=(m.length:Int))=False:=eq_false (by omega)
    (refine Ae hm _ _ _ ?_;simp only [go_sem,simprocAttr,A5,c1,c3,decide_false,decide_true])
    (repeat' (first | ((refine Det.use (Jtx _ _) ?_);simp only [go_sem,simprocAttr,c4]) | fail))
    rw [h3,Jvz (by omega) (by omega)]
   ·have c3:((l.length:Int)<(m.length:Int))=False:=eq_false (by omega)
    have c4:((l.length:Int)=(m.length:Int))=True:=eq_true (by omega)
    (refine Ae hm _ _ _ ?_;simp only [go_sem,simprocAttr,A5,c1,c3,decide_false])
    (repeat' (first | ((refine Det.use (Jtx _ _) ?_);simp only [go_sem,simprocAttr,c4]) | fail))
    rw [h3,Jvu (by omega) (by omega)]
theorem Jwa {k m:Int} {nm s:List UInt8} {g:Bool} {e:Int} (h:Yz s g e):Node.small ⟨k,m,nm,s,g,e⟩:=by
 obtain ⟨_,h1,h2,h3,_⟩:=h
 exact ⟨by show s.length≤_;omega,by show _≤e;omega,by show e≤_;omega⟩
theorem Jr2 {s:List UInt8} {g:Bool} {e:Int} (h:Yz s g e):RightN (ndN s g e):=by
 obtain ⟨h0,h1,h2,h3,h4,h5⟩:=h
 refine ⟨rfl,rfl,rfl,h0,h1,h2,h3,h4,fun hz=>?_,fun hp=>?_,fun hp=>?_⟩
 ·have:s=[]:=List.eq_nil_of_length_eq_zero hz
  rw [if_pos this] at h5;exact h5
 ·have:s≠[]:=by intro e;subst e;exact (Nat.lt_irrefl 0 hp).elim
  rw [if_neg this] at h5;exact h5.1
 ·have:s≠[]:=by intro e;subst e;exact (Nat.lt_irrefl 0 hp).elim
  rw [if_neg this] at h5;exact h5.2
theorem J4x {s s':List UInt8} {g g':Bool} {e e':Int} (h:Yz s g e) (h':Yz s' g' e'):Jsz (ndN s g e) (ndN s' g' e')=Jty (ndN s g e) (ndN s' g' e'):=by
 rw [J6n (Jr2 h) (Jr2 h'),Jz8 (Jr2 h) (Jr2 h')]
theorem Jsy {k m:Int} {s:List UInt8} {g:Bool} {e:Int} (h:G3 k s g e m) (hk:k=3):Yz s g e:=by
 subst hk
 unfold G3 at h
 simp at h
 exact h.2
end Go.LX
