/- Numbers, plain: their values; what is greater. -/
import Derived.Test.YtaghbedfogiopaaGreatDoorLxU
set_option linter.unusedSimpArgs false
set_option linter.unusedVariables false
set_option linter.unusedSectionVars false
set_option linter.unnecessarySimpa false
namespace Go.LX
open Go Go.Proofs
def dig (s:List UInt8):Nat:=s.foldl (fun n c=>n * 10+(c.toNat - 48)) 0
def digF (n:Nat) (s:List UInt8):Nat:=s.foldl (fun n c=>n * 10+(c.toNat - 48)) n
theorem J1g:∀ (s:List UInt8) (n:Nat),digF n s=n * 10 ^ s.length+dig s
 | [],n=>by simp [digF,dig]
 | c :: s,n=>by
  have h1:=J1g s (n * 10+(c.toNat - 48));have h2:=J1g s (0 * 10+(c.toNat - 48));have e:dig (c :: s)=digF (0 * 10+(c.toNat - 48)) s:=rfl;have e':digF n (c :: s)=digF (n * 10+(c.toNat - 48)) s:=rfl;rw [e,e',h1,h2,List.length_cons,Nat.pow_succ];have:(n * 10+(c.toNat - 48)) * 10 ^ s.length=n * (10 ^ s.length * 10)+(c.toNat - 48) * 10 ^ s.length:=by
   rw [Ebo,Eda,Nat.mul_comm 10]
  rw [this];simp;omega
theorem Jvt (c:UInt8) (s:List UInt8):dig (c :: s)=(c.toNat - 48) * 10 ^ s.length+dig s:=by
 have e:dig (c :: s)=digF (0 * 10+(c.toNat - 48)) s:=rfl;rw [e,J1g];simp
theorem Jyf (s t:List UInt8):dig (s ++ t)=dig s * 10 ^ t.length+dig t:=by
 have:dig (s ++ t)=digF (dig s) t:=by simp [dig,digF,List.foldl_append]
 rw [this,J1g]
theorem Jsv {c:UInt8} {s:List UInt8}:Jqr (c :: s)=true ↔ (48<=c.toNat/\c.toNat<=57)/\Jqr s=true:=by
 simp [Jqr,J7r]
theorem Jsm {s t:List UInt8}:Jqr (s ++ t)=true ↔ Jqr s=true/\Jqr t=true:=by
 simp [Jqr,List.all_append]
theorem Jyc:∀ {s:List UInt8},Jqr s=true->dig s<10 ^ s.length
 | [],_=>by simp [dig]
 | c :: s,h=>by
  rw [Jsv] at h;have:=Jyc h.2;rw [Jvt,List.length_cons,Nat.pow_succ];have h9:(c.toNat - 48)<=9:=by omega
  have:=Ebf (10 ^ s.length) h9;omega
theorem dig_ge {c:UInt8} {s:List UInt8} (h:Jqr (c :: s)=true) (hc:c.toNat≠48):10 ^ s.length<=dig (c :: s):=by
 rw [Jsv] at h;rw [Jvt];have:1<=c.toNat - 48:=by omega
 have:=Ebf (10 ^ s.length) this;omega
theorem J8o {s:List UInt8} (h0:0<s.length) (hf:Jqr s=true) (hl:at_ s (s.length - 1)≠48):0<dig s/\dig s % 10≠0:=by
 obtain ⟨l,c,rfl⟩:=J6p h0;rw [Jsm] at hf;have hc:=(Jsv.1 hf.2).1;have e:(l ++ [c]).length - 1=l.length:=by simp
 rw [e,Jyx] at hl;rw [Jyf];have:dig [c]=c.toNat - 48:=by simp [dig]
 rw [this];simp only [List.length_cons,List.length_nil,Ebk,Nat.pow_one];omega
structure RightN (n:Node):Prop where
 kind:n.kind=3
 many:n.many=0
 name:n.name=[]
 figs:Jqr n.s=true
 len:n.s.length<=100
 e1:-1000<=n.e
 e2:n.e<=1000
 top:(n.s.length:Int)+n.e<=1000
 zero:n.s.length=0->n.neg=false/\n.e=0
 head:0<n.s.length->at_ n.s 0≠48
 last:0<n.s.length->at_ n.s (n.s.length - 1)≠48
theorem RightN.small {n:Node} (h:RightN n):n.small:=⟨by have:=h.len;omega,by have:=h.e1;omega,by have:=h.e2;omega⟩
def mag (n:Node):Nat:=dig n.s * 10 ^ (n.e+1000).toNat
def sv (n:Node):Int:=if n.neg=true then -(mag n:Int) else mag n
theorem Jz7 {n:Node} (h:RightN n):mag n<10 ^ (n.s.length+n.e+1000).toNat:=by
 have e:(n.s.length+n.e+1000).toNat=n.s.length+(n.e+1000).toNat:=by have:=h.e1;omega
 rw [e,Edh];exact Nat.mul_lt_mul_of_pos_right (Jyc h.figs) (Edf de)
theorem J2i {n:Node} (h:RightN n) (h0:0<n.s.length):10 ^ (n.s.length+n.e+999).toNat<=mag n:=by
 have e:(n.s.length+n.e+999).toNat=(n.s.length - 1)+(n.e+1000).toNat:=by have:=h.e1;omega
 rw [e,Edh];refine Ebf _ ?_;have hh:=h.head h0;have hf:=h.figs;cases hs:n.s with
 | nil=>rw [hs] at h0;simp at h0
 | cons c s =>
  rw [hs] at hh hf;rw [Jy3] at hh;simpa using dig_ge hf hh
theorem Jtx {n:Node} (h:RightN n) (h0:0<n.s.length):0<mag n:=Ebd (Edf de) (J2i h h0)
theorem Jw7 {n:Node} (h0:n.s.length=0):mag n=0:=by
 have:n.s=[]:=Eal h0;simp [mag,this,dig]
theorem J7j:∀ (M:Nat) (x y:List UInt8),Jqr x=true->Jqr y=true->x.length<=M->y.length<=M->(0<y.length->at_ y (y.length - 1)≠48)->Op.bytesLess x y=true->dig x * 10 ^ (M - x.length)<dig y * 10 ^ (M - y.length)
 | M,x,[],_,_,_,_,_,h=>by cases x <;> simp [Op.bytesLess] at h
 | M,[],d :: y,_,hy,_,_,hl,_=>by
  have:=(J8o sm hy (hl sm)).1;simp only [dig,List.foldl_nil,Ecs];exact Nat.mul_pos this (Edf de)
 | M,c :: x,d :: y,hx,hy,h1,h2,hl,h=>by
  rw [Jsv] at hx hy;simp only [List.length_cons] at h1 h2;obtain ⟨m,rfl⟩:∃ m,M=m+1:=⟨M - 1,by omega⟩
  rw [Jvt,Jvt,List.length_cons,List.length_cons,Nat.add_sub_add_right,Nat.add_sub_add_right,Ebo,Ebo,Eda,Eda,<- Edh,<- Edh,
   show x.length+(m - x.length)=m by omega,show y.length+(m - y.length)=m by omega]
  simp only [Op.bytesLess,Eb4,decide_eq_true_eq,Ebb,beq_iff_eq] at h;have bx:dig x * 10 ^ (m - x.length)<10 ^ m:=by
   have:=Nat.mul_lt_mul_of_pos_right (Jyc hx.2) (Edf (n:=m - x.length) (show 0<10 by decide))
   rwa [<- Edh,show x.length+(m - x.length)=m by omega] at this
  rcases h with h | ⟨h,h'⟩
  ·have hcd:c.toNat<d.toNat:=h;have:(c.toNat - 48+1)<=d.toNat - 48:=by omega
   have:=Ebf (10 ^ m) this;rw [Ebo] at this;omega
  ·subst h;have hl':0<y.length->at_ y (y.length - 1)≠48:=fun hp=>by
    have:=hl sm;cases y with
    | nil=>simp at hp
    | cons a l=>simpa [at_] using this
   have:=J7j m x y hx.2 hy.2 omg omg hl' h';omega
theorem J02:∀ (x y:List UInt8),Op.bytesLess x y=true\/x=y\/Op.bytesLess y x=true
 | [],[]=>.inr (.inl rfl)
 | [],_ :: _=>.inl rfl
 | _ :: _,[]=>.inr (.inr rfl)
 | a :: x,b :: y=>by
  simp only [Op.bytesLess,Eb4,decide_eq_true_eq,Ebb,beq_iff_eq,Ecu];rcases Nat.lt_trichotomy a.toNat b.toNat with h | h | h
  ·exact .inl (.inl h)
  ·have:a=b:=UInt8.toNat_inj.1 h;subst this;rcases J02 x y with h | h | h
   ·exact .inl (.inr ⟨rfl,h⟩)
   ·exact .inr (.inl ⟨rfl,h⟩)
   ·exact .inr (.inr (.inr ⟨rfl,h⟩))
  ·exact .inr (.inr (.inl h))
theorem Jtt:∀ (x:List UInt8),Op.bytesLess x x=false
 | []=>rfl
 | a :: x=>by simp [Op.bytesLess,Jtt x]
theorem Kdk (a:Int):cmpI a a=0:=by simp [cmpI]
theorem Jug {a b:Int} (h:a<b):cmpI a b = -1:=by simp [cmpI,h]
theorem Juh {a b:Int} (h:b<a):cmpI a b=1:=by simp [cmpI,h];omega
theorem J17 {a b:Node} (ha:RightN a) (hb:RightN b):Jxi a b=cmpI (mag a) (mag b):=by
 unfold Jxi;by_cases a0:a.s.length=0
 ·rw [if_pos a0,Jw7 a0];by_cases b0:b.s.length=0
  ·rw [Jw7 b0,a0,b0]
  ·have:=Jtx hb omg;rw [Jug omg,Jug omg]
 ·rw [if_neg a0];have pa:=Jtx ha omg;by_cases b0:b.s.length=0
  ·rw [if_pos b0,Jw7 b0,Juh omg,Juh omg]
  ·rw [if_neg b0];have la:=Jz7 ha;have lb:=Jz7 hb;have ga:=J2i ha omg;have gb:=J2i hb omg;have ea:=ha.e1;have eb:=hb.e1;rcases Int.lt_trichotomy (a.s.length+a.e) (b.s.length+b.e) with h | h | h
   ·rw [Jug h,if_pos de];have:10 ^ (a.s.length+a.e+1000).toNat<=10 ^ (b.s.length+b.e+999).toNat:=Eco de omg;rw [Jug omg]
   ·rw [h,Kdk,if_neg de];let M:=max a.s.length b.s.length;let E:=min a.e b.e;have key:∀ {x y:Node},RightN x->RightN y->x.s.length+x.e=y.s.length+y.e->0<y.s.length->Op.bytesLess x.s y.s=true->mag x<mag y:=by
     intro x y hx hy hxy h0 hl;have:=J7j (max x.s.length y.s.length) x.s y.s hx.figs hy.figs omg omg hy.last hl;unfold mag;have e1:=hx.e1;have e2:=hy.e1;have q1:(x.e+1000).toNat=(max x.s.length y.s.length - x.s.length)+(min x.e y.e+1000).toNat:=by omega
     have q2:(y.e+1000).toNat=(max x.s.length y.s.length - y.s.length)+(min x.e y.e+1000).toNat:=by omega
     rw [q1,q2,Edh,Edh,<- Eda,<- Eda];exact Nat.mul_lt_mul_of_pos_right this (Edf de)
    unfold cmpS;rcases J02 a.s b.s with g | g | g
    ·rw [if_pos g,Jug (by have:=key ha hb h omg g;omega)]
    ·have e:a.e=b.e:=by rw [g] at h;omega
     rw [g,Jtt];simp [mag,g,e,cmpI]
    ·have n1:Op.bytesLess a.s b.s=false:=by
      cases hh:Op.bytesLess a.s b.s with
      | false=>rfl
      | true =>
       have:=key ha hb h omg hh;have:=key hb ha h.symm omg g;omega
     have n2:(a.s == b.s)=false:=by
      rw [beq_eq_false_iff_ne];intro hh;rw [hh,Jtt] at g;cases g
     rw [n1,n2,Juh (by have:=key hb ha h.symm omg g;omega)];simp
   ·rw [Juh h,if_pos de];have:10 ^ (b.s.length+b.e+1000).toNat<=10 ^ (a.s.length+a.e+999).toNat:=Eco de omg;rw [Juh omg]
theorem RightN.neg_len {n:Node} (h:RightN n) (hn:n.neg=true):0<n.s.length:=by
 by_cases h0:n.s.length=0
 ·rw [(h.zero h0).1] at hn;cases hn
 ·omega
theorem J48 {a b:Node} (ha:RightN a) (hb:RightN b):Jwe a b=cmpI (sv a) (sv b):=by
 unfold Jwe sv;cases na:a.neg <;> cases nb:b.neg <;> simp only [Ebv,false_and,and_false,and_self,and_true,↓reduceIte,Bool.true_eq_false]
 ·exact J17 ha hb
 ·have:=Jtx hb (hb.neg_len nb);rw [Juh omg]
 ·have:=Jtx ha (ha.neg_len na);rw [Jug omg]
 ·rw [J17 hb ha];unfold cmpI;split <;> split <;> (first|rfl | omega | skip)
  all_goals (split <;> first | rfl | omega | skip)
  all_goals (split <;> first | rfl | omega)
def cmp3 (side:Int) (x y:Nat):Int:=if x<y then -side else if y<x then side else 0
theorem Kbo:∀ (s t:List UInt8),Jqr s=true->Jqr t=true->s.length=t.length->dig s=dig t->s=t
 | [],[],_,_,_,_=>rfl
 | [],_ :: _,_,_,h,_=>by simp at h
 | _ :: _,[],_,_,h,_=>by simp at h
 | c :: s,d :: t,hs,ht,hl,h=>by
  rw [Jsv] at hs ht;have hl':s.length=t.length:=by simpa using hl
  rw [Jvt,Jvt,hl'] at h;have b1:=Jyc hs.2;have b2:=Jyc ht.2;rw [hl'] at b1;have hc:c.toNat - 48=d.toNat - 48:=by
   have e1:((c.toNat - 48) * 10 ^ t.length+dig s) / 10 ^ t.length=((d.toNat - 48) * 10 ^ t.length+dig t) / 10 ^ t.length:=by rw [h]
   rwa [Ecr,Nat.add_mul_div_right _ _ (Edf de),Nat.div_eq_of_lt b1,Ecr _ (dig t),Nat.add_mul_div_right _ _ (Edf de),Nat.div_eq_of_lt b2,Ebk,Ebk] at e1
  rw [hc] at h;have:c=d:=UInt8.toNat_inj.1 omg;rw [this,Kbo s t hs.2 ht.2 hl' omg]
theorem Khh {a b:Node} (ha:RightN a) (hb:RightN b) (h:mag a=mag b):a.s=b.s/\a.e=b.e:=by
 by_cases a0:a.s.length=0
 ·by_cases b0:b.s.length=0
  ·exact ⟨by rw [Eal a0,Eal b0],by rw [(ha.zero a0).2,(hb.zero b0).2]⟩
  ·have:=Jtx hb omg;rw [Jw7 a0] at h;omega
 ·by_cases b0:b.s.length=0
  ·have:=Jtx ha omg;rw [Jw7 b0] at h;omega
  ·have e1:=ha.e1;have e2:=hb.e1;have he:a.e=b.e:=by
    have key:∀ {x y:Node},RightN x->RightN y->0<x.s.length->mag x=mag y->¬ x.e<y.e:=by
     intro x y hx hy x0 hxy hlt;have f1:=hx.e1;have:=(J8o x0 hx.figs (hx.last x0)).2;unfold mag at hxy;have e:(y.e+1000).toNat=((y.e+1000).toNat - (x.e+1000).toNat - 1)+1+(x.e+1000).toNat:=by omega
     rw [e,Edh,<- Eda] at hxy;have q:=Nat.eq_of_mul_eq_mul_right (Edf de) hxy;rw [q,Nat.pow_succ,<- Eda,Nat.mul_mod_left] at this;omega
    have:=key ha hb omg h;have:=key hb ha omg h.symm;omega
   have hl:a.s.length=b.s.length:=by
    have l1:=Jz7 ha;have l2:=Jz7 hb;have g1:=J2i ha omg;have g2:=J2i hb omg;rcases Nat.lt_trichotomy a.s.length b.s.length with hh | hh | hh
    ·have:10 ^ (a.s.length+a.e+1000).toNat<=10 ^ (b.s.length+b.e+999).toNat:=Eco de omg;omega
    ·exact hh
    ·have:10 ^ (b.s.length+b.e+1000).toNat<=10 ^ (a.s.length+a.e+999).toNat:=Eco de omg;omega
   refine ⟨Kbo _ _ ha.figs hb.figs hl ?_,he⟩;unfold mag at h;rw [he] at h;exact Nat.eq_of_mul_eq_mul_right (Edf de) h
theorem sv_inj {a b:Node} (ha:RightN a) (hb:RightN b) (h:sv a=sv b):a=b:=by
 have hm:mag a=mag b/\a.neg=b.neg:=by
  unfold sv at h;cases na:a.neg <;> cases nb:b.neg <;> simp only [na,nb,Ebv,↓reduceIte] at h
  ·exact ⟨by omega,rfl⟩
  ·have:=Jtx hb (hb.neg_len nb);omega
  ·have:=Jtx ha (ha.neg_len na);omega
  ·exact ⟨by omega,rfl⟩
 obtain ⟨h1,h2⟩:=Khh ha hb hm.1;obtain ⟨k1,m1,n1,s1,g1,e1⟩:=a;obtain ⟨k2,m2,n2,s2,g2,e2⟩:=b;simp only at h1 h2 hm;have:=ha.kind;have:=hb.kind;have:=ha.many;have:=hb.many;have:=ha.name;have:=hb.name;simp_all
def Node.flip (n:Node):Node:={ n with neg:=!n.neg && (n.s != []) }
theorem RightN.flip {n:Node} (h:RightN n):RightN n.flip:=by
 obtain ⟨g1,g2,g3,g4,g5,g6,g7,g8,g9,g10,g11⟩:=h;refine ⟨g1,g2,g3,g4,g5,g6,g7,g8,fun h0=>⟨?_,(g9 h0).2⟩,g10,g11⟩;have:n.s=[]:=Eal h0;simp [Node.flip,this]
theorem Kcs (a b:Int):cmpI b a = -cmpI a b:=by unfold cmpI;split <;> split <;> (try split) <;> omega
theorem Kco (a b:Int):cmpI a b=0 ↔ a=b:=by unfold cmpI;split <;> (try split) <;> omega
theorem Kcm (a b:Int):cmpI a b<0 ↔ a<b:=by unfold cmpI;split <;> (try split) <;> omega
end Go.LX
set_option maxRecDepth 100000
set_option maxHeartbeats 2000000
namespace Go.LX
open Go Go.RowKit Go.Proofs
attribute [local irreducible] Al SWP Bi
def lexI {α β:Type} (c:α->β->Int):List α->List β->Int
 | [],[]=>0
 | [],_ :: _=>-1
 | _ :: _,[]=>1
 | x :: l,y :: m=>if c x y=0 then lexI c l m else c x y
theorem J5z {α β:Type} {c:α->β->Int} {l:List α} {m:List β} {i:Nat} {x:α} {y:β} (hx:l[i]? = some x) (hy:m[i]? = some y) :
  lexI c (l.drop i) (m.drop i)=if c x y=0 then lexI c (l.drop (i+1)) (m.drop (i+1)) else c x y:=by
 obtain ⟨h1,rfl⟩:=Eab.1 hx;obtain ⟨h2,rfl⟩:=Eab.1 hy;rw [Eax h1,Eax h2,lexI]
theorem Jzi {α β:Type} {c:α->β->Int} {l:List α} {m:List β} {i:Nat} (h:l.length<=i) (hm:i<m.length):lexI c (l.drop i) (m.drop i) = -1:=by
 rw [Ear h,Eax hm,lexI]
theorem Jys {α β:Type} {c:α->β->Int} {l:List α} {m:List β} {i:Nat} (h:l.length<=i) (hm:m.length<=i):lexI c (l.drop i) (m.drop i)=0:=by
 rw [Ear h,Ear hm,lexI]
theorem Jyt {α β:Type} {c:α->β->Int} {l:List α} {m:List β} {i:Nat} (h:i<l.length) (hm:m.length<=i):lexI c (l.drop i) (m.drop i)=1:=by
 rw [Eax h,Ear hm,lexI]
theorem Jtu (a:List UInt8):cmpS a a=0:=by simp [cmpS,E0]
theorem J4t {a b:List UInt8} (h:cmpS a b=0):a=b:=by
 unfold cmpS at h;split at h
 ·omega
 ·split at h
  ·omega
  ·rename_i h1 h2;simp at h1 h2;exact h2 h1
theorem Kax {a b:List UInt8} (h:¬ a=b):cmpS a b=if Op.bytesLess a b=true then -1 else 1:=by
 unfold cmpS;split
 ·rfl
 ·rename_i h1;simp at h1;simp [h1,h]
def ndN (s:List UInt8) (g:Bool) (e:Int):Node:=⟨3,0,[],s,g,e⟩
mutual
def cmpT:Tree->Tree->Int
 | .mk k s g e kids,.mk k' s' g' e' kids' =>
  if k=k' then (if k=3 then Jwe (ndN s g e) (ndN s' g' e') else if k=4 then cmpS s s' else
   if k=6 then (if lexI cmpS (kids.list.map (·.1)) (kids'.list.map (·.1))=0 then cmpF kids kids'.list else lexI cmpS (kids.list.map (·.1)) (kids'.list.map (·.1))) else
   if k=5 then cmpF kids kids'.list else 0) else cmpI k k'
def cmpF:Forest->List KT->Int
 | .nil,[]=>0
 | .nil,_ :: _=>-1
 | .cons _ _ _,[]=>1
 | .cons _ t r,q :: l=>if cmpT t q.2=0 then cmpF r l else cmpT t q.2
end
theorem Jsa {k:Int} {s:List UInt8} {g:Bool} {e:Int} {kids:Forest} {k':Int} {s':List UInt8} {g':Bool} {e':Int} {kids':Forest}:cmpT (.mk k s g e kids) (.mk k' s' g' e' kids') =
  if k=k' then (if k=3 then Jwe (ndN s g e) (ndN s' g' e') else if k=4 then cmpS s s' else
   if k=6 then (if lexI cmpS (kids.list.map (·.1)) (kids'.list.map (·.1))=0 then cmpF kids kids'.list else lexI cmpS (kids.list.map (·.1)) (kids'.list.map (·.1))) else
   if k=5 then cmpF kids kids'.list else 0) else cmpI k k':=by rw [cmpT]
theorem Juu:∀ (f:Forest) (l:List KT),cmpF f l=lexI (fun p q:KT=>cmpT p.2 q.2) f.list l
 | .nil,[]=>by rw [cmpF];rfl
 | .nil,_ :: _=>by rw [cmpF];rfl
 | .cons _ _ _,[]=>by rw [cmpF];rfl
 | .cons _ t r,q :: l=>by rw [cmpF,Juu r l];rfl
theorem Jtg {l:List KT} {i:Nat} {p:KT} (h:l[i]? = some p):(Bd l)[i]? = some [.str p.1]:=by simp [Bd,h]
theorem Jzn {l:List KT} {i:Nat} {p:KT} (h:l[i]? = some p):(l.map (·.1))[i]? = some p.1:=by simp [h]
theorem J2w (l m:List KT) (hl:l.length<=1500000000000) (hlm:m.length<=1500000000000):Det cx 118 [.p (.sl (Bd l)),.p (.sl (Bd m))] [] (.p (.int .i64 (lexI cmpS (l.map (·.1)) (m.map (·.1))))) []:=by
 have e1:(l.map (·.1)).length=l.length:=Ea9 ..
 have e2:(m.map (·.1)).length=m.length:=Ea9 ..
 (refine bgo Tryz.func118 ?_;simp only [go_sem,simprocAttr,A9]);refine SWP.loop (fun i:Nat=>⟨Ba 36 [(0,.p (.sl (Bd l))),(1,.p (.sl (Bd m))),(9,.p (.sl (Bd l))),(10,.p (.int .i64 l.length)),(11,.p (.int .i64 i))],[]⟩) (fun i=>i<=l.length/\lexI cmpS (l.map (·.1)) (m.map (·.1))=lexI cmpS ((l.map (·.1)).drop i) ((m.map (·.1)).drop i)) (fun i=>l.length - i) 0 Jqc ⟨Eav _,rfl⟩ ?_;rintro i ⟨h1,h3⟩;by_cases hi:i<l.length
 ·have c1:((i:Int)<(l.length:Int))=True:=eq_true omg;obtain ⟨x,hx⟩:∃ x,l[i]? = some x:=⟨_,Eaa hi⟩
  have hgx:=Jtg hx;by_cases hj:i<m.length
  ·have c2:((m.length:Int)<=(i:Int))=False:=eq_false omg;obtain ⟨y,hy⟩:∃ y,m[i]? = some y:=⟨_,Eaa hj⟩
   have hgy:=Jtg hy;have w1:=wj1 (i:=i) omg;have hk:=J5z (c:=cmpS) (Jzn hx) (Jzn hy);(refine lws ?_;simp only [go_sem,simprocAttr,A9,c1,c2,hgx,hgy]);(repeat' (first|(apply iteI<;>intro h)|((refine Jqa (J9j _ _) ?_);simp only [go_sem,simprocAttr,w1])|fail))
   ·rw [h3,hk,if_neg h]
   ·exact ⟨i+1,⟨by omega,by rw [h3,hk,if_pos (Ea1.1 h)]⟩,by omega,Jqc⟩
  ·have c2:((m.length:Int)<=(i:Int))=True:=eq_true omg;(refine lws ?_;simp only [go_sem,simprocAttr,A9,c1,c2,hgx]);rw [h3,Jyt omg omg]
 ·have c1:((i:Int)<(l.length:Int))=False:=eq_false omg;(refine lws ?_;simp only [go_sem,simprocAttr,A9,c1]);(repeat' (apply iteI <;> intro h))
  ·rw [h3,Jzi omg omg]
  ·rw [h3,Jys omg omg]
theorem J1e {l:List KT} {i:Nat} {p:KT} (h:l[i]? = some p):(A4 l)[i]? = some [.sl (valL (p.2.enc []))]:=by simp [A4,h]
theorem Jsl (a:Int):cmpI a a=0:=by simp [cmpI]
abbrev cmp2 (p q:KT):Int:=cmpT p.2 q.2
theorem J31 (l m:List KT) (hl:l.length<=1500000000000) (hlm:m.length<=1500000000000) (hc:∀ p∈l,∀ q∈m,Det cx 62 [.p (.sl (valL (p.2.enc []))),.p (.sl (valL (q.2.enc [])))] [] (.p (.int .i64 (cmp2 p q))) []) :
  Det cx 119 [.p (.sl (A4 l)),.p (.sl (A4 m)),.fn 62 []] [] (.p (.int .i64 (lexI cmp2 l m))) []:=by
 (refine bgo Tryz.func119 ?_;simp only [go_sem,simprocAttr,A5]);refine SWP.loop (fun i:Nat=>⟨Ba 39 [(0,.p (.sl (A4 l))),(1,.p (.sl (A4 m))),(2,.fn 62 []),(11,.p (.sl (A4 l))),(12,.p (.int .i64 l.length)),(13,.p (.int .i64 i))],[]⟩) (fun i=>i<=l.length/\lexI cmp2 l m=lexI cmp2 (l.drop i) (m.drop i)) (fun i=>l.length - i) 0 Jqc ⟨Eav _,rfl⟩ ?_;rintro i ⟨h1,h3⟩;by_cases hi:i<l.length
 ·have c1:((i:Int)<(l.length:Int))=True:=eq_true omg;obtain ⟨x,hx⟩:∃ x,l[i]? = some x:=⟨_,Eaa hi⟩
  have hgx:=J1e hx;by_cases hj:i<m.length
  ·have c2:((m.length:Int)<=(i:Int))=False:=eq_false omg;obtain ⟨y,hy⟩:∃ y,m[i]? = some y:=⟨_,Eaa hj⟩
   have hgy:=J1e hy;have w1:=wj1 (i:=i) omg;have hk:=J5z (c:=cmp2) hx hy;have hxy:=hc x (Eae hx) y (Eae hy);(refine lws ?_;simp only [go_sem,simprocAttr,A5,c1,c2,hgx,hgy]);(repeat' (first|(apply iteI<;>intro h)|((refine Jqa hxy ?_);simp only [go_sem,simprocAttr,w1])|fail))
   ·rw [h3,hk,if_neg h]
   ·exact ⟨i+1,⟨by omega,by rw [h3,hk,if_pos (Ea1.1 h)]⟩,by omega,Jqc⟩
  ·have c2:((m.length:Int)<=(i:Int))=True:=eq_true omg;(refine lws ?_;simp only [go_sem,simprocAttr,A5,c1,c2,hgx]);rw [h3,Jyt omg omg]
 ·have c1:((i:Int)<(l.length:Int))=False:=eq_false omg;(refine lws ?_;simp only [go_sem,simprocAttr,A5,c1]);(repeat' (apply iteI <;> intro h))
  ·rw [h3,Jzi omg omg]
  ·rw [h3,Jys omg omg]
theorem Jzm {k m:Int} {nm s:List UInt8} {g:Bool} {e:Int} (h:Yz s g e):Node.small ⟨k,m,nm,s,g,e⟩:=by
 obtain ⟨_,h1,h2,h3,_⟩:=h;exact ⟨by show s.length<=_;omega,by show _<=e;omega,by show e<=_;omega⟩
theorem Jtc {s:List UInt8} {g:Bool} {e:Int} (h:Yz s g e):RightN (ndN s g e):=by
 obtain ⟨h0,h1,h2,h3,h4,h5⟩:=h;refine ⟨rfl,rfl,rfl,h0,h1,h2,h3,h4,fun hz=>?_,fun hp=>?_,fun hp=>?_⟩
 ·have:s=[]:=Eal hz;rw [if_pos this] at h5;exact h5
 ·have:s≠[]:=by intro e;subst e;exact (Nat.lt_irrefl 0 hp).elim
  rw [if_neg this] at h5;exact h5.1
 ·have:s≠[]:=by intro e;subst e;exact (Nat.lt_irrefl 0 hp).elim
  rw [if_neg this] at h5;exact h5.2
theorem Jvc {k m:Int} {s:List UInt8} {g:Bool} {e:Int} (h:G3 k s g e m) (hk:k=3):Yz s g e:=by
 subst hk;unfold G3 at h;simp at h;exact h.2
theorem nc_num (m m':Int) (nm nm' s s':List UInt8) (g g':Bool) (e e':Int) (h:Yz s g e) (h':Yz s' g' e'):Det cx 116 [.p (.agg [.int .i64 3,.int .i64 m,.str nm,.str s,.bool g,.int .i64 e]),.p (.agg [.int .i64 3,.int .i64 m',.str nm',.str s',.bool g',.int .i64 e'])] [] (.p (.int .i64 (Jwe (ndN s g e) (ndN s' g' e')))) []:=by
 have:=Kdu ⟨3,m,nm,s,g,e⟩ ⟨3,m',nm',s',g',e'⟩ (Jzm h) (Jzm h');exact this
theorem J6x {a b:Int} (h:¬ a=b):¬ cmpI a b=0:=by
 unfold cmpI;split
 ·decide
 ·split
  ·decide
  ·omega
theorem Jvb {k:Int} {s:List UInt8} {g:Bool} {e:Int} {kids:Forest} (h:okT (.mk k s g e kids)) {p:KT} (hp:p∈kids.list):okT p.2:=Jdo.1 (Lu.1 h).2.2 p hp
theorem Ke2 (n:Nat) (t u:Tree) (hn:(t.enc []).length<=n) (ht:okT t) (hu:okT u) (hs:(t.enc []).length<=1500000000000) (hs':(u.enc []).length<=1500000000000):Det cx 62 [.p (.sl (valL (t.enc []))),.p (.sl (valL (u.enc [])))] [] (.p (.int .i64 (cmpT t u))) []:=by
 induction n generalizing t u with
 | zero=>have:=Et t [];omega
 | succ n ih =>
 cases t with
 | mk k s g e kids =>
 cases u with
 | mk k' s' g' e' kids' =>
 have hok:=Lu.1 ht;have hok':=Lu.1 hu;rw [A6,List.length_cons] at hn hs hs';have hg:=Cc [] k s g e kids;have hg':=Cc [] k' s' g' e' kids';have hll:=Jqi kids;have hll':=Jqi kids';have hkl:=Jqh kids;have hkl':=Jqh kids';have hc:∀ p∈kids.list,∀ q∈kids'.list,Det cx 62 [.p (.sl (valL (p.2.enc []))),.p (.sl (valL (q.2.enc [])))] [] (.p (.int .i64 (cmp2 p q))) []:=fun p hp q hq=>ih p.2 q.2 (by have:=Jd7 hp;omega) (Jvb ht hp) (Jvb hu hq) (by have:=Jd7 hp;omega) (by have:=Jd7 hq;omega)
 have hCF:=J31 kids.list kids'.list omg omg hc;by_cases hkk:k=k'
 ·subst hkk;by_cases h3:k=3
  ·subst h3;(refine bgo Tryz.func62 ?_;simp only [go_sem,simprocAttr]);(repeat' (first|(apply iteI<;>intro h)|((first|refine Jqm ?_|(refine Jqb (Jx2 _ _) ?_)|(refine Jqb (nc_num _ _ _ _ _ _ _ _ _ _ (Jvc hok.1 rfl) (Jvc hok'.1 rfl)) ?_));simp only [go_sem,simprocAttr,hg,hg'])|fail))
   all_goals first
    | exact absurd (Jsl _) (by assumption)
    | (rw [Jsa,if_pos rfl,if_pos rfl];done)
  ·by_cases h4:k=4
   ·subst h4;(refine bgo Tryz.func62 ?_;simp only [go_sem,simprocAttr]);(repeat' (first|(apply iteI<;>intro h)|((first|refine Jqm ?_|(refine Jqb (Jx2 _ _) ?_)|(refine Jqb (J9j _ _) ?_));simp only [go_sem,simprocAttr,hg,hg'])|fail))
    all_goals first
     | exact absurd (Jsl _) (by assumption)
     | (rw [Jsa,if_pos rfl,if_neg de,if_pos rfl];done)
   ·by_cases h6:k=6
    ·subst h6;(refine bgo Tryz.func62 ?_;simp only [go_sem,simprocAttr]);(repeat' (first|(apply iteI<;>intro h)|((first|refine Jqm ?_|(refine Jqb (Jx2 _ _) ?_)|(refine Jqa (J56 [] s g e kids omg) ?_)|(refine Jqa (J56 [] s' g' e' kids' omg) ?_)|(refine Jqa (J2w _ _ omg omg) ?_)|(refine Jqa (Px [] 6 s g e kids omg) ?_)|(refine Jqa (Px [] 6 s' g' e' kids' omg) ?_)|refine Jqa hCF ?_);simp only [go_sem,simprocAttr,hg,hg'])|fail))
     all_goals first
      | exact absurd (Jsl _) (by assumption)
      | (rw [Jsa,if_pos rfl,if_neg de,if_neg de,if_pos rfl,if_neg (by assumption)];done)
      | (rw [Jsa,if_pos rfl,if_neg de,if_neg de,if_pos rfl,if_pos (Ea1.1 (by assumption)),Juu];done)
    ·by_cases h5:k=5
     ·subst h5;(refine bgo Tryz.func62 ?_;simp only [go_sem,simprocAttr]);(repeat' (first|(apply iteI<;>intro h)|((first|refine Jqm ?_|(refine Jqb (Jx2 _ _) ?_)|(refine Jqa (Px [] 5 s g e kids omg) ?_)|(refine Jqa (Px [] 5 s' g' e' kids' omg) ?_)|refine Jqa hCF ?_);simp only [go_sem,simprocAttr,hg,hg'])|fail))
      all_goals first
       | exact absurd (Jsl _) (by assumption)
       | (rw [Jsa,if_pos rfl,if_neg de,if_neg de,if_neg de,if_pos rfl,Juu];done)
     ·(refine bgo Tryz.func62 ?_;simp only [go_sem,simprocAttr]);(repeat' (first|(apply iteI<;>intro h)|((first|refine Jqm ?_|(refine Jqb (Jx2 _ _) ?_));simp only [go_sem,simprocAttr,hg,hg'])|(exfalso;omega)))
      all_goals first
       | exact absurd (Jsl _) (by assumption)
       | (rw [Jsa,if_pos rfl,if_neg h3,if_neg h4,if_neg h6,if_neg h5];done)
 ·(refine bgo Tryz.func62 ?_;simp only [go_sem,simprocAttr]);(repeat' (first|(apply iteI<;>intro h)|((first|refine Jqm ?_|(refine Jqb (Jx2 _ _) ?_));simp only [go_sem,simprocAttr,hg,hg'])|fail))
  all_goals first
   | (rw [Jsa,if_neg hkk];done)
   | exact absurd (Ea1.1 (by assumption)) (J6x hkk)
   | exact absurd (by assumption) (J6x hkk)
theorem Jxe {a b:List UInt8}:cmpS a b=if a=b then 0 else if Op.bytesLess a b=true then -1 else 1:=by
 by_cases h:a=b
 ·subst h;rw [if_pos rfl,Jtu]
 ·rw [if_neg h,Kax h]
def Jqd (l:List Tree):List (List PV):=l.map fun t=>[.sl (valL (t.enc []))]
@[simp] theorem Jqf (l:List Tree):(Jqd l).length=l.length:=by simp [Jqd]
theorem Jq5 {l:List Tree} {i:Nat} {t:Tree} (h:l[i]? = some t):(Jqd l)[i]? = some [.sl (valL (t.enc []))]:=by simp [Jqd,h]
def Kfp:List Tree->Bool
 | a :: b :: l=>decide (0<=cmpT b a) && Kfp (b :: l)
 | _=>true
structure Ord3 {α:Type} (P:α->Prop) (c:α->α->Int):Prop where
 self:∀ a,P a->c a a=0
 swap:∀ a b,P a->P b->c b a = -c a b
 zero:∀ a b,P a->P b->c a b=0->a=b
 trans:∀ a b d,P a->P b->P d->c a b<0->c b d<0->c a d<0
theorem Ka5:Ord3 (fun _:Int=>True) cmpI where
 self a _:=by simp [cmpI]
 swap a b _ _:=Kcs a b
 zero a b _ _ h:=(Kco a b).1 h
 trans a b d _ _ _ h1 h2:=by rw [Kcm] at *;omega
theorem Kct {a b:List UInt8}:cmpS a b<0 ↔ Op.bytesLess a b=true:=by
 rw [Jxe];by_cases e:a=b
 ·subst e;simp [E0]
 ·rw [if_neg e];by_cases h:Op.bytesLess a b=true
  ·simp [h]
  ·simp [h]
theorem Kay:Ord3 (fun _:List UInt8=>True) cmpS where
 self a _:=Jtu a
 swap a b _ _:=by
  rw [Jxe,Jxe (a:=a)];by_cases e:a=b
  ·subst e;simp
  ·by_cases h:Op.bytesLess a b=true
   ·simp [e,Ne.symm e,h,L3 h]
   ·simp [e,Ne.symm e,h,Qf (by simpa using h) e]
 zero a b _ _ h:=J4t h
 trans a b d _ _ _ h1 h2:=by rw [Kct] at *;exact H8 h1 h2
theorem Kbc {α:Type} {P:α->Prop} {c:α->α->Int} (o:Ord3 P c):Ord3 (fun l:List α=>∀ x∈l,P x) (lexI c) where
 self:=by
  intro l hl
  induction l with
  | nil=>rfl
  | cons x l ih=>rw [lexI,if_pos (o.self x (hl x Eaf))];exact ih fun y hy=>hl y (Eag _ hy)
 swap:=by
  intro l
  induction l with
  | nil=>intro m _ _;cases m <;> simp [lexI]
  | cons x l ih =>
   intro m hl hm';cases m with
   | nil=>simp [lexI]
   | cons y m =>
    have hs:=o.swap x y (hl x Eaf) (hm' y Eaf);rw [lexI,lexI];by_cases h:c x y=0
    ·rw [if_pos h,if_pos omg];exact ih m (fun z hz=>hl z (Eag _ hz)) (fun z hz=>hm' z (Eag _ hz))
    ·rw [if_neg h,if_neg omg];exact hs
 zero:=by
  intro l
  induction l with
  | nil =>
   intro m _ _ h;cases m with
   | nil=>rfl
   | cons y m=>simp [lexI] at h
  | cons x l ih =>
   intro m hl hm' h;cases m with
   | nil=>simp [lexI] at h
   | cons y m =>
    rw [lexI] at h;by_cases h0:c x y=0
    ·rw [if_pos h0] at h;rw [o.zero x y (hl x Eaf) (hm' y Eaf) h0,ih m (fun z hz=>hl z (Eag _ hz)) (fun z hz=>hm' z (Eag _ hz)) h]
    ·rw [if_neg h0] at h;exact absurd h h0
 trans:=by
  intro l
  induction l with
  | nil =>
   intro m n _ _ _ h1 h2;cases n with
   | nil =>
    cases m with
    | nil=>simp [lexI] at h1
    | cons y m=>simp [lexI] at h2
   | cons z n=>simp [lexI]
  | cons x l ih =>
   intro m n hl hm' hn h1 h2;cases m with
   | nil=>simp [lexI] at h1
   | cons y m =>
    cases n with
    | nil=>simp [lexI] at h2
    | cons z n =>
     rw [lexI] at h1 h2 ⊢;have hx:=hl x Eaf;have hy:=hm' y Eaf;have hz:=hn z Eaf;by_cases a:c x y=0
     ·have e:=o.zero x y hx hy a;subst e;rw [if_pos a] at h1;by_cases b:c x z=0
      ·rw [if_pos b] at h2 ⊢;exact ih m n (fun w hw=>hl w (Eag _ hw)) (fun w hw=>hm' w (Eag _ hw)) (fun w hw=>hn w (Eag _ hw)) h1 h2
      ·rw [if_neg b] at h2 ⊢;exact h2
     ·rw [if_neg a] at h1;by_cases b:c y z=0
      ·have e:=o.zero y z hy hz b;subst e;rw [if_neg a];exact h1
      ·rw [if_neg b] at h2;have:=o.trans x y z hx hy hz h1 h2;rw [if_neg omg];exact this
def lexP {α β:Type} (c:α->α->Int) (d:β->β->Int) (x y:α×β):Int:=if c x.1 y.1=0 then d x.2 y.2 else c x.1 y.1
theorem Jzb {α β:Type} {P:α->Prop} {Q:β->Prop} {c:α->α->Int} {d:β->β->Int} (o:Ord3 P c) (q:Ord3 Q d):Ord3 (fun x:α×β=>P x.1/\Q x.2) (lexP c d) where
 self x h:=by rw [lexP,if_pos (o.self _ h.1)];exact q.self _ h.2
 swap x y hx hy:=by
  have hs:=o.swap _ _ hx.1 hy.1;unfold lexP;by_cases h:c x.1 y.1=0
  ·rw [if_pos h,if_pos omg];exact q.swap _ _ hx.2 hy.2
  ·rw [if_neg h,if_neg omg];exact hs
 zero x y hx hy h:=by
  unfold lexP at h;by_cases h0:c x.1 y.1=0
  ·rw [if_pos h0] at h;exact Prod.ext (o.zero _ _ hx.1 hy.1 h0) (q.zero _ _ hx.2 hy.2 h)
  ·rw [if_neg h0] at h;exact absurd h h0
 trans x y z hx hy hz h1 h2:=by
  unfold lexP at *
  by_cases a:c x.1 y.1=0
  ·have e:=o.zero _ _ hx.1 hy.1 a;rw [if_pos a] at h1;rw [e];by_cases b:c y.1 z.1=0
   ·rw [if_pos b] at h2 ⊢;exact q.trans _ _ _ hx.2 hy.2 hz.2 h1 h2
   ·rw [if_neg b] at h2 ⊢;exact h2
  ·rw [if_neg a] at h1;by_cases b:c y.1 z.1=0
   ·have e:=o.zero _ _ hy.1 hz.1 b;rw [<- e,if_neg a];exact h1
   ·rw [if_neg b] at h2;have:=o.trans _ _ _ hx.1 hy.1 hz.1 h1 h2;rw [if_neg omg];exact this
theorem Kem {α β:Type} {P:α->Prop} {R:β->Prop} {c:α->α->Int} {d:β->β->Int} (f:β->α) (o:Ord3 P c) (hP:∀ x,R x->P (f x)) (hc:∀ x y,R x->R y->d x y=c (f x) (f y)) (hf:∀ x y,R x->R y->f x=f y->x=y):Ord3 R d where
 self x h:=by rw [hc x x h h];exact o.self _ (hP x h)
 swap x y h h':=by rw [hc y x h' h,hc x y h h'];exact o.swap _ _ (hP x h) (hP y h')
 zero x y h h' e:=hf x y h h' (o.zero _ _ (hP x h) (hP y h') (by rw [<- hc x y h h'];exact e))
 trans x y z h h' h'' e e':=by
  rw [hc x y h h'] at e;rw [hc y z h' h''] at e';rw [hc x z h h''];exact o.trans _ _ _ (hP x h) (hP y h') (hP z h'') e e'
theorem J1t {α β:Type} (c:β->β->Int) (g:α->β):∀ l m:List α,lexI (fun p q=>c (g p) (g q)) l m=lexI c (l.map g) (m.map g)
 | [],[]=>rfl
 | [],_ :: _=>rfl
 | _ :: _,[]=>rfl
 | x :: l,y :: m=>by
  rw [lexI,J1t c g l m];rfl
theorem Jyd:∀ {f g:Forest},f.list.map (·.1)=g.list.map (·.1)->f.list.map (·.2)=g.list.map (·.2)->f=g
 | .nil,.nil,_,_=>rfl
 | .nil,.cons _ _ _,h,_=>by simp [Forest.list] at h
 | .cons _ _ _,.nil,h,_=>by simp [Forest.list] at h
 | .cons a t r,.cons b u q,h1,h2=>by
  simp only [Forest.list,Eat,Ecu] at h1 h2;obtain ⟨rfl,h1⟩:=h1;obtain ⟨rfl,h2⟩:=h2;rw [Jyd h1 h2]
theorem Jv4 {f:Forest} (h:(f.len:Int)=0):f=.nil:=by
 cases f with
 | nil=>rfl
 | cons a t r=>rw [Forest.len] at h;omega
def embT:Tree->Int×Int×List UInt8×List (List UInt8)×List Tree
 | .mk k s g e kids=>(k,(if k=3 then sv (ndN s g e) else 0),(if k=4 then s else []),(if k=6 then kids.list.map (·.1) else []),if k=5\/k=6 then kids.list.map (·.2) else [])
def cmpE:Int×Int×List UInt8×List (List UInt8)×List Tree->Int×Int×List UInt8×List (List UInt8)×List Tree->Int :=
 lexP cmpI (lexP cmpI (lexP cmpS (lexP (lexI cmpS) (lexI cmpT))))
theorem Kgp {t u:Tree} (ht:okT t) (hu:okT u):cmpT t u=cmpE (embT t) (embT u):=by
 obtain ⟨k,s,g,e,kids⟩:=t;obtain ⟨k',s',g',e',kids'⟩:=u;rw [Jsa];unfold cmpE embT lexP;by_cases hk:k=k'
 ·subst hk;have h1:=(Lu.1 ht).1;have h2:=(Lu.1 hu).1;simp only [Jsl,if_true];by_cases h3:k=3
  ·subst h3;rw [J48 (Jtc (Jvc h1 rfl)) (Jtc (Jvc h2 rfl))];simp only [reduceIte,Int.reduceEq,or_self,Jtu,lexI];split <;> omega
  ·by_cases h4:k=4
   ·subst h4;simp only [reduceIte,Int.reduceEq,or_self,Jsl,lexI];split <;> omega
   ·by_cases h6:k=6
    ·subst h6;simp only [reduceIte,Int.reduceEq,or_true,Jsl,Jtu];rw [Juu,J1t cmpT (fun p:KT=>p.2)]
    ·by_cases h5:k=5
     ·subst h5;simp only [reduceIte,Int.reduceEq,true_or,Jsl,Jtu,lexI];rw [Juu,J1t cmpT (fun p:KT=>p.2)]
     ·simp only [h3,h4,h5,h6,or_self,reduceIte,Jsl,Jtu,lexI]
 ·have:¬ cmpI k k'=0:=J6x hk;simp only [hk,this,if_false]
theorem Kg1 {t u:Tree} (ht:okT t) (hu:okT u) (h:embT t=embT u):t=u:=by
 obtain ⟨k,s,g,e,kids⟩:=t;obtain ⟨k',s',g',e',kids'⟩:=u;unfold embT at h;simp only [Ec2] at h;obtain ⟨rfl,a,b,c,d⟩:=h;obtain ⟨h1,q1,_⟩:=Lu.1 ht;obtain ⟨h2,q2,_⟩:=Lu.1 hu;by_cases h3:k=3
 ·subst h3;simp only [if_true] at a;have:=sv_inj (Jtc (Jvc h1 rfl)) (Jtc (Jvc h2 rfl)) a;simp only [ndN,Node.mk.injEq,true_and] at this;obtain ⟨rfl,rfl,rfl⟩:=this;simp [G3] at h1 h2;rw [Jv4 (by omega:(kids.len:Int)=0),Jv4 (by omega:(kids'.len:Int)=0)]
 ·by_cases h4:k=4
  ·subst h4;simp only [if_true] at b;subst b;simp [G3] at h1 h2;obtain ⟨_,n1,rfl,rfl⟩:=h1;obtain ⟨_,n2,rfl,rfl⟩:=h2;rw [Jv4 (by omega:(kids.len:Int)=0),Jv4 (by omega:(kids'.len:Int)=0)]
  ·by_cases h6:k=6
   ·subst h6;simp only [if_true,or_true] at c d;simp [G3] at h1 h2;obtain ⟨rfl,rfl,rfl⟩:=h1;obtain ⟨rfl,rfl,rfl⟩:=h2;rw [Jyd c d]
   ·by_cases h5:k=5
    ·subst h5;simp only [if_true,true_or] at d;simp [G3] at h1 h2;obtain ⟨rfl,rfl,rfl⟩:=h1;obtain ⟨rfl,rfl,rfl⟩:=h2;have n1:∀ {f:Forest},(∀ p∈f.list,p.1=[])->f.list.map (·.1)=List.replicate (f.list.map (·.2)).length []:=fun {f} h=>by
      rw [List.eq_replicate_iff];refine ⟨by simp,fun b hb=>?_⟩;obtain ⟨p,hp,rfl⟩:=Eap.1 hb;exact h p hp
     rw [Jyd (by rw [n1 (q1.1 rfl),n1 (q2.1 rfl),d]) d]
    ·unfold G3 at h1 h2;by_cases h0:k=0\/k=1\/k=2
     ·rw [if_pos h0] at h1 h2;obtain ⟨n1,rfl,rfl,rfl⟩:=h1;obtain ⟨n2,rfl,rfl,rfl⟩:=h2;rw [Jv4 n1,Jv4 n2]
     ·rw [if_neg h0,if_neg h3,if_neg h4,if_neg omg] at h1;exact h1.elim
theorem Jw3:∀ n:Nat,Ord3 (fun t:Tree=>okT t/\(t.enc []).length<=n) cmpT
 | 0=>by
  have no:∀ t:Tree,okT t/\(t.enc []).length<=0->False:=fun t h=>by have:=Et t [];omega
  exact ⟨fun a h=>(no a h).elim,fun a _ h=>(no a h).elim,fun a _ h=>(no a h).elim,fun a _ _ h=>(no a h).elim⟩
 | n+1=>by
  refine Kem embT (Jzb Ka5 (Jzb Ka5 (Jzb Kay (Jzb (Kbc Kay) (Kbc (Jw3 n)))))) ?_ (fun x y hx hy=>Kgp hx.1 hy.1) (fun x y hx hy=>Kg1 hx.1 hy.1);rintro ⟨k,s,g,e,kids⟩ ⟨h1,h2⟩;refine ⟨trivial,trivial,trivial,fun _ _=>trivial,fun x hx=>?_⟩;unfold embT at hx;simp only at hx;split at hx
  ·obtain ⟨p,hp,rfl⟩:=Eap.1 hx;rw [A6,List.length_cons] at h2;exact ⟨Jvb h1 hp,by have:=Jd7 hp;omega⟩
  ·cases hx
theorem Kca {a:Tree} (h:okT a):cmpT a a=0:=(Jw3 (a.enc []).length).self a ⟨h,Eai _⟩
theorem J0g {a b:Tree} (h:okT a) (h':okT b):cmpT b a = -cmpT a b:=(Jw3 (max (a.enc []).length (b.enc []).length)).swap a b ⟨h,Nat.le_max_left _ _⟩ ⟨h',Nat.le_max_right _ _⟩
theorem Jzv {a b:Tree} (h:okT a) (h':okT b) (e:cmpT a b=0):a=b:=(Jw3 (max (a.enc []).length (b.enc []).length)).zero a b ⟨h,Nat.le_max_left _ _⟩ ⟨h',Nat.le_max_right _ _⟩ e
theorem J1v {a b c:Tree} (h:okT a) (h':okT b) (h'':okT c) (e:cmpT a b<0) (e':cmpT b c<0):cmpT a c<0 :=
 (Jw3 ((a.enc []).length+(b.enc []).length+(c.enc []).length)).trans a b c ⟨h,by omega⟩ ⟨h',by omega⟩ ⟨h'',by omega⟩ e e'
def nilT:Tree:=.mk 0 [] false 0 .nil
def Jq3 (ks:List Tree) (i:Nat):Tree:=ks.getD i nilT
theorem Jrq {ks:List Tree} {i:Nat} {t:Tree} (h:ks[i]? = some t):Jq3 ks i=t:=by simp [Jq3,Eah,h]
def ltB (ks:List Tree) (i j:Nat):Bool:=decide (cmpT (Jq3 ks i) (Jq3 ks j)<0\/cmpT (Jq3 ks i) (Jq3 ks j)=0/\i<j)
def okK (ks:List Tree):Prop:=∀ t∈ks,okT t
theorem Jtb {ks:List Tree} (h:okK ks) (i:Nat):okT (Jq3 ks i):=by
 unfold Jq3;rw [Eah];cases e:ks[i]? with
 | none =>
  show okT nilT;unfold nilT;rw [Lu];exact ⟨by decide,Sb 0,I6⟩
 | some t=>exact h t (Eae e)
theorem J22 {ks:List Tree} (h:okK ks) (i:Nat):ltB ks i i=false:=by
 have:=Kca (Jtb h i);simp [ltB,this]
theorem Jxl {ks:List Tree} (h:okK ks) {i j k:Nat} (a:ltB ks i j=true) (b:ltB ks j k=true):ltB ks i k=true:=by
 unfold ltB at *
 rw [decide_eq_true_eq] at *
 have oi:=Jtb h i;have oj:=Jtb h j;have ok:=Jtb h k;rcases a with a | ⟨a,a'⟩
 ·rcases b with b | ⟨b,b'⟩
  ·exact .inl (J1v oi oj ok a b)
  ·rw [<- Jzv oj ok b];exact .inl a
 ·rw [Jzv oi oj a];rcases b with b | ⟨b,b'⟩
  ·exact .inl b
  ·exact .inr ⟨b,by omega⟩
theorem Kdj {ks:List Tree} (h:okK ks) {i j:Nat} (hij:i≠j) (a:ltB ks i j=false):ltB ks j i=true:=by
 unfold ltB at *
 rw [decide_eq_false_iff_not] at a;rw [decide_eq_true_eq,J0g (Jtb h i) (Jtb h j)];omega
theorem J5l {ks:List Tree} (h:okK ks) {i j:Nat} (a:ltB ks i j=true):ltB ks j i=false:=by
 cases b:ltB ks j i with
 | false=>rfl
 | true=>have:=Jxl h a b;rw [J22 h] at this;cases this
def insI (ks:List Tree) (i:Nat):List Nat->List Nat
 | []=>[i]
 | j :: l=>if ltB ks j i=true then j :: insI ks i l else i :: j :: l
def Ju9 (ks:List Tree):Nat->List Nat
 | 0=>[]
 | n+1=>insI ks n (Ju9 ks n)
def Jra (ks:List Tree):List Nat:=Ju9 ks ks.length
theorem J1x {ks:List Tree} {i j:Nat}:∀ {l:List Nat},j∈insI ks i l ↔ j=i\/j∈l
 | []=>by simp [insI]
 | k :: l=>by
  rw [insI];split
  ·rw [Eaj,J1x,Eaj];constructor
   ·rintro (h | h | h)
    ·exact .inr (.inl h)
    ·exact .inl h
    ·exact .inr (.inr h)
   ·rintro (h | h | h)
    ·exact .inr (.inl h)
    ·exact .inl h
    ·exact .inr (.inr h)
  ·exact Eaj
theorem J9c {ks:List Tree} (h:okK ks) {i:Nat}:∀ {l:List Nat},l.Pairwise (fun a b=>ltB ks a b=true)->i ∉ l->(insI ks i l).Pairwise fun a b=>ltB ks a b=true
 | [],_,_=>by simp [insI]
 | j :: l,hp,hi=>by
  obtain ⟨h1,h2⟩:=Eba.1 hp;have hij:i≠j:=fun e=>hi (by rw [e];exact Eaf)
  rw [insI];split
  ·rename_i c;refine Eba.2 ⟨fun b hb=>?_,J9c h h2 (fun x=>hi (Eag _ x))⟩;rcases J1x.1 hb with rfl | hb
   ·exact c
   ·exact h1 b hb
  ·rename_i c;have c':=Kdj h (Ne.symm hij) (by simpa using c);refine Eba.2 ⟨fun b hb=>?_,hp⟩;rcases Eaj.1 hb with rfl | hb
   ·exact c'
   ·exact Jxl h c' (h1 b hb)
theorem Jz9 {ks:List Tree} {i:Nat}:∀ {n:Nat},i∈Ju9 ks n ↔ i<n
 | 0=>by simp [Ju9]
 | n+1=>by rw [Ju9,J1x,Jz9];omega
theorem J45 {ks:List Tree} (h:okK ks):∀ n:Nat,(Ju9 ks n).Pairwise fun a b=>ltB ks a b=true
 | 0=>by simp [Ju9]
 | n+1=>by
  rw [Ju9];exact J9c h (J45 h n) (fun x=>by have:=Jz9.1 x;omega)
theorem J85 {ks:List Tree} {i:Nat}:∀ {l:List Nat},(insI ks i l).length=l.length+1
 | []=>rfl
 | j :: l=>by
  rw [insI];split
  ·rw [List.length_cons,J85,List.length_cons]
  ·rfl
theorem J4n {ks:List Tree}:∀ {n:Nat},(Ju9 ks n).length=n
 | 0=>rfl
 | n+1=>by rw [Ju9,J85,J4n]
theorem Jsc (ks:List Tree):(Jra ks).length=ks.length:=J4n
theorem Jsz {ks:List Tree} {i:Nat}:i∈Jra ks ↔ i<ks.length:=Jz9
theorem Jz2 {ks:List Tree} (h:okK ks):(Jra ks).Pairwise fun a b=>ltB ks a b=true:=J45 h _
theorem J0z {r:Nat->Nat->Prop} (asy:∀ i j,r i j->r j i->False):∀ {a b:List Nat},a.Pairwise r->b.Pairwise r->(∀ i,i∈a ↔ i∈b)->a=b
 | [],[],_,_,_=>rfl
 | [],y :: b,_,_,h=>by have:=(h y).2 Eaf;cases this
 | x :: a,[],_,_,h=>by have:=(h x).1 Eaf;cases this
 | x :: a,y :: b,ha,hb,h=>by
  obtain ⟨a1,a2⟩:=Eba.1 ha;obtain ⟨b1,b2⟩:=Eba.1 hb;have e:x=y:=by
   rcases Eaj.1 ((h x).1 Eaf) with e | hx
   ·exact e
   ·rcases Eaj.1 ((h y).2 Eaf) with e | hy
    ·exact e.symm
    ·exact (asy x y (a1 y hy) (b1 x hx)).elim
  subst e;rw [J0z asy a2 b2 fun i=>?_];constructor
  ·intro hi;rcases Eaj.1 ((h i).1 (Eag _ hi)) with e | hi'
   ·subst e;exact (asy i i (a1 i hi) (a1 i hi)).elim
   ·exact hi'
  ·intro hi;rcases Eaj.1 ((h i).2 (Eag _ hi)) with e | hi'
   ·subst e;exact (asy i i (b1 i hi) (b1 i hi)).elim
   ·exact hi'
theorem J53 {ks:List Tree} (h:okK ks) {l:List Nat} (hm':∀ i,i∈l ↔ i<ks.length) (ho:l.Pairwise fun a b=>ltB ks a b=true):l=Jra ks :=
 J0z (fun i j a b=>by rw [J5l h a] at b;cases b) ho (Jz2 h) fun i=>by rw [hm',Jsz]
def Jqo (l:List Tree) (S:List Nat):List Tree:=S.map fun i=>Jq3 l i
theorem J9s (l:List Tree):Jqo l (List.range l.length)=l:=by
 unfold Jqo;apply List.ext_getElem
 ·simp
 ·intro i h1 h2;rw [List.getElem_map,List.getElem_range,Jrq (Eaa h2)]
end Go.LX
namespace Go.LX
open Go
structure YRow where
 kind:Int
 many:Int
 name:List UInt8
 s:List UInt8
 n:Int
 c:Node
def YRow.cells (r:YRow):List PV:=[.int .i64 r.kind,.int .i64 r.many,.str r.name,.str r.s,.int .i64 r.n,.int .i64 r.c.kind,.int .i64 r.c.many,.str r.c.name,.str r.c.s,.bool r.c.neg,.int .i64 r.c.e]
def rowL (v:List YRow):List (List PV):=v.map YRow.cells
mutual
inductive RT where
 | mk (kind:Int) (s:List UInt8) (n:Int) (c:Node) (kids:RF)
inductive RF where
 | nil
 | cons (name:List UInt8) (t:RT) (rest:RF)
end
def RF.len:RF->Nat
 | .nil=>0
 | .cons _ _ r=>r.len+1
mutual
def RT.enc (name:List UInt8):RT->List YRow
 | .mk k s n c kids=>⟨k,kids.len,name,s,n,c⟩ :: kids.enc
def RF.enc:RF->List YRow
 | .nil=>[]
 | .cons nm t r=>t.enc nm ++ r.enc
end
def RF.app:RF->RF->RF
 | .nil,g=>g
 | .cons nm t r,g=>.cons nm t (r.app g)
theorem Jsr:∀ f g:RF,(f.app g).len=f.len+g.len
 | .nil,g=>by simp [RF.app,RF.len]
 | .cons nm t r,g=>by simp only [RF.app,RF.len,Jsr r g];omega
theorem Jq6:∀ f g:RF,(f.app g).enc=f.enc ++ g.enc
 | .nil,g=>by simp [RF.app,RF.enc]
 | .cons nm t r,g=>by simp only [RF.app,RF.enc,Jq6 r g,Ea2]
theorem Jqs {name:List UInt8} {k:Int} {s:List UInt8} {n:Int} {c:Node} {kids:RF}:(RT.mk k s n c kids).enc name=⟨k,kids.len,name,s,n,c⟩ :: kids.enc:=by rw [RT.enc]
theorem Jqv {nm:List UInt8} {t:RT} {r:RF}:(RF.cons nm t r).enc=t.enc nm ++ r.enc:=by rw [RF.enc]
theorem Jsd:RF.nil.enc=[]:=by rw [RF.enc]
theorem Jsi (t:RT) (nm:List UInt8):1<=(t.enc nm).length:=by
 cases t;rw [Jqs];simp
theorem Jq7:∀ f:RF,f.len<=f.enc.length
 | .nil=>by simp [RF.len]
 | .cons nm t r=>by
  have:=Jsi t nm;have:=Jq7 r;rw [Jqv,Eac,RF.len];omega
@[simp] theorem Jq0 (v:List YRow):(rowL v).length=v.length:=by simp [rowL]
theorem Jxf (n:YRow) (v:List YRow):rowL (n :: v)=n.cells :: rowL v:=rfl
theorem Kei (a b:List YRow):rowL (a ++ b)=rowL a ++ rowL b:=by simp [rowL]
theorem Jr5 {k m:Int} {nm s:List UInt8} {n:Int} {c:Node}:YRow.cells ⟨k,m,nm,s,n,c⟩=[.int .i64 k,.int .i64 m,.str nm,.str s,.int .i64 n,.int .i64 c.kind,.int .i64 c.many,.str c.name,.str c.s,.bool c.neg,.int .i64 c.e]:=rfl
theorem J1h (v:List YRow):∀ q∈rowL v,q.length=11:=by
 intro q hq;obtain ⟨n,_,rfl⟩:=Eap.1 hq;rfl
theorem J4p {v:List YRow} {i:Nat} {a b:List YRow} (h:v.drop i=a ++ b):((rowL v).drop i).take a.length=rowL a:=by
 have:(rowL v).drop i=rowL a ++ rowL b:=by rw [<- Kei,<- h];simp [rowL,Edg]
 rw [this];simp
theorem Js5 {v:List YRow} {i:Nat} {n:YRow} {b:List YRow} (h:v.drop i=n :: b):(rowL v)[i]? = some n.cells:=by
 have:v[i]? = some n:=by
  have:=congrArg (·[0]?) h;simpa using this
 simp [rowL,this]
theorem J4f {v:List YRow} {i:Nat} {a:List YRow} (h:v.drop i=a) (ha:a≠[]):i+a.length=v.length:=by
 have:=congrArg List.length h;simp at this;have:1<=a.length:=by cases a <;> simp_all
 omega
def RF.list:RF->List (List UInt8×RT)
 | .nil=>[]
 | .cons nm t r=>(nm,t) :: r.list
theorem Jq4:∀ f:RF,f.list.length=f.len
 | .nil=>rfl
 | .cons _ _ r=>by simp [RF.list,RF.len,Jq4 r]
def RT.kids:RT->RF
 | .mk _ _ _ _ k=>k
def RT.kind:RT->Int
 | .mk k _ _ _ _=>k
def RT.s:RT->List UInt8
 | .mk _ s _ _ _=>s
def RT.n:RT->Int
 | .mk _ _ n _ _=>n
def RT.c:RT->Node
 | .mk _ _ _ c _=>c
abbrev RKT:=List UInt8×RT
theorem Jve {nm:List UInt8} {t:RT} {r:RF}:(RF.cons nm t r).len=r.len+1:=rfl
theorem Jvw (t:RT) (nm:List UInt8):(t.enc nm).length=(t.enc []).length:=by
 cases t;rw [Jqs,Jqs];rfl
def rnxt (L:Nat):List YRow->Nat->Option Nat
 | _,0=>some 0
 | [],_+1=>none
 | n :: r,o+1=>if n.many<0\/(L:Int)<n.many then none else (rnxt L r (o+n.many.toNat)).map (· + 1)
theorem J5k:∀ (m:Nat) (F:RF),m<=F.len->∃ A B:RF,F=A.app B/\A.len=m
 | 0,F,_=>⟨.nil,F,rfl,rfl⟩
 | m+1,.nil,h=>by simp [RF.len] at h
 | m+1,.cons nm t r,h=>by
  obtain ⟨A,B,h1,h2⟩:=J5k m r (by simp only [RF.len] at h;omega);exact ⟨.cons nm t A,B,by rw [RF.app,<- h1],by simp only [RF.len,h2]⟩
theorem J0x {L:Nat}:∀ {v:List YRow} {o k:Nat},rnxt L v o=some k->∃ F:RF,F.len=o/\v=F.enc ++ v.drop k/\F.enc.length=k
 | v,0,k,h=>by
  simp [rnxt] at h;subst h;exact ⟨.nil,rfl,by simp [Jsd],by simp [Jsd]⟩
 | [],o+1,k,h=>by simp [rnxt] at h
 | n :: r,o+1,k,h=>by
  simp only [rnxt] at h;split at h
  ·cases h
  ·rename_i hn;obtain ⟨k',h',rfl⟩:=Eak.1 h;obtain ⟨F,h1,h2,h3⟩:=J0x h';obtain ⟨A,B,rfl,hA⟩:=J5k n.many.toNat F omg;rw [Jsr] at h1;rw [Jq6] at h2 h3;refine ⟨.cons n.name (.mk n.kind n.s n.n n.c A) B,by simp only [RF.len];omega,?_,?_⟩
   ·rw [Jqv,Jqs,Eb1];have e:(⟨n.kind,A.len,n.name,n.s,n.n,n.c⟩:YRow)=n:=by
     have:(A.len:Int)=n.many:=by omega
     rw [this]
    rw [e];simp only [List.cons_append,Ea2];congr 1;rw [<- Ea2];exact h2
   ·rw [Jqv,Jqs,Eac,List.length_cons];rw [Eac] at h3;omega
theorem Kfe {L:Nat}:∀ (n:Nat) (F:RF) (r:List YRow),F.enc.length<=n->F.enc.length<=L->rnxt L (F.enc ++ r) F.len=some F.enc.length
 | _,.nil,r,_,_=>by simp [RF.len,rnxt,Jsd]
 | 0,.cons nm t rest,r,h,_=>by
  have:=Jsi t nm;rw [Jqv,Eac] at h;omega
 | n+1,.cons nm (.mk k s g e kids) rest,r,h,hL=>by
  rw [Jqv,Jqs,Eac,List.length_cons] at h hL;have hk:=Jq7 kids;have ih:=Kfe (L:=L) n (kids.app rest) r (by rw [Jq6,Eac];omega) (by rw [Jq6,Eac];omega);rw [Jq6,Jsr,Ea2,Eac] at ih;simp only [Jqv,Jqs,List.cons_append,Ea2,RF.len,rnxt];rw [if_neg omg];simp only [Int.toNat_natCast];rw [Ecr rest.len,ih];simp only [Option.map_some,List.length_cons,Eac]
theorem J8d {v:List YRow}:rnxt v.length v 1=some v.length ↔ ∃ nm t,v=RT.enc nm t:=by
 constructor
 ·intro h;obtain ⟨F,h1,h2,h3⟩:=J0x h;rw [List.drop_length,Eaz] at h2
  match F,h1,h2 with
  | .cons nm t .nil,_,h2=>exact ⟨nm,t,by rw [h2,Jqv,Jsd,Eaz]⟩
 ·rintro ⟨nm,t,rfl⟩;have:=Kfe (L:=(t.enc nm).length) (t.enc nm).length (.cons nm t .nil) [] (by rw [Jqv,Jsd];simp) (by rw [Jqv,Jsd];simp);simpa [Jqv,Jsd,RF.len] using this
def Jtm (v:List YRow) (i o:Nat):Int:=match rnxt v.length (v.drop i) o with
 | some k=>((i+k:Nat):Int)
 | none=>-1
theorem J96 (v:List YRow) (i:Nat):Jtm v i 0=i:=by
 unfold Jtm;have:rnxt v.length (v.drop i) 0=some 0:=by cases v.drop i <;> rfl
 rw [this];rfl
theorem Kcj {v:List YRow} {i o:Nat} (h:v.length<=i) (ho:0<o):Jtm v i o = -1:=by
 unfold Jtm;rw [Ear h];cases o with
 | zero=>omega
 | succ o=>rfl
theorem Kb1 {v:List YRow} {i o:Nat} {n:YRow} (h:v[i]? = some n) (ho:0<o) (hb:n.many<0\/(v.length:Int)<n.many):Jtm v i o = -1:=by
 have hi:=(Eab.1 h).1;unfold Jtm;rw [Eax hi,(Eab.1 h).2];cases o with
 | zero=>omega
 | succ o=>simp only [rnxt];rw [if_pos hb]
theorem J99 {v:List YRow} {i o:Nat} {n:YRow} (h:v[i]? = some n) (hb:¬ (n.many<0\/(v.length:Int)<n.many)):Jtm v i (o+1)=Jtm v (i+1) (o+n.many.toNat):=by
 have hi:=(Eab.1 h).1;unfold Jtm;rw [Eax hi,(Eab.1 h).2];simp only [rnxt];rw [if_neg hb];cases rnxt v.length (v.drop (i+1)) (o+n.many.toNat) with
 | none=>rfl
 | some k=>simp only [Option.map_some];omega
theorem Jzc {v:List YRow} {i:Nat} {n:YRow} (h:v[i]? = some n):(rowL v)[i]? = some [.int .i64 n.kind,.int .i64 n.many,.str n.name,.str n.s,.int .i64 n.n,.int .i64 n.c.kind,.int .i64 n.c.many,.str n.c.name,.str n.c.s,.bool n.c.neg,.int .i64 n.c.e]:=by
 simp [rowL,h,YRow.cells]
theorem J2q:∀ {a b c d:RF},a.app b=c.app d->a.len=c.len->a=c/\b=d
 | .nil,b,.nil,d,h,_=>⟨rfl,h⟩
 | .nil,_,.cons _ _ _,_,_,h=>by simp [RF.len] at h
 | .cons _ _ _,_,.nil,_,_,h=>by simp [RF.len] at h
 | .cons nm t a,b,.cons nm' t' c,d,h,hl=>by
  rw [RF.app,RF.app] at h;injection h with h1 h2 h3
  obtain ⟨rfl,rfl⟩:=J2q (a:=a) (b:=b) (c:=c) (d:=d) h3 (by simpa [RF.len] using hl);exact ⟨by rw [h1,h2],rfl⟩
theorem Kfj:∀ (n:Nat) {F G:RF},F.enc.length<=n->F.len=G.len->F.enc=G.enc->F=G
 | _,.nil,.nil,_,_,_=>rfl
 | _,.nil,.cons _ _ _,_,h,_=>by simp [RF.len] at h
 | _,.cons _ _ _,.nil,_,h,_=>by simp [RF.len] at h
 | 0,.cons nm t r,.cons _ _ _,h,_,_=>by
  have:=Jsi t nm;rw [Jqv,Eac] at h;omega
 | n+1,.cons nm (.mk k s g e kids) r,.cons nm' (.mk k' s' g' e' kids') r',h,hl,he=>by
  rw [Jqv,Jqs,Eac,List.length_cons] at h;rw [Jqv,Jqv,Jqs,Jqs,List.cons_append,List.cons_append] at he;injection he with h1 h2
  injection h1 with g1 g2 g3 g4 g5 g6
  rw [<- Jq6,<- Jq6] at h2;simp only [RF.len] at hl;have hk:kids.len=kids'.len:=by omega
  have:=Kfj n (F:=kids.app r) (G:=kids'.app r') (by rw [Jq6,Eac];omega) (by rw [Jsr,Jsr];omega) h2;obtain ⟨rfl,rfl⟩:=J2q this hk;rw [g1,g3,g4,g5,g6]
theorem Kep {t u:RT} {a b:List UInt8} (h:t.enc a=u.enc b):a=b/\t=u:=by
 have:=Kfj (RF.cons a t .nil).enc.length (F:=.cons a t .nil) (G:=.cons b u .nil) (Eai _) rfl (by rw [Jqv,Jqv,h]);injection this with h1 h2 _
 exact ⟨h1,h2⟩
theorem J9g {v:List YRow} (h:Jtm v 0 1=v.length):∃ nm t,v=RT.enc nm t:=by
 refine J8d.1 ?_;unfold Jtm at h;rw [Ebi] at h;cases hn:rnxt v.length v 1 with
 | none=>rw [hn] at h;simp at h
 | some k=>rw [hn] at h;simp at h;rw [show k=v.length by omega]
def Juf:Node:=⟨0,0,[],[],false,0⟩
def Js2 (c:Node):Prop:=c.kind<5/\c.name=[]/\G3 c.kind c.s c.neg c.e c.many
instance (c:Node):Decidable (Js2 c):=by unfold Js2;infer_instance
def J93 (n:Int) (c:Node):Prop:=0<=n/\n<=5/\Js2 c
instance (n:Int) (c:Node):Decidable (J93 n c):=by unfold J93;infer_instance
def fldS (s:List UInt8):Prop:=(Je s).2.2=0/\∀ x∈(Je s).1,x.part=false
instance (s:List UInt8):Decidable (fldS s):=by unfold fldS;infer_instance
def Kdt (k:Int) (s:List UInt8) (n:Int) (c:Node) (m:Int):Prop :=
 if k=0 then m=0/\s=[]/\n=0/\c=Juf
 else if k=1 then 0<=m/\1<=n/\n<=31/\s=[]/\c=Juf
 else if k=9 then m=0/\s=[]/\J93 n c
 else if k=2 then 0<=m/\(n=0\/n=1)/\s=[]/\c=Juf
 else if k=4 then 0<=m/\n=0/\s=[]/\c=Juf
 else if k=3\/k=5\/k=6 then m=1/\n=0/\s=[]/\c=Juf
 else if k=7\/k=8 then m=1/\n=0/\c=Juf/\fldS s
 else False
instance (k:Int) (s:List UInt8) (n:Int) (c:Node) (m:Int):Decidable (Kdt k s n c m):=by unfold Kdt;infer_instance
def RRise (l:List RKT):Prop:=l.Pairwise fun p q=>Op.bytesLess p.1 q.1=true
def rkidOK (k:Int) (p:RKT):Prop:=(p.2.kind=9 ↔ k=1)/\(k≠2->p.1=[])/\(k=2->valid p.1=true)
def Khk (k:Int) (l:List RKT):Prop:=(∀ p∈l,rkidOK k p)/\(k=2->RRise l)
def findR (name:List UInt8):List RKT->Option RT
 | []=>none
 | p :: l=>if p.1=name then some p.2 else findR name l
def leadR:RT->List Step->Option RT
 | t,[]=>some t
 | t,x :: p=>if t.kind=2/\x.part=false then (findR x.name t.kids.list).bind fun u=>leadR u p else none
def Kgk (t:RT) (p:List Step):Prop:=∃ u,leadR t p=some u/\u.kind=1
def leadOK (k:Int) (s:List UInt8) (l:List RKT):Prop:=(k=7\/k=8)->∀ p,l.head? = some p->Kgk p.2 (Je s).1
mutual
def okR:RT->Prop
 | .mk k s n c kids=>Kdt k s n c kids.len/\Khk k kids.list/\leadOK k s kids.list/\okRF kids
def okRF:RF->Prop
 | .nil=>True
 | .cons _ t r=>okR t/\okRF r
end
theorem okRF_nil:okRF .nil:=by rw [okRF];trivial
end Go.LX
namespace Go.LX
open Go Go.RowKit Go.Proofs
attribute [local irreducible] Al SWP Bi
def Kgi:Nat->RF->List (List PV)
 | _,.nil=>[]
 | i,.cons nm t r=>[.int .i64 i,.int .i64 (i+(t.enc nm).length:Nat)] :: Kgi (i+(t.enc nm).length) r
def Jrk (l:List RKT):List (List PV):=l.map fun p=>[.sl (rowL (p.2.enc []))]
@[simp] theorem tpartL_nil:Jrk []=[]:=rfl
theorem Jwq {l:List RKT} {k:Nat} {p:List UInt8×RT} (h:l[k]? = some p):Jrk (l.take (k+1))=Jrk (l.take k) ++ [[.sl (rowL (p.2.enc []))]]:=by
 rw [Ea8,h];simp [Jrk]
theorem Jrg (l:List RKT):(Jrk l).length=l.length:=by simp [Jrk]
def atomL (l:List (Int×Node)):List (List PV):=l.map fun a=>[.int .i64 a.1,.int .i64 a.2.kind,.int .i64 a.2.many,.str a.2.name,.str a.2.s,.bool a.2.neg,.int .i64 a.2.e]
def Khe (l:List RKT):List (Int×Node):=l.map fun p=>(p.2.n,p.2.c)
end Go.LX
namespace Go.LX
open Go
def ndT (n:Node):Tree:=.mk n.kind n.s n.neg n.e .nil
def rootN:Tree->Node
 | .mk k s g e kids=>⟨k,kids.len,[],s,g,e⟩
def leafB:Tree->Bool
 | .mk _ _ _ _ .nil=>true
 | .mk _ _ _ _ (.cons _ _ _)=>false
def J0l (n c:Int):Bool :=
 if n=0 then decide (c=0) else if n=1 then decide (c≠0) else if n=2 then decide (c<0) else if n=3 then decide (c<=0) else if n=4 then decide (0<c) else decide (0<=c)
def holdsB (a:Int×Node) (x:Node):Bool:=J0l a.1 (cmpT (ndT x) (ndT a.2))
def letsB (mask kind:Int):Bool:=decide (mask.toNat / 2 ^ kind.toNat % 2=1)
def Kgr (mask:Int) (l:List (Int×Node)) (x:Node):Bool:=decide (Js2 x) && (letsB mask x.kind && l.all fun a=>holdsB a x)
def keyV (s:List UInt8) (v:Tree):List Node:=match getT (Je s).1 v with
 | .ok u=>u.enc []
 | .error _=>[]
def keyT (s:List UInt8) (v:Tree):Tree:=match getT (Je s).1 v with
 | .ok u=>u
 | .error _=>.mk 0 [] false 0 .nil
def J73 (ps:List (Tree->Bool)):Tree->Bool:=match ps with
 | []=>fun _=>true
 | p :: _=>p
def partP (kids:List KT) (nm:List UInt8) (p:Tree->Bool):Bool:=match Ch nm kids with
 | some u=>p u
 | none=>false
def objS (kids:List KT):List RKT->List (Tree->Bool)->Bool
 | r :: rows,p :: ps=>partP kids r.1 p && objS kids rows ps
 | _,_=>true
def tupS:List (Tree->Bool)->List KT->Bool
 | [],[]=>true
 | p :: ps,q :: l=>p q.2 && tupS ps l
 | [],_ :: _=>false
 | _ :: _,[]=>false
def sKey:List UInt8:=[107,101,121]
def sVal:List UInt8:=[118,97,108,117,101]
def entK:Tree->Option (List UInt8×Tree)
 | .mk k _ _ _ kids=>if k=6/\kids.len=2 then (match Ch sKey kids.list,Ch sVal kids.list with
  | some (.mk k' s' _ _ _),some x=>if k'=4 then some (s',x) else none
  | _,_=>none) else none
def ahead (last:Option (List UInt8)) (key:List UInt8):Bool:=match last with
 | none=>true
 | some l=>Op.bytesLess l key
def entS (P:Tree->Bool):Option (List UInt8)->List KT->Bool
 | _,[]=>true
 | last,q :: l=>match entK q.2 with
  | none=>false
  | some (key,x)=>ahead last key && (P x && entS P (some key) l)
def Kec (a b:Tree):Bool:=decide (a.enc []=b.enc [])
def aheadT (last:Option Tree) (key:Tree):Bool:=match last with
 | none=>true
 | some l=>decide (cmpT l key<0)
def Kdv (P:Tree->Bool) (q:KT):Bool:=decide (q.2.kind=5) && (decide (q.2.kids.len≠0) && q.2.kids.list.all fun x=>P x.2)
def J26 (s:List UInt8) (l:List KT):List Tree:=l.map fun q=>keyT s q.2
def Ket (l:List Tree):Tree:=l.headD (.mk 0 [] false 0 .nil)
def Kf2 (P:Tree->Bool) (s:List UInt8):Option Tree->List KT->Bool
 | _,[]=>true
 | last,q :: l=>Kdv P q && (((J26 s q.2.kids.list).all fun k=>Kec k (Ket (J26 s q.2.kids.list))) && (aheadT last (Ket (J26 s q.2.kids.list)) && Kf2 P s (some (Ket (J26 s q.2.kids.list))) l))
def allP (P:Tree->Bool) (l:List KT):Bool:=l.all fun q=>P q.2
def inK (k:Int) (s:List UInt8) (n:Int) (rows:List RKT) (ps:List (Tree->Bool)) (v:Tree):Bool :=
 if k=0 then true
 else if k=1 then leafB v && Kgr n (Khe rows) (rootN v)
 else if k=2 then decide (v.kind=6) && ((decide (n≠0) || decide (v.kids.len=rows.length)) && objS v.kids.list rows ps)
 else if k=3 then decide (v.kind=6) && allP (J73 ps) v.kids.list
 else decide (v.kind=5) && (
  if k=4 then tupS ps v.kids.list
  else if k=6 then entS (J73 ps) none v.kids.list
  else if k=8 then Kf2 (J73 ps) s none v.kids.list
  else if k=7 then allP (J73 ps) v.kids.list && Kfp (J26 s v.kids.list)
  else allP (J73 ps) v.kids.list)
end Go.LX
namespace Go.LX
open Go Go.Proofs
end Go.LX
namespace Go.LX
open Go Go.RowKit Go.Proofs
attribute [local irreducible] Al SWP Bi
theorem J2p {n:Node} (h:Js2 n):n.many=0:=by
 obtain ⟨hk,_,h⟩:=h;unfold G3 at h;split at h
 ·exact h.1
 ·split at h
  ·exact h.1
  ·split at h
   ·exact h.2.1
   ·split at h
    ·omega
    ·exact h.elim
theorem J9y {n:Node} (h:Js2 n):okT (ndT n):=by
 have hm:=J2p h;obtain ⟨hk,hn,ho⟩:=h;rw [hm] at ho;exact Lu.2 ⟨ho,Sb _,I6⟩
theorem Kho {n:Node} (h:Js2 n):(ndT n).enc []=[n]:=by
 have hm:=J2p h;obtain ⟨hk,hn,ho⟩:=h;rw [ndT,A6,Bl];cases n;simp only at hm hn;subst hm;subst hn;rfl
theorem J81 {n:Node} (hk:n.kind<5):Jw [n]=decide (Js2 n):=by
 rw [Ea0,Iq,decide_eq_true_eq];constructor
 ·rintro ⟨t,ht,h⟩;cases t with
  | mk k s g e kids =>
   rw [A6] at h;have h1:=(List.cons.inj h).1;have h2:=(List.cons.inj h).2;cases kids with
   | nil =>
    subst h1;exact ⟨hk,rfl,(Lu.1 ht).1⟩
   | cons a b c =>
    rw [A0] at h2;have:=congrArg List.length h2;have hp:=Et b a;simp at this;omega
 ·intro h;exact ⟨ndT n,J9y h,(Kho h).symm⟩
theorem Jvs (s:List UInt8):(Je s).1.length<=20/\∀ x∈(Je s).1,Bc x:=by
 by_cases h:(Je s).2.2=0
 ·obtain ⟨_,h2,_⟩:=Kb0 h;exact h2
 ·obtain ⟨_,h2,_⟩:=Kbt h;rw [h2];exact ⟨by simp,by simp⟩
def keysL (s:List UInt8) (l:List KT):List (List PV):=l.map fun q=>[.sl (valL (keyV s q.2))]
theorem Jzt {v:List YRow} {j:Nat} {nm:List UInt8} {t:RT} {b:List YRow} (h:v.drop j=t.enc nm ++ b):∃ (k n:Int) (s:List UInt8) (g:Int) (e:Node),(rowL v)[j]? = some [.int .i64 k,.int .i64 n,.str nm,.str s,.int .i64 g,.int .i64 e.kind,.int .i64 e.many,.str e.name,.str e.s,.bool e.neg,.int .i64 e.e]:=by
 cases t with
 | mk k s g e kids =>
  rw [Jqs] at h;exact ⟨k,kids.len,s,g,e,Js5 h⟩
def Jtl (l:List (List UInt8×RT)):List (List PV):=l.map fun p=>[.str p.1]
@[simp] theorem tnameL_nil:Jtl []=[]:=rfl
def placeR (rows:List RKT) (i:Nat):Nat:=1+((rows.take i).map fun p=>(p.2.enc p.1).length).sum
end Go.LX
