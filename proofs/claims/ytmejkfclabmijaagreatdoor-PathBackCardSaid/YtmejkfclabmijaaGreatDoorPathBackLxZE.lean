/- Paths: texts, there and back: plain laws. -/
import Derived.Test.YtmejkfclabmijaaGreatDoorPathBackLxV
import Derived.Test.YtmejkfclabmijaaGreatDoorPathBackLxW
import Derived.Test.YtmejkfclabmijaaGreatDoorPathBackLxZD
set_option linter.unusedSimpArgs false
set_option linter.unusedVariables false
set_option linter.unusedSectionVars false
set_option linter.unnecessarySimpa false
set_option maxRecDepth 100000
set_option maxHeartbeats 2000000
namespace Go.LX
open Go Go.RowKit Go.Proofs
attribute [local irreducible] Bz SWP Gm
theorem Jdf {s:List UInt8} {m:Nat} (h1:m≤s.length) (h2:∀ j,j<m→P9 s j) (h3:m<s.length→¬ P9 s m):L7 s=m:=by
 have hle:=Xd s
 rcases Nat.lt_trichotomy (L7 s) m with h | h | h
 ·exact absurd (h2 _ h) (Jlg (by omega))
 ·exact h
 ·exact absurd (S3 h) (h3 (by omega))
def Jg1 (r:List UInt8):Prop:=∀ c q,r=c :: q→c=46∨c=91
theorem Z7 (p:List Step):Jg1 (Hh p):=by
 intro c q h
 cases p with
 | nil=>cases h
 | cons x p =>
  have h':Hs x ++ Hh p=c :: q:=h
  unfold Hs at h'
  split at h'
  ·exact .inr (List.cons.inj h').1.symm
  ·split at h'
   ·exact .inl (List.cons.inj h').1.symm
   ·exact .inl (List.cons.inj h').1.symm
theorem Jo7 {nm:List UInt8} (h:isWd nm) {j:Nat} (hj:j<nm.length):P9 nm j:=S3 (by rw [h.2];exact hj)
theorem Jpy {a b:List UInt8} {j:Nat} (h:j<a.length):P9 (a ++ b) j ↔ P9 a j:=by unfold P9;rw [Jkw h]
theorem Jpx {nm r:List UInt8} (h:isWd nm) (hr:Jg1 r):L7 (nm ++ r)=nm.length:=by
 refine Jdf (by simp) (fun j hj=>(Jpy hj).2 (Jo7 h hj)) fun hl=>?_
 rw [List.length_append] at hl
 unfold P9
 rw [Jhd (Nat.le_refl _),Nat.sub_self]
 cases r with
 | nil=>simp at hl
 | cons c q =>
  rcases hr c q rfl with rfl | rfl
  ·rw [Ra];unfold letP figP;simp
  ·rw [Ra];unfold letP figP;simp
theorem Je8 {c:UInt8} {r:List UInt8} (h:¬ letP c.toNat):L7 (c :: r)=0:=by
 refine Jdf (Nat.zero_le _) (fun j hj=>by omega) fun _=>?_
 unfold P9
 rw [Ra]
 rintro (h' | h')
 ·exact h h'
 ·omega
theorem Jfg {x:Step} (hp:x.part=false) (hok:Fs x) {r:List UInt8} (hr:Jg1 r):Hn (Hs x ++ r)=(x,(Hs x).length):=by
 obtain ⟨part,nm,n⟩:=x
 simp only at hp;subst hp
 unfold Fs at hok
 rw [if_neg (by simp)] at hok
 obtain ⟨h1,h2⟩:=hok
 simp only at h1 h2;subst h1
 unfold Hs
 rw [if_neg (by simp)]
 by_cases hw:isWd nm
 ·rw [if_pos hw]
  unfold Hn
  have hl:0<nm.length:=by have:=hw.1;cases nm <;> simp at this ⊢
  simp only [List.cons_append,List.take_succ_cons,List.take_zero,List.drop_succ_cons,List.drop_zero,if_true]
  rw [Jpx hw hr,if_pos hl,List.take_left]
  rfl
 ·rw [if_neg hw]
  unfold Hn
  simp only [List.cons_append,List.take_succ_cons,List.take_zero,List.drop_succ_cons,List.drop_zero,if_true]
  have h0:L7 (refQ nm ++ r)=0:=Je8 (c:=34) (r:=wrs nm ++ [34] ++ r) (by unfold letP;simp)
  rw [h0,if_neg (by omega),Jo1 h2 r,if_neg]
  ·rfl
  ·simp only [ne_eq,List.take_left,not_true_eq_false,or_false,false_or]
   exact hw
theorem Jk5:∀ (k m:Nat),m<10 ^ (k+1)→(Lib.decDigits m).length≤k+1
 | 0,m,h=>by
  rw [Pv,if_pos (by simpa using h)];simp
 | k+1,m,h=>by
  rw [Pv]
  split
  ·simp
  ·have:=Jk5 k (m / 10) (by rw [Nat.pow_succ] at h;omega)
   rw [List.length_append];simp;omega
theorem dg_93:¬ isDg (93:UInt8).toNat:=by unfold isDg;simp
theorem Jfd {x:Step} (hp:x.part=true) (hok:Fs x) (r:List UInt8):Ip (Hs x ++ r)=(x,(Hs x).length):=by
 obtain ⟨part,nm,n⟩:=x
 simp only at hp;subst hp
 unfold Fs at hok
 rw [if_pos rfl] at hok
 obtain ⟨h1,h2,h3⟩:=hok
 simp only at h1 h2 h3;subst h1
 obtain ⟨m,rfl⟩:∃ m:Nat,n=m:=⟨n.toNat,by omega⟩
 unfold Hs
 rw [if_pos rfl]
 simp only [Lib.itoa_nonneg,List.cons_append,List.append_assoc,List.nil_append]
 have hl7:(Lib.decDigits m).length≤7:=Jk5 6 m (by omega)
 have hd:dgR 7 (Lib.decDigits m ++ 93 :: r)=Lib.decDigits m:=Jmc _ _ 7 (Jjx m) hl7 fun c q h=>by
  cases h;exact dg_93
 have:=Jju (r:=Lib.decDigits m ++ 93 :: r) (by rw [hd];exact X5 m) (by
  rw [hd]
  rintro ⟨g1,g2⟩
  cases hdd:Lib.decDigits m with
  | nil=>exact X5 m hdd
  | cons c q =>
   rw [hdd,List.cons_append,Ra] at g1
   have:=(Jfu m c q hdd g1).1
   subst this
   rw [hdd] at g2;simp at g2) (by rw [hd,Jcz];omega) (by rw [hd];simp)
 rw [this,hd,Jcz]
 congr 1
 simp
theorem uq_no {c:UInt8} {r:List UInt8} (h:c≠34):uq (c :: r)=([],0,1):=by
 have h0:at_ (c :: r) 0≠34:=by
  rw [Ra]
  exact fun e=>h (UInt8.toNat_inj.1 e)
 unfold uq
 rw [if_pos (.inr h0)]
theorem Jmg {r:List UInt8}:Hn (46 :: 91 :: r)=(Mt,0):=by
 unfold Hn
 simp only [List.take_succ_cons,List.take_zero,List.drop_succ_cons,List.drop_zero,if_true]
 rw [Je8 (by unfold letP;simp),if_neg (by omega),uq_no (by decide)]
 simp
theorem field_br {r:List UInt8}:Hn (91 :: r)=(Mt,0):=by
 unfold Hn
 rw [if_neg (by simp)]
theorem Jbx {x:Step} (hp:x.part=true):∃ r,Hs x=91 :: r:=by
 unfold Hs;rw [if_pos hp];exact ⟨_,rfl⟩
theorem Jpk {s:List UInt8} {i:Nat} {x:Step} {r:List UInt8} (hi:0<i) (hok:Fs x) (hr:Jg1 r) (h:s.drop i=Hs x ++ r):Jo s i=(x,(Hs x).length):=by
 have hpos:=Vo x
 unfold Jo
 rw [h]
 cases hp:x.part with
 | false =>
  rw [Jfg hp hok hr,if_pos (by simp only;omega)]
 | true =>
  obtain ⟨q,hq⟩:=Jbx hp
  have e:Hn (Hs x ++ r)=(Mt,0):=by rw [hq];exact field_br
  rw [e,if_neg (by simp),if_neg (by omega),Jfd hp hok r]
theorem Zi:∀ (q:List Step) (s:List UInt8) (f i:Nat) (p:List Step),s.drop i=Hh q→i≤s.length→0<i→p.length+q.length≤20→(∀ x∈q,Fs x)→q.length≤f→K3 s f i p=(p ++ q,s.length)
 | [],s,f,i,p,h,hi,_,_,_,_=>by
  have hl:=congrArg List.length h
  simp [Hh] at hl
  rw [Ri (by omega),List.append_nil]
  congr 1;omega
 | x :: q,s,0,i,p,_,_,_,_,_,hf=>by simp at hf
 | x :: q,s,f+1,i,p,h,hi,h0,hl,hok,hf=>by
  have h':s.drop i=Hs x ++ Hh q:=h
  have hx:=hok x List.mem_cons_self
  have hn:=Jpk h0 hx (Z7 q) h'
  have hpos:=Vo x
  have hlen:=congrArg List.length h'
  rw [List.length_drop,List.length_append] at hlen
  simp only [List.length_cons] at hl hf
  rw [K3,if_pos ⟨by omega,by omega,by rw [hn];simp only;omega⟩,hn]
  simp only
  rw [Zi q s f (i+(Hs x).length) (p ++ [x]) (by rw [← List.drop_drop,h',List.drop_left]) (by omega) (by omega) (by simp;omega) (fun y hy=>hok y (List.mem_cons_of_mem _ hy)) (by omega)]
  simp
theorem Jp2 (p:List Step):p.length≤(Hh p).length:=by
 induction p with
 | nil=>exact Nat.le_refl _
 | cons x p ih =>
  have:=Vo x
  have e:Hh (x :: p)=Hs x ++ Hh p:=rfl
  rw [e,List.length_append,List.length_cons];omega
theorem Jqd {x:Step} (hok:Fs x):2≤(Hs x).length:=by
 unfold Hs
 split
 ·simp
 ·split
  ·rename_i h
   have:=h.1
   cases hn:x.name with
   | nil=>exact absurd hn this
   | cons c r=>simp
  ·have:=Jcc x.name
   simp;omega
theorem Je0 {p:List Step} (h:Vd p):Ks (Rt p)=(p,0,0):=by
 obtain ⟨hl,hok⟩:=h
 cases p with
 | nil=>rfl
 | cons x q =>
  have hx:=hok x List.mem_cons_self
  have h2:=Jqd hx
  have hq:=Jp2 q
  simp only [List.length_cons] at hl
  have e:Hh (x :: q)=Hs x ++ Hh q:=rfl
  cases hp:x.part with
  | false =>
   have hT:Rt (x :: q)=Hs x ++ Hh q:=by
    show (if x.part=true then _ else _)=_
    rw [if_neg (by rw [hp];simp),e]
   rw [hT]
   unfold Ks
   have hne:Hs x ++ Hh q≠[46]:=fun e=>by
    have:=congrArg List.length e
    rw [List.length_append] at this
    simp only [List.length_cons,List.length_nil] at this;omega
   have hL:V4 (Hs x ++ Hh q)=(x :: q,(Hs x ++ Hh q).length):=by
    have hn:Jo (Hs x ++ Hh q) 0=(x,(Hs x).length):=by
     unfold Jo
     rw [List.drop_zero,Jfg hp hx (Z7 q),if_pos (by simp only;omega)]
    unfold V4
    rw [K3,if_pos ⟨by rw [List.length_append];omega,by simp,by rw [hn];simp only;omega⟩,hn]
    simp only [List.nil_append,Nat.zero_add]
    rw [Zi q _ _ _ [x] (by rw [List.drop_left]) (by rw [List.length_append];omega) (by omega) (by simp;omega) (fun y hy=>hok y (List.mem_cons_of_mem _ hy)) (by rw [List.length_append];omega)]
    rfl
   rw [if_neg hne,hL,if_neg (by simp)]
  | true =>
   have hT:Rt (x :: q)=46 :: (Hs x ++ Hh q):=by
    show (if x.part=true then _ else _)=_
    rw [if_pos hp,e]
   rw [hT]
   unfold Ks
   obtain ⟨z,hz⟩:=Jbx hp
   have hne:46 :: (Hs x ++ Hh q)≠[46]:=fun e=>by
    have:=congrArg List.length e
    rw [List.length_cons,List.length_append] at this
    simp only [List.length_cons,List.length_nil] at this;omega
   have hL:V4 (46 :: (Hs x ++ Hh q))=(x :: q,(46 :: (Hs x ++ Hh q)).length):=by
    have hn:Jo (46 :: (Hs x ++ Hh q)) 0=(x,(Hs x).length+1):=by
     have hf:Hn (46 :: (Hs x ++ Hh q))=(Mt,0):=by rw [hz];exact Jmg
     unfold Jo
     rw [List.drop_zero,hf,if_neg (by simp),if_pos rfl,List.drop_succ_cons,List.drop_zero,Jfd hp hx,if_pos ⟨rfl,by simp only;omega⟩]
    unfold V4
    rw [K3,if_pos ⟨by simp,by simp,by rw [hn];simp⟩,hn]
    simp only [List.nil_append,Nat.zero_add]
    rw [Zi q _ _ _ [x] (by rw [List.drop_succ_cons,List.drop_left]) (by simp) (by omega) (by simp;omega) (fun y hy=>hok y (List.mem_cons_of_mem _ hy)) (by simp;omega)]
    rfl
   rw [if_neg hne,hL,if_neg (by simp)]
theorem Jkx:∀ {s:List UInt8},(∀ c∈s,c.toNat<128)→valid s=true:=by
 intro s h
 refine P2.2 ⟨s.map fun c=>(c.toNat:Int),?_,?_⟩
 ·intro r hr
  obtain ⟨c,hc,rfl⟩:=List.mem_map.1 hr
  have:=h c hc
  unfold Kv
  omega
 ·induction s with
  | nil=>rfl
  | cons c s ih =>
   rw [List.map_cons,Sd,← ih fun d hd=>h d (List.mem_cons_of_mem _ hd)]
   have hc:=h c List.mem_cons_self
   have:utf (c.toNat:Int)=[c]:=by
    unfold utf
    rw [Wo ⟨by omega,by omega⟩]
    have e:((c.toNat:Int) % 256).toNat=c.toNat:=by omega
    simp [u8of,e]
   rw [this];rfl
theorem Jij {s:List UInt8} {j:Nat} (h:P9 s j):at_ s j<128:=by
 unfold P9 letP figP at h;omega
theorem Jeo {s:List UInt8} (h:(Hn s).2≠0):Fs (Hn s).1∧(Hn s).1.part=false∧s.take (Hn s).2=Hs (Hn s).1∧(Hn s).2≤s.length:=by
 have hle:=Yp s
 unfold Hn at h ⊢
 split at h
 case isFalse=>exact absurd rfl h
 rename_i h46
 rw [if_pos h46]
 obtain ⟨r,rfl⟩:∃ r,s=46 :: r:=by
  cases s with
  | nil=>simp at h46
  | cons c r=>simp at h46;exact ⟨r,by rw [h46]⟩
 simp only [List.drop_succ_cons,List.drop_zero] at h ⊢
 have hwl:=Xd r
 split at h
 ·rename_i hw
  rw [if_pos hw]
  have hwd:isWd (r.take (L7 r)):=by
   refine ⟨fun e=>?_,Jdf (Nat.le_refl _) (fun j hj=>?_) (fun h=>absurd h (Nat.lt_irrefl _))⟩
   ·have:=congrArg List.length e;rw [List.length_take,List.length_nil] at this;omega
   ·simp at hj
    have:=S3 (s:=r) (j:=j) (by omega)
    unfold P9 at this ⊢
    rw [at_take (by omega)];exact this
  refine ⟨?_,rfl,?_,by simp;omega⟩
  ·unfold Fs
   rw [if_neg (by simp)]
   refine ⟨rfl,Jkx fun c hc=>?_⟩
   obtain ⟨j,hj,rfl⟩:=List.getElem_of_mem hc
   simp at hj
   have:=Jij (S3 (s:=r) (j:=j) (by omega))
   rw [Jh1 (by omega)] at this
   simpa using this
  ·unfold Hs
   rw [if_neg (by simp),if_pos hwd,List.take_succ_cons]
 ·rename_i hw
  rw [if_neg hw]
  split at h
  ·exact absurd rfl h
  ·rename_i hc
   rw [if_neg hc]
   simp only [not_or,ne_eq,Decidable.not_not] at hc
   obtain ⟨c1,c2,c3⟩:=hc
   have hg:=Jnk c1
   refine ⟨?_,rfl,?_,by simp;omega⟩
   ·unfold Fs
    rw [if_neg (by simp)]
    exact ⟨rfl,hg.1⟩
   ·unfold Hs
    rw [if_neg (by simp),if_neg c2,List.take_succ_cons,c3]
theorem dg_parts {r:List UInt8} (h0:dgR 7 r≠[]) (h1:¬ (at_ r 0=48∧1<(dgR 7 r).length)):r.take (dgR 7 r).length=dgR 7 r∧Lib.decDigits (valD (dgR 7 r))=dgR 7 r:=by
 have hp:=Jh4 7 r
 have hall:=Jhi 7 r
 generalize dgR 7 r=t at *
 have hlt:0<t.length:=List.length_pos_iff.2 h0
 have ha0:at_ t 0=at_ r 0:=by
  rw [hp];simp only [at_,List.getD_eq_getElem?_getD]
  rw [List.getElem?_take_of_lt (by omega)]
 exact ⟨hp.symm,(W3 (t.length - 1) t (by omega) hall (by rw [ha0];omega)).1⟩
theorem Jf7 {s:List UInt8} (h:(Ip s).2≠0):Fs (Ip s).1∧(Ip s).1.part=true∧s.take (Ip s).2=Hs (Ip s).1∧(Ip s).2≤s.length:=by
 have hle:=Un s
 have h91:s.take 1=[91]:=by
  unfold Ip at h
  split at h
  ·rename_i hc;exact hc.1
  ·exact absurd rfl h
 obtain ⟨r,rfl⟩:∃ r,s=91 :: r:=by
  cases s with
  | nil=>simp at h91
  | cons c r=>simp at h91;exact ⟨r,by rw [h91]⟩
 obtain ⟨g1,g2,g3,g4⟩:=Jrd h
 have hf:=Jju g1 g2 g3 g4
 have hlen:=Jh7 7 r
 rw [hf]
 rw [hf] at hle
 refine ⟨?_,rfl,?_,hle⟩
 ·unfold Fs
  rw [if_pos rfl]
  exact ⟨rfl,by simp only;omega,by simp only;omega⟩
 ·unfold Hs
  rw [if_pos rfl]
  simp only [Lib.itoa_nonneg]
  obtain ⟨hq,hcan⟩:=dg_parts g1 g2
  rw [hcan,List.take_succ_cons]
  congr 1
  rw [List.take_add_one,hq,g4]
  rfl
theorem Jlu {s:List UInt8} {i:Nat} (hi:0<i) (h:(Jo s i).2≠0):Fs (Jo s i).1∧(s.drop i).take (Jo s i).2=Hs (Jo s i).1:=by
 unfold Jo at h ⊢
 split at h
 ·rename_i hf
  rw [if_pos hf]
  have:=Jeo hf
  exact ⟨this.1,this.2.2.1⟩
 ·rename_i hf
  rw [if_neg hf,if_neg (by omega)]
  rw [if_neg (by omega)] at h
  have:=Jf7 h
  exact ⟨this.1,this.2.2.1⟩
theorem Jcl:∀ (f:Nat) (s:List UInt8) (i:Nat) (p:List Step),0<i→i≤s.length→p.length≤20→∃ q,(K3 s f i p).1=p ++ q∧(∀ x∈q,Fs x)∧(K3 s f i p).1.length≤20∧s.drop i=Hh q ++ s.drop (K3 s f i p).2∧(K3 s f i p).2≤s.length
 | 0,s,i,p,_,hi,hp=>⟨[],by simp [K3],by simp,by simpa [K3] using hp,by simp [K3,Hh],by simpa [K3] using hi⟩
 | f+1,s,i,p,h0,hi,hp=>by
  rw [K3]
  split
  ·rename_i hc
   obtain ⟨c1,c2,c3⟩:=hc
   obtain ⟨g1,g2⟩:=Jlu h0 c3
   have hle:=Jd0 hi
   obtain ⟨q,k1,k2,k3,k4,k5⟩:=Jcl f s (i+(Jo s i).2) (p ++ [(Jo s i).1]) (by omega) hle (by simp;omega)
   refine ⟨(Jo s i).1 :: q,by rw [k1];simp,fun x hx=>?_,k3,?_,k5⟩
   ·rcases List.mem_cons.1 hx with rfl | hx
    ·exact g1
    ·exact k2 x hx
   ·have e:Hh ((Jo s i).1 :: q)=Hs (Jo s i).1 ++ Hh q:=rfl
    rw [e,← g2,List.append_assoc,← k4,← List.drop_drop,List.take_append_drop]
  ·exact ⟨[],by simp,by simp,hp,by simp [Hh],hi⟩
theorem Jfw {s:List UInt8} (h:(Ks s).2.2=0):(Ks s).2.1=0∧Vd (Ks s).1∧Rt (Ks s).1=s:=by
 unfold Ks at h ⊢
 by_cases h1:s=[46]
 ·rw [if_pos h1]
  exact ⟨rfl,⟨by simp,by simp⟩,by rw [h1];rfl⟩
 ·rw [if_neg h1] at h ⊢
  split at h
  ·cases h
  ·rename_i hc
   rw [if_neg hc]
   simp only [not_or,Nat.not_lt] at hc
   obtain ⟨c1,c2⟩:=hc
   refine ⟨rfl,?_⟩
   simp only
   unfold V4 at c1 c2 ⊢
   rw [K3] at c1 c2 ⊢
   split at c2
   ·rename_i hd
    rw [if_pos hd] at c1 ⊢
    obtain ⟨d1,_,d3⟩:=hd
    have hle:=Jd0 (s:=s) (i:=0) (Nat.zero_le _)
    obtain ⟨q,k1,k2,k3,k4,k5⟩:=Jcl s.length s (0+(Jo s 0).2) ([] ++ [(Jo s 0).1]) (by omega) hle (by simp)
    have hend:(K3 s s.length (0+(Jo s 0).2) ([] ++ [(Jo s 0).1])).2=s.length:=by omega
    rw [hend,List.drop_length,List.append_nil] at k4
    rw [k1] at k3 ⊢
    simp only [List.nil_append,List.cons_append,Nat.zero_add] at *
    unfold Jo at d3 k4 k3 ⊢
    simp only [List.drop_zero] at d3 k4 k3 ⊢
    by_cases hf:(Hn s).2≠0
    ·rw [if_pos hf] at k4 k3 ⊢
     obtain ⟨f1,f2,f3,_⟩:=Jeo hf
     refine ⟨⟨k3,fun x hx=>?_⟩,?_⟩
     ·rcases List.mem_cons.1 hx with rfl | hx
      ·exact f1
      ·exact k2 x hx
     ·unfold Rt
      simp only
      rw [if_neg (by rw [f2];simp)]
      have e:Hh ((Hn s).1 :: q)=Hs (Hn s).1 ++ Hh q:=rfl
      rw [e,← f3,← k4,List.take_append_drop]
    ·rw [if_neg hf,if_pos trivial] at d3 k4 k3 ⊢
     split at d3
     ·rename_i hp
      rw [if_pos hp] at k4 k3 ⊢
      obtain ⟨p1,p2⟩:=hp
      obtain ⟨f1,f2,f3,_⟩:=Jf7 p2
      obtain ⟨r,rfl⟩:∃ r,s=46 :: r:=by
       cases s with
       | nil=>simp at p1
       | cons c r=>simp at p1;exact ⟨r,by rw [p1]⟩
      simp only [List.drop_succ_cons,List.drop_zero] at *
      refine ⟨⟨k3,fun x hx=>?_⟩,?_⟩
      ·rcases List.mem_cons.1 hx with rfl | hx
       ·exact f1
       ·exact k2 x hx
      ·unfold Rt
       simp only
       rw [if_pos f2]
       have e:Hh ((Ip r).1 :: q)=Hs (Ip r).1 ++ Hh q:=rfl
       rw [e,← f3,← k4,List.take_append_drop]
     ·exact absurd rfl d3
   ·simp at c2
theorem Jgj {s:List UInt8} (h:(Ks s).2.2≠0):(Ks s).2.2=1∧(Ks s).1=[]∧(Ks s).2.1≤s.length:=by
 unfold Ks at h ⊢
 by_cases h1:s=[46]
 ·rw [if_pos h1] at h;exact absurd rfl h
 ·rw [if_neg h1] at h ⊢
  split at h
  ·rename_i hc
   rw [if_pos hc]
   refine ⟨rfl,rfl,?_⟩
   have key:∀ (f i:Nat) (p:List Step),i≤s.length→(K3 s f i p).2≤s.length:=by
    intro f
    induction f with
    | zero=>intro i p hi;exact hi
    | succ f ih =>
     intro i p hi
     rw [K3]
     split
     ·exact ih _ _ (Jd0 hi)
     ·exact hi
   exact key _ _ _ (Nat.zero_le _)
  ·exact absurd rfl h
end Go.LX
set_option maxRecDepth 100000
set_option maxHeartbeats 2000000
namespace Go.LX
open Go Go.RowKit Go.Proofs
attribute [local irreducible] Bz SWP Gm
end Go.LX
set_option maxRecDepth 100000
set_option maxHeartbeats 2000000
namespace Go.LX
open Go Go.RowKit Go.Proofs
attribute [local irreducible] Bz SWP Gm
def tOne:Tree:=.mk 2 [] false 0 .nil
def tTwo:Tree:=.mk 5 [] false 0 (.cons [] tOne (.cons [] tOne .nil))
def tObj:Tree:=.mk 6 [] false 0 (.cons [97] tTwo .nil)
def tSet:Tree:=.mk 6 [] false 0 (.cons [97] tOne .nil)
def ndL (k m:Int) (nm:List UInt8):List PV:=[.int .i64 k,.int .i64 m,.str nm,.str [],.bool false,.int .i64 0]
theorem vOne:valL (tOne.enc [])=[ndL 2 0 []]:=by simp [tOne,Ga,Jf,valL,Node.cells,ndL,Forest.len]
theorem vTwo:valL (tTwo.enc [])=[ndL 5 2 [],ndL 2 0 [],ndL 2 0 []]:=by simp [tTwo,tOne,Ga,Er,Jf,valL,Node.cells,ndL,Forest.len]
theorem vObj:valL (tObj.enc [])=[ndL 6 1 [],ndL 5 2 [97],ndL 2 0 [],ndL 2 0 []]:=by simp [tObj,tTwo,tOne,Ga,Er,Jf,valL,Node.cells,ndL,Forest.len]
theorem vSet:valL (tSet.enc [])=[ndL 6 1 [],ndL 2 0 [97]]:=by simp [tSet,tOne,Ga,Er,Jf,valL,Node.cells,ndL,Forest.len]
theorem vNil:valL ((Tree.mk 6 [] false 0 .nil).enc [])=[ndL 6 0 []]:=by simp [Ga,Jf,valL,Node.cells,ndL,Forest.len]
theorem Jq9:okT tOne:=by unfold tOne;rw [Jb1];exact ⟨by decide,Jl0 _,Ja9⟩
theorem okTwo:okT tTwo:=by
 unfold tTwo;rw [Jb1]
 refine ⟨by decide,⟨fun _ p hp=>?_,fun p hp=>?_,by simp⟩,W9.2 ⟨Jq9,W9.2 ⟨Jq9,Ja9⟩⟩⟩
 ·simp [Forest.list] at hp;rcases hp with rfl | rfl <;> rfl
 ·simp [Forest.list] at hp;rcases hp with rfl | rfl <;> decide +kernel
theorem okObj:okT tObj:=by
 unfold tObj;rw [Jb1]
 refine ⟨by decide,⟨by simp,fun p hp=>?_,fun _=>List.pairwise_singleton _ _⟩,W9.2 ⟨okTwo,Ja9⟩⟩
 simp [Forest.list] at hp;subst hp;decide +kernel
def pA:List Step:=[⟨false,[97],0⟩,⟨true,[],0⟩,⟨false,[98,32,99],0⟩]
def sA:List UInt8:=[46,97,91,48,93,46,34,98,32,99,34]
theorem okA:∀ x∈pA,Fs x:=by
 intro x hx
 simp [pA] at hx
 rcases hx with rfl | rfl | rfl <;> (unfold Fs;decide +kernel)
theorem lenA:∀ x∈pA,x.name.length≤1000:=by
 intro x hx
 simp [pA] at hx
 rcases hx with rfl | rfl | rfl <;> simp
theorem txA:Rt pA=sA:=by decide +kernel
theorem rdA:Ks sA=(pA,0,0):=by rw [← txA];exact Je0 ⟨by simp [pA],okA⟩
theorem rdB:Ks [46,97,46]=([],2,1):=by decide +kernel
def lA:List (List PV):=[[.bool false,.str [97],.int .i64 0],[.bool true,.str [],.int .i64 0],[.bool false,.str [98,32,99],.int .i64 0]]
theorem c_readA:Det cx 16 [.p (.str sA)] [] (.tup [.sl lA,.int .i64 0,.int .i64 0]) []:=by
 have:=Jht sA (by decide)
 rw [rdA] at this;exact this
theorem Joc:Det cx 16 [.p (.str [46,97,46])] [] (.tup [.sl [],.int .i64 2,.int .i64 1]) []:=by
 have:=Jht [46,97,46] (by decide)
 rw [rdB] at this;exact this
theorem c_list:Det cx 46 [.p (.sl [[.sl [ndL 2 0 []]],[.sl [ndL 2 0 []]]])] [] (.p (.sl [ndL 5 2 [],ndL 2 0 [],ndL 2 0 []])) []:=by
 have:=Jpl [([],tOne),([],tOne)] (by simp [unn,Dz,Er,Jf,tOne,Ga])
 rw [show El [([],tOne),([],tOne)]=[[.sl (valL (tOne.enc []))],[.sl (valL (tOne.enc []))]] from rfl,vOne,show Tree.mk 5 [] false 0 (Dz (unn [([],tOne),([],tOne)]))=tTwo from rfl,vTwo] at this
 exact this
theorem c_with:Det cx 45 [.p (.sl [ndL 6 0 []]),.p (.str [97]),.p (.sl [ndL 5 2 [],ndL 2 0 [],ndL 2 0 []])] [] (.p (.sl [ndL 6 1 [],ndL 5 2 [97],ndL 2 0 [],ndL 2 0 []])) []:=by
 have:=Jo6 [] [] false 0 .nil [97] tTwo (by simp [Jf]) (by rw [← Iz,vTwo];simp) .nil (by simp [Forest.list]) (by simp [Forest.list]) (by simp) (by decide +kernel)
 rw [vNil,vTwo,show Tree.mk 6 [] false 0 (Dz (putL [97] tTwo (E0 [97] Forest.nil.list)))=tObj from rfl,vObj] at this
 exact this
theorem c_get:Det cx 24 [.p (.sl [[.bool false,.str [97],.int .i64 0],[.bool true,.str [],.int .i64 1]]),.p (.sl [ndL 6 1 [],ndL 5 2 [97],ndL 2 0 [],ndL 2 0 []])] [] (.tup [.sl [ndL 2 0 []],.int .i64 0]) []:=by
 have:=d_Get [⟨false,[97],0⟩,⟨true,[],1⟩] tObj (by simp) (by
  intro x hx
  simp at hx
  rcases hx with rfl | rfl <;> (unfold Fs;decide +kernel)) (by rw [← Iz,vObj];simp)
 rw [vObj,show getT [⟨false,[97],0⟩,⟨true,[],1⟩] tObj=.ok tOne from rfl] at this
 unfold getR at this
 simp only [vOne] at this
 exact this
theorem c_set:Det cx 26 [.p (.sl [[.bool false,.str [97],.int .i64 0]]),.p (.sl [ndL 6 1 [],ndL 5 2 [97],ndL 2 0 [],ndL 2 0 []]),.p (.sl [ndL 2 0 []])] [] (.tup [.sl [ndL 6 1 [],ndL 2 0 [97]],.int .i64 0]) []:=by
 have:=d_Set [⟨false,[97],0⟩] tObj tOne (by simp) (by
  intro x hx
  simp at hx
  subst hx;unfold Fs;decide +kernel) okObj Jq9 (by rw [← Iz,vObj,← Iz,vOne];simp)
 rw [vObj,show setT [⟨false,[97],0⟩] tObj tOne=.ok tSet from rfl] at this
 unfold getR at this
 simp only [vOne,vSet] at this
 exact this
theorem c_text:Det cx 21 [.p (.sl lA)] [] (.p (.str sA)) []:=by
 have:=Jlr pA (by simp [pA]) okA lenA
 rw [txA] at this;exact this
theorem c_same:Det cx 28 [.p (.sl [ndL 2 0 []]),.p (.sl [ndL 2 0 []])] [] (.p (.bool true)) []:=by
 have:=Jqi (tOne.enc []) (tOne.enc []) (by rw [← Iz,vOne];simp) (by rw [← Iz,vOne];simp)
 rw [vOne,decide_eq_true rfl] at this;exact this
theorem c_right:Det cx 19 [.p (.sl lA)] [] (.p (.bool true)) []:=by
 have:=d_Right pA (fun x hx=>by have:=lenA x hx;omega)
 rw [decide_eq_true (show Vd pA from ⟨by simp [pA],okA⟩)] at this
 exact this
theorem c_apart:Det cx 29 [.p (.sl lA),.p (.sl [[.bool false,.str [98],.int .i64 0]])] [] (.p (.bool true)) []:=by
 have:=d_Apart pA [⟨false,[98],0⟩] (by simp [pA]) (by simp) (fun x hx=>by have:=lenA x hx;omega) (by simp)
 rw [Jf8,show Mf pA [⟨false,[98],0⟩]=true from by decide +kernel] at this
 exact this
theorem Nt:Det cx 15 [] [] (.p (.bool true)) []:=by
 have r1:=c_readA
 have r2:=c_list
 have r3:=c_with
 have r4:=c_get
 have r5:=c_set
 have r6:=c_text
 have r7:=c_same
 have r8:=c_right
 have r9:=c_apart
 unfold sA at r1 r6
 unfold lA at r1 r6 r8 r9
 unfold ndL at r2 r3 r4 r5 r7
 (refine Bz.of_code (X:=cx) false [] (by simp) Tryz.func15 (by kernel_rfl) rfl (by simp only [List.length_nil,Tryz.ntmps15];decide) (by simp) ?_;refine Ax hm _ _ _ ?_;simp only [Tryz.ntmps15,Tryz.results15,Ah,Bn,Ab,Bd,A0,Bb,Az,Ce,C0,Hc,Ai,Cc,Ag,Ae,A3,Cd,Bv,Bm,Bx,Bw,A5,B3,Bi,Ay,A4,Cj,Ad,argW,List.map_cons,List.map_nil,List.append_nil,List.flatMap_cons,List.flatMap_nil,Nat.reduceEqDiff,Ca,Bu,↓reduceIte])
 (repeat' (first | (refine iteI (fun h=>?_) (fun h=>?_))|(refine B2 (by first | omega | (simp (disch:=omega) only [Aa,Ak,Aj] at *;omega)) ?_;intro b hb)|(refine And.intro (by first | omega | (simp (disch:=omega) only [Aa,Ak,Aj] at *;omega)) ?_)|((first | (refine A9 hm (by rfl) (by kernel_rfl) ?_)|(refine Det.use (r1) ?_)|(refine Det.useQ (r1) ?_)|(refine Ec.use (r1) ?_)|(refine C7.use (r1) ?_)|(refine Det.use (Joc) ?_)|(refine Det.useQ (Joc) ?_)|(refine Det.use (r2) ?_)|(refine Det.useQ (r2) ?_)|(refine Ec.use (r2) ?_)|(refine C7.use (r2) ?_)|(refine Det.use (r3) ?_)|(refine Det.useQ (r3) ?_)|(refine Ec.use (r3) ?_)|(refine C7.use (r3) ?_)|(refine Det.use (r4) ?_)|(refine Det.useQ (r4) ?_)|(refine Ec.use (r4) ?_)|(refine C7.use (r4) ?_)|(refine Det.use (r5) ?_)|(refine Det.useQ (r5) ?_)|(refine Ec.use (r5) ?_)|(refine C7.use (r5) ?_)|(refine Det.use (r6) ?_)|(refine Det.useQ (r6) ?_)|(refine Ec.use (r6) ?_)|(refine C7.use (r6) ?_)|(refine Det.use (r7) ?_)|(refine Det.useQ (r7) ?_)|(refine Ec.use (r7) ?_)|(refine C7.use (r7) ?_)|(refine Det.use (r8) ?_)|(refine Det.useQ (r8) ?_)|(refine Ec.use (r8) ?_)|(refine C7.use (r8) ?_)|(refine Det.use (r9) ?_)|(refine Det.useQ (r9) ?_)|(refine Ec.use (r9) ?_)|(refine C7.use (r9) ?_));simp only [Ah,Bn,Cn,Ab,Bd,A0,Dq,Bb,Ep,Cs,Be,Az,Ce,C0,Cb,Hc,Ba,Ai,B8,Em,Es,N0,Eg,Di,Cc,Bp,Bg,C6,D6,Du,D4,Av,F4,B0,Aq,H0,Pz,D9,D0,He,K7,En,L6,N1,Kd,Lh,Uh,N7,Tf,Cr,Gj,Lz,Ag,Ae,A3,F8,Gq,Fk,Gs,Cd,Bv,Bm,Bx,Bw,A5,Bq,B3,Fc,Bi,Ay,A4,Ib,Jm,Ii,Dh,Jl,Gz,G8,Ha,G6,H7,H1,Bt,Cy,Cz,A7,A8,B9,Aw,Ao,Al,B5,B6,Af,Am,Ap,Cl,A1,Ar,B1,Cw,D8,Dv,Fv,Nj,E6,Ky,F5,Jg,J8,Hy,Cj,Ds,Fl,Db,Hf,A2,Ad,Ac,Bl,Dc,Bf,A6,List.map_cons,List.map_nil,List.getD_cons_zero,List.getD_cons_succ,List.length_cons,List.length_nil,List.append_nil,List.flatMap_cons,List.flatMap_nil,List.take_succ_cons,List.take_nil,List.drop_zero,List.set_cons_zero,List.set_cons_succ,List.getElem?_cons_zero,List.getElem?_cons_succ,beq_iff_eq,Nat.reduceLT,Nat.reduceLeDiff,Nat.reduceEqDiff,Nat.reduceAdd,Nat.reduceMul,true_and,and_true,Ca,Bu,↓reduceIte,Nat.zero_add,L.p.injEq,PV.bool.injEq,Bool.false_eq_true,Bool.true_and,Bool.and_true,Bool.or_true,beq_self_eq_true,and_self,Mj,Nr,Kw,I9,Kl,Qb,Jk,O1,Ld,Jq,J4,Na,Va,Lk,K1,Yj,Rr])|(exact True.intro)|(exfalso;omega)))
end Go.LX
