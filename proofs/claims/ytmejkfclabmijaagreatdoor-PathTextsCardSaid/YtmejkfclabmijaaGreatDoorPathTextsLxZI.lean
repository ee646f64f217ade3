/- Paths: texts, there and back: plain laws. -/
import Derived.Test.YtmejkfclabmijaaGreatDoorPathTextsLxX
import Derived.Test.YtmejkfclabmijaaGreatDoorPathTextsLxZ
import Derived.Test.YtmejkfclabmijaaGreatDoorPathTextsLxZH
import Derived.Test.YtmejkfclabmijaaGreatDoorPathTextsLxZA
set_option linter.unusedSimpArgs false
set_option linter.unusedVariables false
set_option linter.unusedSectionVars false
set_option linter.unnecessarySimpa false
set_option maxRecDepth 100000
set_option maxHeartbeats 2000000
namespace Go.LX
open Go Go.RowKit Go.Proofs
attribute [local irreducible] B2 SWP Hb
theorem Jdd {s:List UInt8} {m:Nat} (h1:m≤s.length) (h2:∀ j,j<m→Pp s j) (h3:m<s.length→¬ Pp s m):Kw s=m:=by
 have hle:=Sz s
 rcases Nat.lt_trichotomy (Kw s) m with h | h | h
 ·exact absurd (h2 _ h) (Xq (by omega))
 ·exact h
 ·exact absurd (P1 h) (h3 (by omega))
def Ji8 (r:List UInt8):Prop:=∀ c q,r=c :: q→c=46∨c=91
theorem Jbh (p:List Step):Ji8 (Hd p):=by
 intro c q h
 cases p with
 | nil=>cases h
 | cons x p =>
  have h':Hh x ++ Hd p=c :: q:=h
  unfold Hh at h'
  split at h'
  ·exact .inr (List.cons.inj h').1.symm
  ·split at h'
   ·exact .inl (List.cons.inj h').1.symm
   ·exact .inl (List.cons.inj h').1.symm
theorem Jro {nm:List UInt8} (h:isWd nm) {j:Nat} (hj:j<nm.length):Pp nm j:=P1 (by rw [h.2];exact hj)
theorem Jqj {a b:List UInt8} {j:Nat} (h:j<a.length):Pp (a ++ b) j ↔ Pp a j:=by unfold Pp;rw [Jkk h]
theorem Jq2 {nm r:List UInt8} (h:isWd nm) (hr:Ji8 r):Kw (nm ++ r)=nm.length:=by
 refine Jdd (by simp) (fun j hj=>(Jqj hj).2 (Jro h hj)) fun hl=>?_
 rw [List.length_append] at hl
 unfold Pp
 rw [Jhs (Nat.le_refl _),Nat.sub_self]
 cases r with
 | nil=>simp at hl
 | cons c q =>
  rcases hr c q rfl with rfl | rfl
  ·rw [R5];unfold letP figP;simp
  ·rw [R5];unfold letP figP;simp
theorem Jgi {c:UInt8} {r:List UInt8} (h:¬ letP c.toNat):Kw (c :: r)=0:=by
 refine Jdd (Nat.zero_le _) (fun j hj=>by omega) fun _=>?_
 unfold Pp
 rw [R5]
 rintro (h' | h')
 ·exact h h'
 ·omega
theorem Jf7 {x:Step} (hp:x.part=false) (hok:Fw x) {r:List UInt8} (hr:Ji8 r):Gz (Hh x ++ r)=(x,(Hh x).length):=by
 obtain ⟨part,nm,n⟩:=x
 simp only at hp;subst hp
 unfold Fw at hok
 rw [if_neg (by simp)] at hok
 obtain ⟨h1,h2⟩:=hok
 simp only at h1 h2;subst h1
 unfold Hh
 rw [if_neg (by simp)]
 by_cases hw:isWd nm
 ·rw [if_pos hw]
  unfold Gz
  have hl:0<nm.length:=by have:=hw.1;cases nm <;> simp at this ⊢
  simp only [List.cons_append,List.take_succ_cons,List.take_zero,List.drop_succ_cons,List.drop_zero,if_true]
  rw [Jq2 hw hr,if_pos hl,List.take_left]
  rfl
 ·rw [if_neg hw]
  unfold Gz
  simp only [List.cons_append,List.take_succ_cons,List.take_zero,List.drop_succ_cons,List.drop_zero,if_true]
  have h0:Kw (refQ nm ++ r)=0:=Jgi (c:=34) (r:=wrs nm ++ [34] ++ r) (by unfold letP;simp)
  rw [h0,if_neg (by omega),Jpw h2 r,if_neg]
  ·rfl
  ·simp only [ne_eq,List.take_left,not_true_eq_false,or_false,false_or]
   exact hw
theorem Jkd:∀ (k m:Nat),m<10 ^ (k+1)→(Lib.decDigits m).length≤k+1
 | 0,m,h=>by
  rw [Qc,if_pos (by simpa using h)];simp
 | k+1,m,h=>by
  rw [Qc]
  split
  ·simp
  ·have:=Jkd k (m / 10) (by rw [Nat.pow_succ] at h;omega)
   rw [List.length_append];simp;omega
theorem dg_93:¬ isDg (93:UInt8).toNat:=by unfold isDg;simp
theorem Jf9 {x:Step} (hp:x.part=true) (hok:Fw x) (r:List UInt8):Iv (Hh x ++ r)=(x,(Hh x).length):=by
 obtain ⟨part,nm,n⟩:=x
 simp only at hp;subst hp
 unfold Fw at hok
 rw [if_pos rfl] at hok
 obtain ⟨h1,h2,h3⟩:=hok
 simp only at h1 h2 h3;subst h1
 obtain ⟨m,rfl⟩:∃ m:Nat,n=m:=⟨n.toNat,by omega⟩
 unfold Hh
 rw [if_pos rfl]
 simp only [Lib.itoa_nonneg,List.cons_append,List.append_assoc,List.nil_append]
 have hl7:(Lib.decDigits m).length≤7:=Jkd 6 m (by omega)
 have hd:dgR 7 (Lib.decDigits m ++ 93 :: r)=Lib.decDigits m:=Jmf _ _ 7 (Jj1 m) hl7 fun c q h=>by
  cases h;exact dg_93
 have:=Jdx (r:=Lib.decDigits m ++ 93 :: r) (by rw [hd];exact Y5 m) (by
  rw [hd]
  rintro ⟨g1,g2⟩
  cases hdd:Lib.decDigits m with
  | nil=>exact Y5 m hdd
  | cons c q =>
   rw [hdd,List.cons_append,R5] at g1
   have:=(Jf8 m c q hdd g1).1
   subst this
   rw [hdd] at g2;simp at g2) (by rw [hd,Jdj];omega) (by rw [hd];simp)
 rw [this,hd,Jdj]
 congr 1
 simp
theorem uq_no {c:UInt8} {r:List UInt8} (h:c≠34):uq (c :: r)=([],0,1):=by
 have h0:at_ (c :: r) 0≠34:=by
  rw [R5]
  exact fun e=>h (UInt8.toNat_inj.1 e)
 unfold uq
 rw [if_pos (.inr h0)]
theorem Jmb {r:List UInt8}:Gz (46 :: 91 :: r)=(J6,0):=by
 unfold Gz
 simp only [List.take_succ_cons,List.take_zero,List.drop_succ_cons,List.drop_zero,if_true]
 rw [Jgi (by unfold letP;simp),if_neg (by omega),uq_no (by decide)]
 simp
theorem Jrz {r:List UInt8}:Gz (91 :: r)=(J6,0):=by
 unfold Gz
 rw [if_neg (by simp)]
theorem Jfl {x:Step} (hp:x.part=true):∃ r,Hh x=91 :: r:=by
 unfold Hh;rw [if_pos hp];exact ⟨_,rfl⟩
theorem Jrj {s:List UInt8} {i:Nat} {x:Step} {r:List UInt8} (hi:0<i) (hok:Fw x) (hr:Ji8 r) (h:s.drop i=Hh x ++ r):I8 s i=(x,(Hh x).length):=by
 have hpos:=Wh x
 unfold I8
 rw [h]
 cases hp:x.part with
 | false =>
  rw [Jf7 hp hok hr,if_pos (by simp only;omega)]
 | true =>
  obtain ⟨q,hq⟩:=Jfl hp
  have e:Gz (Hh x ++ r)=(J6,0):=by rw [hq];exact Jrz
  rw [e,if_neg (by simp),if_neg (by omega),Jf9 hp hok r]
theorem Zr:∀ (q:List Step) (s:List UInt8) (f i:Nat) (p:List Step),s.drop i=Hd q→i≤s.length→0<i→p.length+q.length≤20→(∀ x∈q,Fw x)→q.length≤f→Kd s f i p=(p ++ q,s.length)
 | [],s,f,i,p,h,hi,_,_,_,_=>by
  have hl:=congrArg List.length h
  simp [Hd] at hl
  rw [Ow (by omega),List.append_nil]
  congr 1;omega
 | x :: q,s,0,i,p,_,_,_,_,_,hf=>by simp at hf
 | x :: q,s,f+1,i,p,h,hi,h0,hl,hok,hf=>by
  have h':s.drop i=Hh x ++ Hd q:=h
  have hx:=hok x List.mem_cons_self
  have hn:=Jrj h0 hx (Jbh q) h'
  have hpos:=Wh x
  have hlen:=congrArg List.length h'
  rw [List.length_drop,List.length_append] at hlen
  simp only [List.length_cons] at hl hf
  rw [Kd,if_pos ⟨by omega,by omega,by rw [hn];simp only;omega⟩,hn]
  simp only
  rw [Zr q s f (i+(Hh x).length) (p ++ [x]) (by rw [← List.drop_drop,h',List.drop_left]) (by omega) (by omega) (by simp;omega) (fun y hy=>hok y (List.mem_cons_of_mem _ hy)) (by omega)]
  simp
theorem Jrl (p:List Step):p.length≤(Hd p).length:=by
 induction p with
 | nil=>exact Nat.le_refl _
 | cons x p ih =>
  have:=Wh x
  have e:Hd (x :: p)=Hh x ++ Hd p:=rfl
  rw [e,List.length_append,List.length_cons];omega
theorem Jqo {x:Step} (hok:Fw x):2≤(Hh x).length:=by
 unfold Hh
 split
 ·simp
 ·split
  ·rename_i h
   have:=h.1
   cases hn:x.name with
   | nil=>exact absurd hn this
   | cons c r=>simp
  ·have:=Jec x.name
   simp;omega
theorem Jqt {p:List Step} (h:Vf p):Kp (Tk p)=(p,0,0):=by
 obtain ⟨hl,hok⟩:=h
 cases p with
 | nil=>rfl
 | cons x q =>
  have hx:=hok x List.mem_cons_self
  have h2:=Jqo hx
  have hq:=Jrl q
  simp only [List.length_cons] at hl
  have e:Hd (x :: q)=Hh x ++ Hd q:=rfl
  cases hp:x.part with
  | false =>
   have hT:Tk (x :: q)=Hh x ++ Hd q:=by
    show (if x.part=true then _ else _)=_
    rw [if_neg (by rw [hp];simp),e]
   rw [hT]
   unfold Kp
   have hne:Hh x ++ Hd q≠[46]:=fun e=>by
    have:=congrArg List.length e
    rw [List.length_append] at this
    simp only [List.length_cons,List.length_nil] at this;omega
   have hL:N9 (Hh x ++ Hd q)=(x :: q,(Hh x ++ Hd q).length):=by
    have hn:I8 (Hh x ++ Hd q) 0=(x,(Hh x).length):=by
     unfold I8
     rw [List.drop_zero,Jf7 hp hx (Jbh q),if_pos (by simp only;omega)]
    unfold N9
    rw [Kd,if_pos ⟨by rw [List.length_append];omega,by simp,by rw [hn];simp only;omega⟩,hn]
    simp only [List.nil_append,Nat.zero_add]
    rw [Zr q _ _ _ [x] (by rw [List.drop_left]) (by rw [List.length_append];omega) (by omega) (by simp;omega) (fun y hy=>hok y (List.mem_cons_of_mem _ hy)) (by rw [List.length_append];omega)]
    rfl
   rw [if_neg hne,hL,if_neg (by simp)]
  | true =>
   have hT:Tk (x :: q)=46 :: (Hh x ++ Hd q):=by
    show (if x.part=true then _ else _)=_
    rw [if_pos hp,e]
   rw [hT]
   unfold Kp
   obtain ⟨z,hz⟩:=Jfl hp
   have hne:46 :: (Hh x ++ Hd q)≠[46]:=fun e=>by
    have:=congrArg List.length e
    rw [List.length_cons,List.length_append] at this
    simp only [List.length_cons,List.length_nil] at this;omega
   have hL:N9 (46 :: (Hh x ++ Hd q))=(x :: q,(46 :: (Hh x ++ Hd q)).length):=by
    have hn:I8 (46 :: (Hh x ++ Hd q)) 0=(x,(Hh x).length+1):=by
     have hf:Gz (46 :: (Hh x ++ Hd q))=(J6,0):=by rw [hz];exact Jmb
     unfold I8
     rw [List.drop_zero,hf,if_neg (by simp),if_pos rfl,List.drop_succ_cons,List.drop_zero,Jf9 hp hx,if_pos ⟨rfl,by simp only;omega⟩]
    unfold N9
    rw [Kd,if_pos ⟨by simp,by simp,by rw [hn];simp⟩,hn]
    simp only [List.nil_append,Nat.zero_add]
    rw [Zr q _ _ _ [x] (by rw [List.drop_succ_cons,List.drop_left]) (by simp) (by omega) (by simp;omega) (fun y hy=>hok y (List.mem_cons_of_mem _ hy)) (by simp;omega)]
    rfl
   rw [if_neg hne,hL,if_neg (by simp)]
theorem Jkj:∀ {s:List UInt8},(∀ c∈s,c.toNat<128)→valid s=true:=by
 intro s h
 refine Qq.2 ⟨s.map fun c=>(c.toNat:Int),?_,?_⟩
 ·intro r hr
  obtain ⟨c,hc,rfl⟩:=List.mem_map.1 hr
  have:=h c hc
  unfold Kq
  omega
 ·induction s with
  | nil=>rfl
  | cons c s ih =>
   rw [List.map_cons,Sv,← ih fun d hd=>h d (List.mem_cons_of_mem _ hd)]
   have hc:=h c List.mem_cons_self
   have:utf (c.toNat:Int)=[c]:=by
    unfold utf
    rw [Vv ⟨by omega,by omega⟩]
    have e:((c.toNat:Int) % 256).toNat=c.toNat:=by omega
    simp [u8of,e]
   rw [this];rfl
theorem Jjy {s:List UInt8} {j:Nat} (h:Pp s j):at_ s j<128:=by
 unfold Pp letP figP at h;omega
theorem Jdp {s:List UInt8} (h:(Gz s).2≠0):Fw (Gz s).1∧(Gz s).1.part=false∧s.take (Gz s).2=Hh (Gz s).1∧(Gz s).2≤s.length:=by
 have hle:=Zw s
 unfold Gz at h ⊢
 split at h
 case isFalse=>exact absurd rfl h
 rename_i h46
 rw [if_pos h46]
 obtain ⟨r,rfl⟩:∃ r,s=46 :: r:=by
  cases s with
  | nil=>simp at h46
  | cons c r=>simp at h46;exact ⟨r,by rw [h46]⟩
 simp only [List.drop_succ_cons,List.drop_zero] at h ⊢
 have hwl:=Sz r
 split at h
 ·rename_i hw
  rw [if_pos hw]
  have hwd:isWd (r.take (Kw r)):=by
   refine ⟨fun e=>?_,Jdd (Nat.le_refl _) (fun j hj=>?_) (fun h=>absurd h (Nat.lt_irrefl _))⟩
   ·have:=congrArg List.length e;rw [List.length_take,List.length_nil] at this;omega
   ·simp at hj
    have:=P1 (s:=r) (j:=j) (by omega)
    unfold Pp at this ⊢
    rw [Jpd (by omega)];exact this
  refine ⟨?_,rfl,?_,by simp;omega⟩
  ·unfold Fw
   rw [if_neg (by simp)]
   refine ⟨rfl,Jkj fun c hc=>?_⟩
   obtain ⟨j,hj,rfl⟩:=List.getElem_of_mem hc
   simp at hj
   have:=Jjy (P1 (s:=r) (j:=j) (by omega))
   rw [Jfg (by omega)] at this
   simpa using this
  ·unfold Hh
   rw [if_neg (by simp),if_pos hwd,List.take_succ_cons]
 ·rename_i hw
  rw [if_neg hw]
  split at h
  ·exact absurd rfl h
  ·rename_i hc
   rw [if_neg hc]
   simp only [not_or,ne_eq,Decidable.not_not] at hc
   obtain ⟨c1,c2,c3⟩:=hc
   have hg:=Jo7 c1
   refine ⟨?_,rfl,?_,by simp;omega⟩
   ·unfold Fw
    rw [if_neg (by simp)]
    exact ⟨rfl,hg.1⟩
   ·unfold Hh
    rw [if_neg (by simp),if_neg c2,List.take_succ_cons,c3]
theorem Jry {r:List UInt8} (h0:dgR 7 r≠[]) (h1:¬ (at_ r 0=48∧1<(dgR 7 r).length)):r.take (dgR 7 r).length=dgR 7 r∧Lib.decDigits (valD (dgR 7 r))=dgR 7 r:=by
 have hp:=Jh6 7 r
 have hall:=Jii 7 r
 generalize dgR 7 r=t at *
 have hlt:0<t.length:=List.length_pos_iff.2 h0
 have ha0:at_ t 0=at_ r 0:=by
  rw [hp];simp only [at_,List.getD_eq_getElem?_getD]
  rw [List.getElem?_take_of_lt (by omega)]
 exact ⟨hp.symm,(Xt (t.length - 1) t (by omega) hall (by rw [ha0];omega)).1⟩
theorem Jgs {s:List UInt8} (h:(Iv s).2≠0):Fw (Iv s).1∧(Iv s).1.part=true∧s.take (Iv s).2=Hh (Iv s).1∧(Iv s).2≤s.length:=by
 have hle:=Us s
 have h91:s.take 1=[91]:=by
  unfold Iv at h
  split at h
  ·rename_i hc;exact hc.1
  ·exact absurd rfl h
 obtain ⟨r,rfl⟩:∃ r,s=91 :: r:=by
  cases s with
  | nil=>simp at h91
  | cons c r=>simp at h91;exact ⟨r,by rw [h91]⟩
 obtain ⟨g1,g2,g3,g4⟩:=Jeg h
 have hf:=Jdx g1 g2 g3 g4
 have hlen:=Jb8 7 r
 rw [hf]
 rw [hf] at hle
 refine ⟨?_,rfl,?_,hle⟩
 ·unfold Fw
  rw [if_pos rfl]
  exact ⟨rfl,by simp only;omega,by simp only;omega⟩
 ·unfold Hh
  rw [if_pos rfl]
  simp only [Lib.itoa_nonneg]
  obtain ⟨hq,hcan⟩:=Jry g1 g2
  rw [hcan,List.take_succ_cons]
  congr 1
  rw [List.take_add_one,hq,g4]
  rfl
theorem Jmy {s:List UInt8} {i:Nat} (hi:0<i) (h:(I8 s i).2≠0):Fw (I8 s i).1∧(s.drop i).take (I8 s i).2=Hh (I8 s i).1:=by
 unfold I8 at h ⊢
 split at h
 ·rename_i hf
  rw [if_pos hf]
  have:=Jdp hf
  exact ⟨this.1,this.2.2.1⟩
 ·rename_i hf
  rw [if_neg hf,if_neg (by omega)]
  rw [if_neg (by omega)] at h
  have:=Jgs h
  exact ⟨this.1,this.2.2.1⟩
theorem Jef:∀ (f:Nat) (s:List UInt8) (i:Nat) (p:List Step),0<i→i≤s.length→p.length≤20→∃ q,(Kd s f i p).1=p ++ q∧(∀ x∈q,Fw x)∧(Kd s f i p).1.length≤20∧s.drop i=Hd q ++ s.drop (Kd s f i p).2∧(Kd s f i p).2≤s.length
 | 0,s,i,p,_,hi,hp=>⟨[],by simp [Kd],by simp,by simpa [Kd] using hp,by simp [Kd,Hd],by simpa [Kd] using hi⟩
 | f+1,s,i,p,h0,hi,hp=>by
  rw [Kd]
  split
  ·rename_i hc
   obtain ⟨c1,c2,c3⟩:=hc
   obtain ⟨g1,g2⟩:=Jmy h0 c3
   have hle:=Yz hi
   obtain ⟨q,k1,k2,k3,k4,k5⟩:=Jef f s (i+(I8 s i).2) (p ++ [(I8 s i).1]) (by omega) hle (by simp;omega)
   refine ⟨(I8 s i).1 :: q,by rw [k1];simp,fun x hx=>?_,k3,?_,k5⟩
   ·rcases List.mem_cons.1 hx with rfl | hx
    ·exact g1
    ·exact k2 x hx
   ·have e:Hd ((I8 s i).1 :: q)=Hh (I8 s i).1 ++ Hd q:=rfl
    rw [e,← g2,List.append_assoc,← k4,← List.drop_drop,List.take_append_drop]
  ·exact ⟨[],by simp,by simp,hp,by simp [Hd],hi⟩
theorem Jrp {s:List UInt8} (h:(Kp s).2.2=0):(Kp s).2.1=0∧Vf (Kp s).1∧Tk (Kp s).1=s:=by
 unfold Kp at h ⊢
 by_cases h1:s=[46]
 ·rw [if_pos h1]
  exact ⟨rfl,⟨by simp,by simp⟩,by rw [h1];rfl⟩
 ·rw [if_neg h1] at h ⊢
  split at h
  ·cases h
  ·rename_i hc
   rw [if_neg hc]
   simp only [not_or,Nat.not_lt] at hc
   obtain ⟨c1,c2⟩:=hc
   refine ⟨rfl,?_⟩
   simp only
   unfold N9 at c1 c2 ⊢
   rw [Kd] at c1 c2 ⊢
   split at c2
   ·rename_i hd
    rw [if_pos hd] at c1 ⊢
    obtain ⟨d1,_,d3⟩:=hd
    have hle:=Yz (s:=s) (i:=0) (Nat.zero_le _)
    obtain ⟨q,k1,k2,k3,k4,k5⟩:=Jef s.length s (0+(I8 s 0).2) ([] ++ [(I8 s 0).1]) (by omega) hle (by simp)
    have hend:(Kd s s.length (0+(I8 s 0).2) ([] ++ [(I8 s 0).1])).2=s.length:=by omega
    rw [hend,List.drop_length,List.append_nil] at k4
    rw [k1] at k3 ⊢
    simp only [List.nil_append,List.cons_append,Nat.zero_add] at *
    unfold I8 at d3 k4 k3 ⊢
    simp only [List.drop_zero] at d3 k4 k3 ⊢
    by_cases hf:(Gz s).2≠0
    ·rw [if_pos hf] at k4 k3 ⊢
     obtain ⟨f1,f2,f3,_⟩:=Jdp hf
     refine ⟨⟨k3,fun x hx=>?_⟩,?_⟩
     ·rcases List.mem_cons.1 hx with rfl | hx
      ·exact f1
      ·exact k2 x hx
     ·unfold Tk
      simp only
      rw [if_neg (by rw [f2];simp)]
      have e:Hd ((Gz s).1 :: q)=Hh (Gz s).1 ++ Hd q:=rfl
      rw [e,← f3,← k4,List.take_append_drop]
    ·rw [if_neg hf,if_pos trivial] at d3 k4 k3 ⊢
     split at d3
     ·rename_i hp
      rw [if_pos hp] at k4 k3 ⊢
      obtain ⟨p1,p2⟩:=hp
      obtain ⟨f1,f2,f3,_⟩:=Jgs p2
      obtain ⟨r,rfl⟩:∃ r,s=46 :: r:=by
       cases s with
       | nil=>simp at p1
       | cons c r=>simp at p1;exact ⟨r,by rw [p1]⟩
      simp only [List.drop_succ_cons,List.drop_zero] at *
      refine ⟨⟨k3,fun x hx=>?_⟩,?_⟩
      ·rcases List.mem_cons.1 hx with rfl | hx
       ·exact f1
       ·exact k2 x hx
      ·unfold Tk
       simp only
       rw [if_pos f2]
       have e:Hd ((Iv r).1 :: q)=Hh (Iv r).1 ++ Hd q:=rfl
       rw [e,← f3,← k4,List.take_append_drop]
     ·exact absurd rfl d3
   ·simp at c2
theorem Jqi {s:List UInt8} (h:(Kp s).2.2≠0):(Kp s).2.2=1∧(Kp s).1=[]∧(Kp s).2.1≤s.length:=by
 unfold Kp at h ⊢
 by_cases h1:s=[46]
 ·rw [if_pos h1] at h;exact absurd rfl h
 ·rw [if_neg h1] at h ⊢
  split at h
  ·rename_i hc
   rw [if_pos hc]
   refine ⟨rfl,rfl,?_⟩
   have key:∀ (f i:Nat) (p:List Step),i≤s.length→(Kd s f i p).2≤s.length:=by
    intro f
    induction f with
    | zero=>intro i p hi;exact hi
    | succ f ih =>
     intro i p hi
     rw [Kd]
     split
     ·exact ih _ _ (Yz hi)
     ·exact hi
   exact key _ _ _ (Nat.zero_le _)
  ·exact absurd rfl h
end Go.LX
set_option maxRecDepth 100000
set_option maxHeartbeats 2000000
namespace Go.LX
open Go Go.RowKit Go.Proofs
attribute [local irreducible] B2 SWP Hb
end Go.LX
set_option maxRecDepth 100000
set_option maxHeartbeats 2000000
namespace Go.LX
open Go Go.RowKit Go.Proofs
attribute [local irreducible] B2 SWP Hb
def tOne:Tree:=.mk 2 [] false 0 .nil
def tTwo:Tree:=.mk 5 [] false 0 (.cons [] tOne (.cons [] tOne .nil))
def tObj:Tree:=.mk 6 [] false 0 (.cons [97] tTwo .nil)
def tSet:Tree:=.mk 6 [] false 0 (.cons [97] tOne .nil)
def ndL (k m:Int) (nm:List UInt8):List PV:=[.int .i64 k,.int .i64 m,.str nm,.str [],.bool false,.int .i64 0]
theorem vOne:valL (tOne.enc [])=[ndL 2 0 []]:=by simp [tOne,Gx,J1,valL,Node.cells,ndL,Forest.len]
theorem vTwo:valL (tTwo.enc [])=[ndL 5 2 [],ndL 2 0 [],ndL 2 0 []]:=by simp [tTwo,tOne,Gx,E9,J1,valL,Node.cells,ndL,Forest.len]
theorem vObj:valL (tObj.enc [])=[ndL 6 1 [],ndL 5 2 [97],ndL 2 0 [],ndL 2 0 []]:=by simp [tObj,tTwo,tOne,Gx,E9,J1,valL,Node.cells,ndL,Forest.len]
theorem vSet:valL (tSet.enc [])=[ndL 6 1 [],ndL 2 0 [97]]:=by simp [tSet,tOne,Gx,E9,J1,valL,Node.cells,ndL,Forest.len]
theorem vNil:valL ((Tree.mk 6 [] false 0 .nil).enc [])=[ndL 6 0 []]:=by simp [Gx,J1,valL,Node.cells,ndL,Forest.len]
theorem Jr4:okT tOne:=by unfold tOne;rw [Jd5];exact ⟨by decide,Jm6 _,Jcb⟩
theorem okTwo:okT tTwo:=by
 unfold tTwo;rw [Jd5]
 refine ⟨by decide,⟨fun _ p hp=>?_,fun p hp=>?_,by simp⟩,Xz.2 ⟨Jr4,Xz.2 ⟨Jr4,Jcb⟩⟩⟩
 ·simp [Forest.list] at hp;rcases hp with rfl | rfl <;> rfl
 ·simp [Forest.list] at hp;rcases hp with rfl | rfl <;> decide +kernel
theorem okObj:okT tObj:=by
 unfold tObj;rw [Jd5]
 refine ⟨by decide,⟨by simp,fun p hp=>?_,fun _=>List.pairwise_singleton _ _⟩,Xz.2 ⟨okTwo,Jcb⟩⟩
 simp [Forest.list] at hp;subst hp;decide +kernel
def pA:List Step:=[⟨false,[97],0⟩,⟨true,[],0⟩,⟨false,[98,32,99],0⟩]
def sA:List UInt8:=[46,97,91,48,93,46,34,98,32,99,34]
theorem okA:∀ x∈pA,Fw x:=by
 intro x hx
 simp [pA] at hx
 rcases hx with rfl | rfl | rfl <;> (unfold Fw;decide +kernel)
theorem lenA:∀ x∈pA,x.name.length≤1000:=by
 intro x hx
 simp [pA] at hx
 rcases hx with rfl | rfl | rfl <;> simp
theorem txA:Tk pA=sA:=by decide +kernel
theorem rdA:Kp sA=(pA,0,0):=by rw [← txA];exact Jqt ⟨by simp [pA],okA⟩
theorem rdB:Kp [46,97,46]=([],2,1):=by decide +kernel
def lA:List (List PV):=[[.bool false,.str [97],.int .i64 0],[.bool true,.str [],.int .i64 0],[.bool false,.str [98,32,99],.int .i64 0]]
theorem c_readA:Det cx 16 [.p (.str sA)] [] (.tup [.sl lA,.int .i64 0,.int .i64 0]) []:=by
 have:=Jn8 sA (by decide)
 rw [rdA] at this;exact this
theorem Jpk:Det cx 16 [.p (.str [46,97,46])] [] (.tup [.sl [],.int .i64 2,.int .i64 1]) []:=by
 have:=Jn8 [46,97,46] (by decide)
 rw [rdB] at this;exact this
theorem c_list:Det cx 46 [.p (.sl [[.sl [ndL 2 0 []]],[.sl [ndL 2 0 []]]])] [] (.p (.sl [ndL 5 2 [],ndL 2 0 [],ndL 2 0 []])) []:=by
 have:=Jq9 [([],tOne),([],tOne)] (by simp [unn,Ej,E9,J1,tOne,Gx])
 rw [show E3 [([],tOne),([],tOne)]=[[.sl (valL (tOne.enc []))],[.sl (valL (tOne.enc []))]] from rfl,vOne,show Tree.mk 5 [] false 0 (Ej (unn [([],tOne),([],tOne)]))=tTwo from rfl,vTwo] at this
 exact this
theorem c_with:Det cx 45 [.p (.sl [ndL 6 0 []]),.p (.str [97]),.p (.sl [ndL 5 2 [],ndL 2 0 [],ndL 2 0 []])] [] (.p (.sl [ndL 6 1 [],ndL 5 2 [97],ndL 2 0 [],ndL 2 0 []])) []:=by
 have:=Jri [] [] false 0 .nil [97] tTwo (by simp [J1]) (by rw [← Js,vTwo];simp) .nil (by simp [Forest.list]) (by simp [Forest.list]) (by simp) (by decide +kernel)
 rw [vNil,vTwo,show Tree.mk 6 [] false 0 (Ej (putL [97] tTwo (Fg [97] Forest.nil.list)))=tObj from rfl,vObj] at this
 exact this
theorem c_get:Det cx 24 [.p (.sl [[.bool false,.str [97],.int .i64 0],[.bool true,.str [],.int .i64 1]]),.p (.sl [ndL 6 1 [],ndL 5 2 [97],ndL 2 0 [],ndL 2 0 []])] [] (.tup [.sl [ndL 2 0 []],.int .i64 0]) []:=by
 have:=d_Get [⟨false,[97],0⟩,⟨true,[],1⟩] tObj (by simp) (by
  intro x hx
  simp at hx
  rcases hx with rfl | rfl <;> (unfold Fw;decide +kernel)) (by rw [← Js,vObj];simp)
 rw [vObj,show getT [⟨false,[97],0⟩,⟨true,[],1⟩] tObj=.ok tOne from rfl] at this
 unfold getR at this
 simp only [vOne] at this
 exact this
theorem c_set:Det cx 26 [.p (.sl [[.bool false,.str [97],.int .i64 0]]),.p (.sl [ndL 6 1 [],ndL 5 2 [97],ndL 2 0 [],ndL 2 0 []]),.p (.sl [ndL 2 0 []])] [] (.tup [.sl [ndL 6 1 [],ndL 2 0 [97]],.int .i64 0]) []:=by
 have:=d_Set [⟨false,[97],0⟩] tObj tOne (by simp) (by
  intro x hx
  simp at hx
  subst hx;unfold Fw;decide +kernel) okObj Jr4 (by rw [← Js,vObj,← Js,vOne];simp)
 rw [vObj,show setT [⟨false,[97],0⟩] tObj tOne=.ok tSet from rfl] at this
 unfold getR at this
 simp only [vOne,vSet] at this
 exact this
theorem c_text:Det cx 21 [.p (.sl lA)] [] (.p (.str sA)) []:=by
 have:=Js6 pA (by simp [pA]) okA lenA
 rw [txA] at this;exact this
theorem c_same:Det cx 28 [.p (.sl [ndL 2 0 []]),.p (.sl [ndL 2 0 []])] [] (.p (.bool true)) []:=by
 have:=Jrw (tOne.enc []) (tOne.enc []) (by rw [← Js,vOne];simp) (by rw [← Js,vOne];simp)
 rw [vOne,decide_eq_true rfl] at this;exact this
theorem c_right:Det cx 19 [.p (.sl lA)] [] (.p (.bool true)) []:=by
 have:=Jpo pA (fun x hx=>by have:=lenA x hx;omega)
 rw [decide_eq_true (show Vf pA from ⟨by simp [pA],okA⟩)] at this
 exact this
theorem c_apart:Det cx 29 [.p (.sl lA),.p (.sl [[.bool false,.str [98],.int .i64 0]])] [] (.p (.bool true)) []:=by
 have:=d_Apart pA [⟨false,[98],0⟩] (by simp [pA]) (by simp) (fun x hx=>by have:=lenA x hx;omega) (by simp)
 rw [Jgx,show M0 pA [⟨false,[98],0⟩]=true from by decide +kernel] at this
 exact this
theorem Qm:Det cx 15 [] [] (.p (.bool true)) []:=by
 have r1:=c_readA
 have r2:=c_list
 have r3:=c_with
 have r4:=c_get
 have r5:=c_set
 have r6:=c_text
 have r7:=c_same
 have r8:=c_right
 have r9:=c_apart
 unfold sA at r1 r6
 unfold lA at r1 r6 r8 r9
 unfold ndL at r2 r3 r4 r5 r7
 (refine B2.of_code (X:=cx) false [] (by simp) Tryz.func15 (by kernel_rfl) rfl (by simp only [List.length_nil,Tryz.ntmps15];decide) (by simp) ?_;refine Ax hm _ _ _ ?_;simp only [Tryz.ntmps15,Tryz.results15,Ah,Bm,Ab,Bd,A1,Bc,A0,Ch,Cw,F6,Aj,Cg,Ag,Ae,A3,Cf,Bv,Bi,Bz,Bx,A4,B6,Bh,Az,A5,Cl,Ad,argW,List.map_cons,List.map_nil,List.append_nil,List.flatMap_cons,List.flatMap_nil,Nat.reduceEqDiff,Cc,Bw,↓reduceIte])
 (repeat' (first | (refine iteI (fun h=>?_) (fun h=>?_))|(refine B1 (by first | omega | (simp (disch:=omega) only [Aa,Ak,Ai] at *;omega)) ?_;intro b hb)|(refine And.intro (by first | omega | (simp (disch:=omega) only [Aa,Ak,Ai] at *;omega)) ?_)|((first | (refine Ba hm (by rfl) (by kernel_rfl) ?_)|(refine Det.use (r1) ?_)|(refine Det.useQ (r1) ?_)|(refine Er.use (r1) ?_)|(refine Dp.use (r1) ?_)|(refine Det.use (Jpk) ?_)|(refine Det.useQ (Jpk) ?_)|(refine Det.use (r2) ?_)|(refine Det.useQ (r2) ?_)|(refine Er.use (r2) ?_)|(refine Dp.use (r2) ?_)|(refine Det.use (r3) ?_)|(refine Det.useQ (r3) ?_)|(refine Er.use (r3) ?_)|(refine Dp.use (r3) ?_)|(refine Det.use (r4) ?_)|(refine Det.useQ (r4) ?_)|(refine Er.use (r4) ?_)|(refine Dp.use (r4) ?_)|(refine Det.use (r5) ?_)|(refine Det.useQ (r5) ?_)|(refine Er.use (r5) ?_)|(refine Dp.use (r5) ?_)|(refine Det.use (r6) ?_)|(refine Det.useQ (r6) ?_)|(refine Er.use (r6) ?_)|(refine Dp.use (r6) ?_)|(refine Det.use (r7) ?_)|(refine Det.useQ (r7) ?_)|(refine Er.use (r7) ?_)|(refine Dp.use (r7) ?_)|(refine Det.use (r8) ?_)|(refine Det.useQ (r8) ?_)|(refine Er.use (r8) ?_)|(refine Dp.use (r8) ?_)|(refine Det.use (r9) ?_)|(refine Det.useQ (r9) ?_)|(refine Er.use (r9) ?_)|(refine Dp.use (r9) ?_));simp only [Ah,Bm,Cn,Ab,Bd,A1,Da,Bc,D9,Ct,Bf,A0,Ch,Cw,Ca,F6,A9,Aj,B8,D0,Ek,Ka,Dw,Df,Cg,Bo,Bl,C2,Dq,Db,Dn,Au,Ep,Bt,Ar,G0,Nh,Ds,D4,G8,Jb,Eb,Jc,J9,Hr,Io,Qk,Mh,K6,Cu,E5,Mj,Ag,Ae,A3,E6,Fu,En,F4,Cf,Bv,Bi,Bz,Bx,A4,Bp,B6,Et,Bh,Az,A5,Ht,Ji,Il,Dg,Jg,Gp,Gr,Gs,Gu,Hu,Ho,Bs,Cs,Cr,A6,A7,B9,Av,Ap,Al,B7,B5,Af,Am,Ao,Co,Ay,Aw,B4,C4,Dx,Dk,Fy,N8,Ez,Ks,Ga,I9,Jx,G9,Cl,C7,El,Cz,F1,A2,Ad,Ac,Bn,C6,Bg,Bb,List.map_cons,List.map_nil,List.getD_cons_zero,List.getD_cons_succ,List.length_cons,List.length_nil,List.append_nil,List.flatMap_cons,List.flatMap_nil,List.take_succ_cons,List.take_nil,List.drop_zero,List.set_cons_zero,List.set_cons_succ,List.getElem?_cons_zero,List.getElem?_cons_succ,beq_iff_eq,Nat.reduceLT,Nat.reduceLeDiff,Nat.reduceEqDiff,Nat.reduceAdd,Nat.reduceMul,true_and,and_true,Cc,Bw,↓reduceIte,Nat.zero_add,L.p.injEq,PV.bool.injEq,Bool.false_eq_true,Bool.true_and,Bool.and_true,Bool.or_true,beq_self_eq_true,and_self,Mm,M1,Kg,Ir,J8,Qx,Kc,Ph,Lx,Jj,Iq,L6,L8,Jy,Lm,Z5,Sd])|(exact True.intro)|(exfalso;omega)))
end Go.LX
set_option maxRecDepth 100000
set_option maxHeartbeats 2000000
namespace Go.LX
open Go Go.RowKit Go.Proofs
attribute [local irreducible] B2 SWP Hb
structure PathFit (p:List Step):Prop where
 len:p.length≤140737488355328
 name:∀ x∈p,x.name.length≤140737488355328
theorem Jl6 {s:List UInt8} (h:valid s=true):s.length+2≤(refQ s).length:=by
 have:=Jpw h []
 rw [List.append_nil] at this
 exact (Jk8 this).2.1
theorem Jmg {x:Step} (h:Fw x):x.name.length≤(Hh x).length:=by
 unfold Fw at h
 unfold Hh
 cases hp:x.part with
 | true =>
  rw [if_pos hp] at h
  rw [h.1];simp
 | false =>
  rw [if_neg (by simp [hp])] at h
  rw [if_neg (by simp)]
  split
  ·simp
  ·have:=Jl6 h.2
   simp;omega
theorem Jn0 {p:List Step} (h:∀ x∈p,Fw x):∀ x∈p,x.name.length≤(Hd p).length:=by
 induction p with
 | nil=>simp
 | cons y p ih =>
  intro x hx
  have e:Hd (y :: p)=Hh y ++ Hd p:=rfl
  rw [e,List.length_append]
  rcases List.mem_cons.1 hx with rfl | hx
  ·have:=Jmg (h x List.mem_cons_self);omega
  ·have:=ih (fun z hz=>h z (List.mem_cons_of_mem _ hz)) x hx;omega
theorem Jn1 (p:List Step):(Hd p).length≤(Tk p).length:=by
 unfold Tk
 cases p with
 | nil=>simp [Hd]
 | cons x p=>simp only;split <;> simp
theorem read_fit (s:List UInt8):(Kp s).1.length≤20∧∀ x∈(Kp s).1,x.name.length≤s.length:=by
 by_cases h:(Kp s).2.2=0
 ·obtain ⟨_,h2,h3⟩:=Jrp h
  refine ⟨h2.1,fun x hx=>?_⟩
  have h4:=Jn0 h2.2 x hx
  have h5:=Jn1 (Kp s).1
  rw [h3] at h5;omega
 ·have:=Jqi h
  rw [this.2.1];simp
theorem Jlp (p:List Step) (s:List UInt8) (hp:PathFit p) (hs:s.length≤9223372036854775807):Det cx 3 [.p (.sl (Gm p)),.p (.str s)] [] (.p (.bool true)) []:=by
 have hF:=d_few p hp.len hp.name
 by_cases hf:fewP p
 ·rw [decide_eq_true hf] at hF
  by_cases h300:s.length≤300
  ·have c0:((300:Int)<(s.length:Int))=False:=eq_false (by omega)
   obtain ⟨hl,hn⟩:=hf
   obtain ⟨r1,r2⟩:=read_fit s
   have hR:=Jn8 s (by omega)
   have hRr:=Jqf s (by omega)
   have hSm:=Jmi (Kp s).1 (Kp s).1 (by omega) (by omega) (fun x hx=>by have:=r2 x hx;omega) (fun x hx=>by have:=r2 x hx;omega)
   rw [decide_eq_true rfl] at hSm
   have hPr:=Jpo p (fun x hx=>by have:=hn x hx;omega)
   have hPq:=Jn2 p (by omega) (fun x hx=>by have:=hn x hx;omega)
   by_cases hok:Vf p
   ·rw [decide_eq_true hok] at hPr hPq
    have hT:=Js6 p (by omega) hok.2 (fun x hx=>by have:=hn x hx;omega)
    have hTr:=Jqp p (by omega) hok.2 (fun x hx=>by have:=hn x hx;omega)
    skip
    (refine B2.of_code (X:=cx) false [] (by simp) Tryz.func3 (by kernel_rfl) rfl (by simp only [List.length_cons,List.length_nil,Tryz.ntmps3];decide) (by simp) ?_;refine Ax hm _ _ _ ?_;simp only [Tryz.ntmps3,Tryz.results3,Ah,Bm,Ab,Bd,A1,Bc,Bf,A0,Ch,Cw,A9,Aj,Cg,Ag,Ae,A3,Cf,Bv,Bi,Bz,Bx,A4,B6,Bh,Az,A5,Cl,Ad,Ac,argW,List.map_cons,List.map_nil,List.append_nil,List.flatMap_cons,List.flatMap_nil,Nat.reduceLT,Nat.reduceEqDiff,Cc,Bw,↓reduceIte,reduceCtorEq,Nat.zero_add])
    (repeat' (first | (refine iteI (fun h=>?_) (fun h=>?_))|(refine B1 (by first | omega | (simp (disch:=omega) only [Aa,Ak,Ai] at *;omega)) ?_;intro b hb)|(refine And.intro (by first | omega | (simp (disch:=omega) only [Aa,Ak,Ai] at *;omega)) ?_)|((first | (refine Ba hm (by rfl) (by kernel_rfl) ?_)|(refine Det.use (hF) ?_)|(refine Det.useQ (hF) ?_)|(refine Er.use (hF) ?_)|(refine Dp.use (hF) ?_)|(refine Det.use (Qm) ?_)|(refine Det.useQ (Qm) ?_)|(refine Det.use (hR) ?_)|(refine Det.useQ (hR) ?_)|(refine Er.use (hR) ?_)|(refine Dp.use (hR) ?_)|(refine Det.use (hRr) ?_)|(refine Det.useQ (hRr) ?_)|(refine Er.use (hRr) ?_)|(refine Dp.use (hRr) ?_)|(refine Det.use (hSm) ?_)|(refine Det.useQ (hSm) ?_)|(refine Er.use (hSm) ?_)|(refine Dp.use (hSm) ?_)|(refine Det.use (hPr) ?_)|(refine Det.useQ (hPr) ?_)|(refine Er.use (hPr) ?_)|(refine Dp.use (hPr) ?_)|(refine Det.use (hPq) ?_)|(refine Det.useQ (hPq) ?_)|(refine Er.use (hPq) ?_)|(refine Dp.use (hPq) ?_)|(refine Det.use (hT) ?_)|(refine Det.useQ (hT) ?_)|(refine Er.use (hT) ?_)|(refine Dp.use (hT) ?_)|(refine Det.use (hTr) ?_)|(refine Det.useQ (hTr) ?_)|(refine Er.use (hTr) ?_)|(refine Dp.use (hTr) ?_));simp only [Cb,Ah,Bm,Br,Cn,Ab,Bd,A1,Da,Bc,Ct,Bf,A0,Ch,Cw,Ca,A9,Aj,B8,N7,D0,Ek,Dw,Cg,Bl,Bq,C2,Dq,Db,D1,Dn,Au,Ep,Ja0,Bt,Ar,Kx,Je,Nh,J7,Ds,Dl,G8,Eb,Ag,Ae,A3,Cf,Bv,Bi,Bz,Bx,A4,Bp,B6,Et,Bh,Az,A5,Bs,Cs,Cr,A6,A7,B9,Av,Ap,Al,B7,B5,Af,Am,Ao,Co,Ay,Cl,A2,Ad,Ac,List.map_cons,List.map_nil,List.getD_cons_zero,List.getD_cons_succ,List.append_nil,List.flatMap_cons,List.flatMap_nil,List.getElem?_cons_zero,List.getElem?_cons_succ,decide_eq_true_eq,bne_iff_ne,ne_eq,not_true_eq_false,Nat.reduceLT,Nat.reduceEqDiff,true_and,Cc,Bw,↓reduceIte,reduceCtorEq,Bool.not_true,Bool.false_eq_true,Bool.true_and,Bool.or_false,Bool.or_true,beq_self_eq_true,and_self,f_u4,Hi,c0])|(exact True.intro)|(exfalso;omega)))
   ·rw [decide_eq_false hok] at hPr hPq
    (refine B2.of_code (X:=cx) false [] (by simp) Tryz.func3 (by kernel_rfl) rfl (by simp only [List.length_cons,List.length_nil,Tryz.ntmps3];decide) (by simp) ?_;refine Ax hm _ _ _ ?_;simp only [Tryz.ntmps3,Tryz.results3,Ah,Bm,Ab,Bd,A1,Bc,Bf,A0,Ch,Cw,A9,Aj,Cg,Ag,Ae,A3,Cf,Bv,Bi,Bz,Bx,A4,B6,Bh,Az,A5,Cl,Ad,Ac,argW,List.map_cons,List.map_nil,List.append_nil,List.flatMap_cons,List.flatMap_nil,Nat.reduceLT,Nat.reduceEqDiff,Cc,Bw,↓reduceIte,reduceCtorEq,Nat.zero_add])
    (repeat' (first | (refine iteI (fun h=>?_) (fun h=>?_))|(refine B1 (by first | omega | (simp (disch:=omega) only [Aa,Ak,Ai] at *;omega)) ?_;intro b hb)|(refine And.intro (by first | omega | (simp (disch:=omega) only [Aa,Ak,Ai] at *;omega)) ?_)|((first | (refine Ba hm (by rfl) (by kernel_rfl) ?_)|(refine Det.use (hF) ?_)|(refine Det.useQ (hF) ?_)|(refine Er.use (hF) ?_)|(refine Dp.use (hF) ?_)|(refine Det.use (Qm) ?_)|(refine Det.useQ (Qm) ?_)|(refine Det.use (hR) ?_)|(refine Det.useQ (hR) ?_)|(refine Er.use (hR) ?_)|(refine Dp.use (hR) ?_)|(refine Det.use (hRr) ?_)|(refine Det.useQ (hRr) ?_)|(refine Er.use (hRr) ?_)|(refine Dp.use (hRr) ?_)|(refine Det.use (hSm) ?_)|(refine Det.useQ (hSm) ?_)|(refine Er.use (hSm) ?_)|(refine Dp.use (hSm) ?_)|(refine Det.use (hPr) ?_)|(refine Det.useQ (hPr) ?_)|(refine Er.use (hPr) ?_)|(refine Dp.use (hPr) ?_)|(refine Det.use (hPq) ?_)|(refine Det.useQ (hPq) ?_)|(refine Er.use (hPq) ?_)|(refine Dp.use (hPq) ?_));simp only [Cb,Ah,Bm,Br,Cn,Ab,Bd,A1,Da,Bc,D9,Ct,Bf,A0,Ch,Cw,Ca,A9,Aj,B8,N7,D0,Ek,Dw,Cg,Bl,Bq,C2,Dq,Db,D1,Dn,Au,Ja0,Bt,Ar,Kx,Je,J7,Ds,Dl,G8,Eb,Ag,Ae,A3,Cf,Bv,Bi,Bz,Bx,A4,Bp,B6,Et,Bh,Az,A5,Bs,Cs,Cr,A6,A7,B9,Av,Ap,Al,B7,B5,Af,Am,Ao,Co,Ay,Cl,A2,Ad,Ac,List.map_cons,List.map_nil,List.getD_cons_zero,List.getD_cons_succ,List.append_nil,List.flatMap_cons,List.flatMap_nil,List.getElem?_cons_zero,List.getElem?_cons_succ,decide_eq_true_eq,bne_iff_ne,ne_eq,not_true_eq_false,Nat.reduceLT,Nat.reduceEqDiff,true_and,Cc,Bw,↓reduceIte,reduceCtorEq,Bool.not_true,Bool.not_false,Bool.false_eq_true,Bool.true_and,Bool.or_false,Bool.or_true,and_self,f_u4,Hi,c0])|(exact True.intro)|(exfalso;omega)))
  ·have c0:((300:Int)<(s.length:Int))=True:=eq_true (by omega)
   (refine B2.of_code (X:=cx) false [] (by simp) Tryz.func3 (by kernel_rfl) rfl (by simp only [List.length_cons,List.length_nil,Tryz.ntmps3];decide) (by simp) ?_;refine Ax hm _ _ _ ?_;simp only [Tryz.ntmps3,Tryz.results3,Ah,Bm,Ab,Bd,A1,Bc,Bf,A0,Ch,Cw,A9,Aj,Cg,Ag,Ae,A3,Cf,Bv,Bi,Bz,Bx,A4,B6,Bh,Az,A5,Cl,Ad,Ac,argW,List.map_cons,List.map_nil,List.append_nil,List.flatMap_cons,List.flatMap_nil,Nat.reduceLT,Nat.reduceEqDiff,Cc,Bw,↓reduceIte,reduceCtorEq,Nat.zero_add])
   (repeat' (first | (refine iteI (fun h=>?_) (fun h=>?_))|(refine B1 (by first | omega | (simp (disch:=omega) only [Aa,Ak,Ai] at *;omega)) ?_;intro b hb)|(refine And.intro (by first | omega | (simp (disch:=omega) only [Aa,Ak,Ai] at *;omega)) ?_)|((first | (refine Ba hm (by rfl) (by kernel_rfl) ?_)|(refine Det.use (hF) ?_)|(refine Det.useQ (hF) ?_)|(refine Er.use (hF) ?_)|(refine Dp.use (hF) ?_)|(refine Det.use (Qm) ?_)|(refine Det.useQ (Qm) ?_));simp only [Ah,Bm,Br,Cn,Ab,B3,Bd,A1,Da,Bc,Ct,Bf,A0,Ch,Cw,Ca,A9,Aj,B8,N7,D0,Dw,Cg,Bq,C2,Dq,D1,Dn,Au,Bt,Ar,Je,J7,Ds,Dl,Ag,Ae,A3,Cf,Bv,Bi,Bz,Bx,A4,Bp,B6,Bh,Az,A5,Bs,Cs,Cr,A6,A7,B9,Av,Ap,Al,B7,B5,Af,Am,Ao,Co,Ay,A2,Ad,Ac,List.map_cons,List.map_nil,List.getD_cons_zero,List.getD_cons_succ,List.append_nil,List.flatMap_nil,decide_eq_true_eq,Nat.reduceLT,Nat.reduceEqDiff,Cc,Bw,↓reduceIte,reduceCtorEq,Bool.not_true,Bool.false_eq_true,Bool.or_true,and_self,Hi,c0])|(exact True.intro)|(exfalso;omega)))
 ·rw [decide_eq_false hf] at hF
  have c0:=hf
  (refine B2.of_code (X:=cx) false [] (by simp) Tryz.func3 (by kernel_rfl) rfl (by simp only [List.length_cons,List.length_nil,Tryz.ntmps3];decide) (by simp) ?_;refine Ax hm _ _ _ ?_;simp only [Tryz.ntmps3,Tryz.results3,Ah,Bm,Ab,Bd,A1,Bc,Bf,A0,Ch,Cw,A9,Aj,Cg,Ag,Ae,A3,Cf,Bv,Bi,Bz,Bx,A4,B6,Bh,Az,A5,Cl,Ad,Ac,argW,List.map_cons,List.map_nil,List.append_nil,List.flatMap_cons,List.flatMap_nil,Nat.reduceLT,Nat.reduceEqDiff,Cc,Bw,↓reduceIte,reduceCtorEq,Nat.zero_add])
  (repeat' (first | (refine iteI (fun h=>?_) (fun h=>?_))|(refine B1 (by first | omega | (simp (disch:=omega) only [Aa,Ak,Ai] at *;omega)) ?_;intro b hb)|(refine And.intro (by first | omega | (simp (disch:=omega) only [Aa,Ak,Ai] at *;omega)) ?_)|((first | (refine Ba hm (by rfl) (by kernel_rfl) ?_)|(refine Det.use (hF) ?_)|(refine Det.useQ (hF) ?_)|(refine Er.use (hF) ?_)|(refine Dp.use (hF) ?_)|(refine Det.use (Qm) ?_)|(refine Det.useQ (Qm) ?_));simp only [Ah,Bm,Br,Cn,Ab,B3,Bd,A1,Da,Bc,D9,Ct,Bf,A0,Ch,Cw,A9,Aj,N7,D0,Cg,Bq,C2,Dq,D1,Dn,J7,Ag,Ae,A3,Cf,Bv,Bi,Bz,Bx,A4,Bp,B6,Bh,Az,A5,Bs,Cs,Cr,A6,A7,B9,Av,Ap,Al,B7,B5,Af,Am,Ao,Co,Ay,A2,Ad,Ac,List.map_cons,List.map_nil,List.getD_cons_zero,List.getD_cons_succ,List.append_nil,List.flatMap_nil,Nat.reduceLT,Nat.reduceEqDiff,Bw,↓reduceIte,Bool.not_false,and_self])|(exact True.intro)|(exfalso;omega)))
end Go.LX
set_option maxRecDepth 100000
set_option maxHeartbeats 2000000
namespace Go.LX
open Go Go.RowKit Go.Proofs
attribute [local irreducible] B2 SWP Hb
end Go.LX
