/- Paths: numbers of parts, as both read them. -/
import Derived.Test.YtmejkfclabmijaaGreatDoorPathTextsLxX
set_option linter.unusedSimpArgs false
set_option linter.unusedVariables false
set_option linter.unusedSectionVars false
set_option linter.unnecessarySimpa false
set_option maxRecDepth 100000
set_option maxHeartbeats 2000000
namespace Go.LX
open Go Go.RowKit Go.Proofs
attribute [local irreducible] B2 SWP Hb
theorem Qc (m:Nat):Lib.decDigits m=if m<10 then [UInt8.ofNat (48+m)] else Lib.decDigits (m / 10) ++ [UInt8.ofNat (48+m % 10)]:=by
 rw [Lib.decDigits]
 split <;> rfl
theorem Jdg {m:Nat} (h:m<10):(UInt8.ofNat (48+m)).toNat=48+m:=by
 rw [UInt8.toNat_ofNat'];omega
theorem Jj1:∀ m:Nat,∀ c∈Lib.decDigits m,isDg c.toNat:=by
 intro m
 induction m using Nat.strongRecOn with
 | _ m ih =>
  intro c hc
  rw [Qc] at hc
  split at hc
  ·rw [List.mem_singleton] at hc;subst hc
   rw [Jdg (by assumption)];unfold isDg;omega
  ·rcases List.mem_append.1 hc with hc | hc
   ·exact ih (m / 10) (by omega) c hc
   ·rw [List.mem_singleton] at hc;subst hc
    rw [Jdg (by omega)];unfold isDg;omega
theorem Jdj:∀ m:Nat,valD (Lib.decDigits m)=m:=by
 intro m
 induction m using Nat.strongRecOn with
 | _ m ih =>
  rw [Qc]
  split
  ·show 0 * 10+((UInt8.ofNat (48+m)).toNat - 48)=m
   rw [Jdg (by assumption)];omega
  ·rw [X9,ih (m / 10) (by omega),Jdg (by omega)];omega
theorem Y5 (m:Nat):Lib.decDigits m≠[]:=by
 rw [Qc];split <;> simp
theorem Jf8:∀ m:Nat,∀ c r,Lib.decDigits m=c :: r→c.toNat=48→r=[]∧m=0:=by
 intro m
 induction m using Nat.strongRecOn with
 | _ m ih =>
  intro c r h hc
  rw [Qc] at h
  split at h
  ·cases h
   rw [Jdg (by assumption)] at hc
   exact ⟨rfl,by omega⟩
  ·cases hd:Lib.decDigits (m / 10) with
   | nil=>exact absurd hd (Y5 _)
   | cons d q =>
    rw [hd] at h
    cases h
    have:=(ih (m / 10) (by omega) _ _ hd hc).2
    omega
theorem Xt:∀ (n:Nat) (t:List UInt8),t.length=n+1→(∀ c∈t,isDg c.toNat)→(n=0∨at_ t 0≠48)→Lib.decDigits (valD t)=t∧(at_ t 0≠48→0<valD t)
 | 0,t,hl,hd,_=>by
  match t,hl with
  | [c],_ =>
   have hc:=hd c (by simp)
   unfold isDg at hc
   have e:valD [c]=c.toNat - 48:=by show 0 * 10+(c.toNat - 48)=_;omega
   rw [e,Qc,if_pos (by omega)]
   refine ⟨?_,fun h=>?_⟩
   ·congr 1
    apply UInt8.toNat_inj.1
    rw [Jdg (by omega)];omega
   ·have:at_ [c] 0=c.toNat:=rfl
    omega
 | n+1,t,hl,hd,h0=>by
  have hne:t≠[]:=fun e=>by subst e;simp at hl
  have ht:=List.dropLast_concat_getLast hne
  have hdl:t.dropLast.length=n+1:=by rw [List.length_dropLast];omega
  have ha0:at_ t.dropLast 0=at_ t 0:=by
   rw [← ht]
   have:0<t.dropLast.length:=by omega
   simp only [at_,List.getD_eq_getElem?_getD,List.dropLast_concat]
   rw [List.getElem?_append_left this]
  have h1:=Xt n t.dropLast hdl (fun c hc=>hd c (List.dropLast_subset _ hc)) (.inr (by rw [ha0];omega))
  rw [ha0] at h1
  have h2:=h1.2 (by omega)
  have h3:=hd _ (List.getLast_mem hne)
  unfold isDg at h3
  have hv:valD t=valD t.dropLast * 10+((t.getLast hne).toNat - 48):=by
   conv=>lhs;rw [← ht]
   rw [X9]
  refine ⟨?_,fun _=>by omega⟩
  rw [Qc,if_neg (by omega)]
  have e1:valD t / 10=valD t.dropLast:=by omega
  have e2:UInt8.ofNat (48+valD t % 10)=t.getLast hne:=by
   apply UInt8.toNat_inj.1
   rw [Jdg (by omega)];omega
  rw [e1,e2,h1.1,ht]
theorem Ja5:∀ (l:List UInt8) (a:Nat),(∀ c∈l,isDg c.toNat)→Lib.decFrom a l=some (l.foldl (fun a c=>a * 10+(c.toNat - 48)) a)
 | [],a,_=>rfl
 | c :: r,a,h=>by
  have hc:=h c List.mem_cons_self
  unfold isDg at hc
  rw [Lib.decFrom,Lib.digitVal,if_pos hc]
  exact Ja5 r _ fun d hd=>h d (List.mem_cons_of_mem _ hd)
theorem Jnn {t:List UInt8} (hne:t≠[]) (hl:t.length≤7) (hd:∀ c∈t,isDg c.toNat):Lib.atoiAll t=.ok (valD t:Int):=by
 rw [Lib.atoiAll_short t (by omega)]
 cases t with
 | nil=>exact absurd rfl hne
 | cons c r =>
  have hc:=hd c List.mem_cons_self
  unfold isDg at hc
  have h45:¬ (c == 45)=true:=fun h=>by have:=beq_iff_eq.1 h;subst this;simp at hc
  have h43:¬ (c == 43)=true:=fun h=>by have:=beq_iff_eq.1 h;subst this;simp at hc
  rw [Lib.atoi,if_neg h45,if_neg h43,Lib.decNat,if_neg (by simp),Ja5 _ _ hd]
  rfl
theorem Jmf:∀ (T rest:List UInt8) (k:Nat),(∀ c∈T,isDg c.toNat)→T.length≤k→(∀ c q,rest=c :: q→¬ isDg c.toNat)→dgR k (T ++ rest)=T
 | [],rest,k,_,_,h=>by
  cases k with
  | zero=>rfl
  | succ k=>cases rest with
   | nil=>rfl
   | cons c q=>rw [List.nil_append,dgR,if_neg (h c q rfl)]
 | c :: T,rest,k,hd,hl,h=>by
  cases k with
  | zero=>simp at hl
  | succ k =>
   rw [List.cons_append,dgR,if_pos (hd c List.mem_cons_self),Jmf T rest k (fun d hm=>hd d (List.mem_cons_of_mem _ hm)) (by simp at hl;omega) h]
theorem eI_of {u:List UInt8} {e:Nat} (h:u[e]? = some 93) (hb:∀ j,j<e→u[j]? ≠ some 93):eI u=e:=by
 have hge:=Lib.indexByte_ge u ((93:Int).toNat.toUInt8)
 have hc:(93:Int).toNat.toUInt8=93:=rfl
 by_cases hlt:eI u<0
 ·have:Lib.indexByte u ((93:Int).toNat.toUInt8) = -1:=by unfold eI at hlt;omega
  exact absurd h (Lib.indexByte_none this e)
 ·obtain ⟨o,ho⟩:∃ o:Nat,eI u=o:=⟨(eI u).toNat,by omega⟩
  obtain ⟨h1,h2⟩:=Lib.indexByte_some (show Lib.indexByte u ((93:Int).toNat.toUInt8)=o from ho)
  rw [hc] at h1 h2
  rw [ho]
  rcases Nat.lt_trichotomy o e with hl | hl | hl
  ·exact absurd h1 (hb o hl)
  ·omega
  ·exact absurd h (h2 e hl)
theorem Jdx {r:List UInt8} (h0:dgR 7 r≠[]) (h1:¬ (at_ r 0=48∧1<(dgR 7 r).length)) (h2:valD (dgR 7 r)≤1000000) (h3:r[(dgR 7 r).length]? = some 93) :
  Iv (91 :: r)=(⟨true,[],(valD (dgR 7 r):Nat)⟩,(dgR 7 r).length+2):=by
 have hl:=Jb8 7 r
 have hp:=Jh6 7 r
 have hall:=Jii 7 r
 generalize dgR 7 r=t at *
 have hlt:0<t.length:=List.length_pos_iff.2 h0
 have he:eI (91 :: r)=((t.length+1:Nat):Int):=by
  refine eI_of (by simpa using h3) fun j hj hjs=>?_
  cases j with
  | zero=>simp at hjs
  | succ j =>
   rw [List.getElem?_cons_succ] at hjs
   have hjt:t[j]? = some 93:=by rw [hp,List.getElem?_take_of_lt (by omega)];exact hjs
   have:=hall 93 (List.mem_of_getElem? hjt)
   unfold isDg at this
   simp at this
 have hT:pT (91 :: r)=t:=by
  unfold pT;rw [he,List.drop_succ_cons,List.drop_zero]
  rw [show ((t.length+1:Nat):Int).toNat - 1=t.length by omega]
  exact hp.symm
 have ha0:at_ t 0=at_ r 0:=by
  rw [hp];simp only [at_,List.getD_eq_getElem?_getD]
  rw [List.getElem?_take_of_lt (by omega)]
 have hcan:=Xt (t.length - 1) t (by omega) hall (by rw [ha0];omega)
 unfold Iv
 rw [if_pos ⟨rfl,by omega,by omega⟩,hT,Jnn h0 hl.1 hall]
 simp only
 rw [if_pos ⟨by omega,by omega,by rw [Lib.itoa_nonneg,hcan.1]⟩,he]
 rfl
theorem Jeg {r:List UInt8} (h:(Iv (91 :: r)).2≠0):dgR 7 r≠[]∧¬ (at_ r 0=48∧1<(dgR 7 r).length)∧valD (dgR 7 r)≤1000000∧r[(dgR 7 r).length]? = some 93:=by
 unfold Iv at h
 split at h
 case isFalse=>exact absurd rfl h
 rename_i hc
 obtain ⟨-,hc1,hc2⟩:=hc
 obtain ⟨e,he⟩:∃ e:Nat,eI (91 :: r)=e:=⟨(eI (91 :: r)).toNat,by omega⟩
 have hlt:=Jk7 he
 have h93:=(Lib.indexByte_some (show Lib.indexByte (91 :: r) ((93:Int).toNat.toUInt8)=e from he)).1
 rw [show (93:Int).toNat.toUInt8=93 from rfl] at h93
 obtain ⟨k,rfl⟩:∃ k,e=k+1:=⟨e - 1,by omega⟩
 rw [List.getElem?_cons_succ] at h93
 have hT:pT (91 :: r)=r.take k:=by
  unfold pT;rw [he,List.drop_succ_cons,List.drop_zero]
  rw [show ((k+1:Nat):Int).toNat - 1=k by omega]
 rw [hT] at h
 split at h
 case h_2=>exact absurd rfl h
 rename_i n _
 split at h
 case isFalse=>exact absurd rfl h
 rename_i hn
 obtain ⟨hn0,hn1,hn2⟩:=hn
 obtain ⟨m,rfl⟩:∃ m:Nat,n=m:=⟨n.toNat,by omega⟩
 rw [Lib.itoa_nonneg] at hn2
 have hkl:k<r.length:=(List.getElem?_eq_some_iff.1 h93).1
 have hlen:(Lib.decDigits m).length=k:=by rw [hn2,List.length_take];omega
 have hrun:dgR 7 r=Lib.decDigits m:=by
  have:=Jmf (Lib.decDigits m) (r.drop k) 7 (Jj1 m) (by omega) (fun c q hcq=>by
   rw [List.drop_eq_getElem_cons hkl] at hcq
   cases hcq
   have:=(List.getElem?_eq_some_iff.1 h93).2
   rw [this];unfold isDg;simp)
  rw [hn2,List.take_append_drop] at this
  rw [this,hn2]
 rw [hrun,hlen,Jdj]
 refine ⟨Y5 m,fun ⟨g1,g2⟩=>?_,by omega,h93⟩
 cases hd:Lib.decDigits m with
 | nil=>exact Y5 m hd
 | cons c q =>
  have hr0:at_ r 0=c.toNat:=by
   have:(r.take k)[0]? = some c:=by rw [← hn2,hd];rfl
   rw [List.getElem?_take_of_lt (by omega)] at this
   exact Wt this
  have:=(Jf8 m c q hd (by omega)).1
  subst this
  rw [hd] at hlen
  simp at hlen;omega
theorem Xf {u:List UInt8} (h:(Iv u).2=0):Iv u=(J6,0):=by
 unfold Iv at h ⊢
 by_cases c:u.take 1=[91]∧2≤eI u∧eI u≤8
 ·rw [if_pos c] at h ⊢
  cases ha:Lib.atoiAll (pT u) with
  | ok n =>
   rw [ha] at h
   simp only at h ⊢
   by_cases d:0≤n∧n≤1000000∧Lib.itoa n=pT u
   ·rw [if_pos d] at h;cases h
   ·rw [if_neg d]
  | range=>rfl
  | _=>rfl
 ·rw [if_neg c]
def Ro (s:List UInt8) (i:Nat):Step×Nat :=
 if i<s.length∧at_ s i=91 then
  if 0≤(figS s (i+1)).1∧(figS s (i+1)).2<s.length∧at_ s (figS s (i+1)).2=93 then (⟨true,[],(figS s (i+1)).1⟩,(figS s (i+1)).2+1 - i) else (J6,0)
 else (J6,0)
theorem Jp7 (s:List UInt8) (i:Nat):Ro s i=Iv (s.drop i):=by
 unfold Ro
 by_cases hi:i<s.length∧at_ s i=91
 ·rw [if_pos hi]
  obtain ⟨hl,ha⟩:=hi
  have hd:=List.drop_eq_getElem_cons hl
  have h91:s[i]=91:=UInt8.toNat_inj.1 (by rw [← Wt (List.getElem?_eq_getElem hl),ha];rfl)
  rw [h91] at hd
  rw [hd]
  have ha0:at_ (s.drop (i+1)) 0=at_ s (i+1):=Pf s (i+1) 0
  have hr:(s.drop (i+1))[(dgR 7 (s.drop (i+1))).length]? = s[i+1+(dgR 7 (s.drop (i+1))).length]?:=List.getElem?_drop
  have h93:∀ j,(j<s.length∧at_ s j=93) ↔ s[j]? = some 93:=fun j=>by
   constructor
   ·rintro ⟨h1,h2⟩
    rw [List.getElem?_eq_getElem h1]
    congr 1
    exact UInt8.toNat_inj.1 (by rw [← Wt (List.getElem?_eq_getElem h1),h2];rfl)
   ·intro h
    exact ⟨(List.getElem?_eq_some_iff.1 h).1,Wt h⟩
  by_cases hf:dgR 7 (s.drop (i+1))≠[]∧¬ (at_ (s.drop (i+1)) 0=48∧1<(dgR 7 (s.drop (i+1))).length)∧valD (dgR 7 (s.drop (i+1)))≤1000000
  ·have hfl:(dgR 7 (s.drop (i+1))).length≠0:=fun h=>hf.1 (List.eq_nil_of_length_eq_zero h)
   have e:figS s (i+1)=(((valD (dgR 7 (s.drop (i+1))):Nat):Int),i+1+(dgR 7 (s.drop (i+1))).length):=by
    unfold figS
    rw [if_neg]
    rintro (h | h | h)
    ·exact hfl h
    ·exact hf.2.1 (by rw [ha0];exact h)
    ·omega
   rw [e]
   simp only
   by_cases hb:s[i+1+(dgR 7 (s.drop (i+1))).length]? = some 93
   ·rw [if_pos ⟨by omega,(h93 _).2 hb⟩,Jdx hf.1 hf.2.1 hf.2.2 (by rw [hr];exact hb)]
    congr 1;omega
   ·rw [if_neg (fun h=>hb ((h93 _).1 h.2))]
    refine (Xf (Decidable.byContradiction fun h=>hb ?_)).symm
    rw [← hr]
    exact (Jeg h).2.2.2
  ·have e:figS s (i+1)=(-1,i+1):=by
    unfold figS
    rw [if_pos]
    apply Decidable.byContradiction
    intro h
    refine hf ⟨fun h'=>h (.inl (by rw [h'];rfl)),fun h'=>h (.inr (.inl (by rw [← ha0];exact h'))),?_⟩
    omega
   rw [e]
   rw [if_neg (fun h=>by have:=h.1;simp only at this;omega)]
   refine (Xf (Decidable.byContradiction fun h=>hf ?_)).symm
   have:=Jeg h
   exact ⟨this.1,this.2.1,this.2.2.1⟩
 ·rw [if_neg hi]
  unfold Iv
  rw [if_neg]
  rintro ⟨h,-⟩
  have hl:i<s.length:=by
   apply Decidable.byContradiction
   intro hn
   rw [List.drop_eq_nil_of_le (by omega)] at h
   cases h
  rw [List.drop_eq_getElem_cons hl,List.take_succ_cons,List.take_zero] at h
  have:s[i]=91:=by simpa using h
  exact hi ⟨hl,by rw [Wt (List.getElem?_eq_getElem hl),this];rfl⟩
end Go.LX
