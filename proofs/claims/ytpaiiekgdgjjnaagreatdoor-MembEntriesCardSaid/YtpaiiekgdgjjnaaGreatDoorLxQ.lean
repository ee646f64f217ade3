/- Paths: numbers of parts, as both read them. -/
import Derived.Test.YtpaiiekgdgjjnaaGreatDoorLxP
import Derived.Test.YtpaiiekgdgjjnaaGreatDoorLxN
import Derived.Test.YtpaiiekgdgjjnaaGreatDoorLxH
import Derived.Test.YtpaiiekgdgjjnaaGreatDoorLxJ
import Derived.Test.YtpaiiekgdgjjnaaGreatDoorLxK
import Derived.Lib.Overlaps
import Derived.Test.YtpaiiekgdgjjnaaGreatDoorLxM
set_option linter.unusedSimpArgs false
set_option linter.unusedVariables false
set_option linter.unusedSectionVars false
set_option linter.unnecessarySimpa false
set_option maxRecDepth 100000
set_option maxHeartbeats 2000000
namespace Go.LX
open Go Go.RowKit Go.Proofs
attribute [local irreducible] Al SWP Bi
theorem Fv (m:Nat):Lib.decDigits m=if m<10 then [UInt8.ofNat (48+m)] else Lib.decDigits (m / 10) ++ [UInt8.ofNat (48+m % 10)]:=by
 rw [Lib.decDigits];split <;> rfl
theorem Qj {m:Nat} (h:m<10):(UInt8.ofNat (48+m)).toNat=48+m:=by
 rw [UInt8.toNat_ofNat'];omega
theorem Jmj:∀ m:Nat,∀ c∈Lib.decDigits m,isDg c.toNat:=by
 intro m
 induction m using Nat.strongRecOn with
 | _ m ih =>
  intro c hc;rw [Fv] at hc;split at hc
  ·rw [List.mem_singleton] at hc;subst hc;rw [Qj (by assumption)];unfold isDg;omega
  ·rcases List.mem_append.1 hc with hc | hc
   ·exact ih (m / 10) omg c hc
   ·rw [List.mem_singleton] at hc;subst hc;rw [Qj omg];unfold isDg;omega
theorem Xc:∀ m:Nat,valD (Lib.decDigits m)=m:=by
 intro m
 induction m using Nat.strongRecOn with
 | _ m ih =>
  rw [Fv];split
  ·show 0 * 10+((UInt8.ofNat (48+m)).toNat - 48)=m;rw [Qj (by assumption)];omega
  ·rw [Zl,ih (m / 10) omg,Qj omg];omega
theorem U6 (m:Nat):Lib.decDigits m≠[]:=by
 rw [Fv];split <;> simp
theorem Jg0:∀ m:Nat,∀ c r,Lib.decDigits m=c :: r→c.toNat=48→r=[]∧m=0:=by
 intro m
 induction m using Nat.strongRecOn with
 | _ m ih =>
  intro c r h hc;rw [Fv] at h;split at h
  ·cases h;rw [Qj (by assumption)] at hc;exact ⟨rfl,by omega⟩
  ·cases hd:Lib.decDigits (m / 10) with
   | nil=>exact absurd hd (U6 _)
   | cons d q =>
    rw [hd] at h;cases h;have:=(ih (m / 10) omg _ _ hd hc).2;omega
theorem Sa:∀ (n:Nat) (t:List UInt8),t.length=n+1→(∀ c∈t,isDg c.toNat)→(n=0∨at_ t 0≠48)→Lib.decDigits (valD t)=t∧(at_ t 0≠48→0<valD t)
 | 0,t,hl,hd,_=>by
  match t,hl with
  | [c],_ =>
   have hc:=hd c sm;unfold isDg at hc;have e:valD [c]=c.toNat - 48:=by show 0 * 10+(c.toNat - 48)=_;omega
   rw [e,Fv,if_pos omg];refine ⟨?_,fun h=>?_⟩
   ·congr 1;apply UInt8.toNat_inj.1;rw [Qj omg];omega
   ·have:at_ [c] 0=c.toNat:=rfl;omega
 | n+1,t,hl,hd,h0=>by
  have hne:t≠[]:=fun e=>by subst e;simp at hl
  have ht:=List.dropLast_concat_getLast hne;have hdl:t.dropLast.length=n+1:=by rw [List.length_dropLast];omega
  have ha0:at_ t.dropLast 0=at_ t 0:=by
   rw [← ht];have:0<t.dropLast.length:=by omega
   simp only [at_,List.getD_eq_getElem?_getD,List.dropLast_concat];rw [List.getElem?_append_left this]
  have h1:=Sa n t.dropLast hdl (fun c hc=>hd c (List.dropLast_subset _ hc)) (.inr (by rw [ha0];omega));rw [ha0] at h1;have h2:=h1.2 omg;have h3:=hd _ (List.getLast_mem hne);unfold isDg at h3;have hv:valD t=valD t.dropLast * 10+((t.getLast hne).toNat - 48):=by
   conv=>lhs;rw [← ht]
   rw [Zl]
  refine ⟨?_,fun _=>by omega⟩;rw [Fv,if_neg omg];have e1:valD t / 10=valD t.dropLast:=by omega
  have e2:UInt8.ofNat (48+valD t % 10)=t.getLast hne:=by
   apply UInt8.toNat_inj.1;rw [Qj omg];omega
  rw [e1,e2,h1.1,ht]
theorem Pj:∀ (l:List UInt8) (a:Nat),(∀ c∈l,isDg c.toNat)→Lib.decFrom a l=some (l.foldl (fun a c=>a * 10+(c.toNat - 48)) a)
 | [],a,_=>rfl
 | c :: r,a,h=>by
  have hc:=h c List.mem_cons_self;unfold isDg at hc;rw [Lib.decFrom,Lib.digitVal,if_pos hc];exact Pj r _ fun d hd=>h d (List.mem_cons_of_mem _ hd)
theorem Jbw {t:List UInt8} (hne:t≠[]) (hl:t.length≤7) (hd:∀ c∈t,isDg c.toNat):Lib.atoiAll t=.ok (valD t:Int):=by
 rw [Lib.atoiAll_short t omg];cases t with
 | nil=>exact absurd rfl hne
 | cons c r =>
  have hc:=hd c List.mem_cons_self;unfold isDg at hc;have h45:¬ (c == 45)=true:=fun h=>by have:=beq_iff_eq.1 h;subst this;simp at hc
  have h43:¬ (c == 43)=true:=fun h=>by have:=beq_iff_eq.1 h;subst this;simp at hc
  rw [Lib.atoi,if_neg h45,if_neg h43,Lib.decNat,if_neg sm,Pj _ _ hd];rfl
theorem Jkf:∀ (T rest:List UInt8) (k:Nat),(∀ c∈T,isDg c.toNat)→T.length≤k→(∀ c q,rest=c :: q→¬ isDg c.toNat)→dgR k (T ++ rest)=T
 | [],rest,k,_,_,h=>by
  cases k with
  | zero=>rfl
  | succ k=>cases rest with
   | nil=>rfl
   | cons c q=>rw [List.nil_append,dgR,if_neg (h c q rfl)]
 | c :: T,rest,k,hd,hl,h=>by
  cases k with
  | zero=>simp at hl
  | succ k =>
   rw [List.cons_append,dgR,if_pos (hd c List.mem_cons_self),Jkf T rest k (fun d hm=>hd d (List.mem_cons_of_mem _ hm)) (by simp at hl;omega) h]
theorem eI_of {u:List UInt8} {e:Nat} (h:u[e]? = some 93) (hb:∀ j,j<e→u[j]? ≠ some 93):eI u=e:=by
 have hge:=Lib.indexByte_ge u ((93:Int).toNat.toUInt8);have hc:(93:Int).toNat.toUInt8=93:=rfl;by_cases hlt:eI u<0
 ·have:Lib.indexByte u ((93:Int).toNat.toUInt8) = -1:=by unfold eI at hlt;omega
  exact absurd h (Lib.indexByte_none this e)
 ·obtain ⟨o,ho⟩:∃ o:Nat,eI u=o:=⟨(eI u).toNat,by omega⟩
  obtain ⟨h1,h2⟩:=Lib.indexByte_some (show Lib.indexByte u ((93:Int).toNat.toUInt8)=o from ho);rw [hc] at h1 h2;rw [ho];rcases Nat.lt_trichotomy o e with hl | hl | hl
  ·exact absurd h1 (hb o hl)
  ·omega
  ·exact absurd h (h2 e hl)
theorem Jle {r:List UInt8} (h0:dgR 7 r≠[]) (h1:¬ (at_ r 0=48∧1<(dgR 7 r).length)) (h2:valD (dgR 7 r)≤1000000) (h3:r[(dgR 7 r).length]? = some 93) :
  Ce (91 :: r)=(⟨true,[],(valD (dgR 7 r):Nat)⟩,(dgR 7 r).length+2):=by
 have hl:=Jd2 7 r;have hp:=Jdy 7 r;have hall:=Jc6 7 r;generalize dgR 7 r=t at *
 have hlt:0<t.length:=List.length_pos_iff.2 h0;have he:eI (91 :: r)=((t.length+1:Nat):Int):=by
  refine eI_of (by simpa using h3) fun j hj hjs=>?_
  cases j with
  | zero=>simp at hjs
  | succ j =>
   rw [List.getElem?_cons_succ] at hjs;have hjt:t[j]? = some 93:=by rw [hp,List.getElem?_take_of_lt omg];exact hjs
   have:=hall 93 (List.mem_of_getElem? hjt);unfold isDg at this;simp at this
 have hT:pT (91 :: r)=t:=by
  unfold pT;rw [he,List.drop_succ_cons,List.drop_zero];rw [show ((t.length+1:Nat):Int).toNat - 1=t.length by omega];exact hp.symm
 have ha0:at_ t 0=at_ r 0:=by
  rw [hp];simp only [at_,List.getD_eq_getElem?_getD];rw [List.getElem?_take_of_lt omg]
 have hcan:=Sa (t.length - 1) t omg hall (by rw [ha0];omega);unfold Ce;rw [if_pos ⟨rfl,by omega,by omega⟩,hT,Jbw h0 hl.1 hall];simp only;rw [if_pos ⟨by omega,by omega,by rw [Lib.itoa_nonneg,hcan.1]⟩,he];rfl
theorem J0d {r:List UInt8} (h:(Ce (91 :: r)).2≠0):dgR 7 r≠[]∧¬ (at_ r 0=48∧1<(dgR 7 r).length)∧valD (dgR 7 r)≤1000000∧r[(dgR 7 r).length]? = some 93:=by
 unfold Ce at h;split at h
 case isFalse=>exact absurd rfl h
 rename_i hc;obtain ⟨-,hc1,hc2⟩:=hc;obtain ⟨e,he⟩:∃ e:Nat,eI (91 :: r)=e:=⟨(eI (91 :: r)).toNat,by omega⟩
 have hlt:=Jea he;have h93:=(Lib.indexByte_some (show Lib.indexByte (91 :: r) ((93:Int).toNat.toUInt8)=e from he)).1;rw [show (93:Int).toNat.toUInt8=93 from rfl] at h93;obtain ⟨k,rfl⟩:∃ k,e=k+1:=⟨e - 1,by omega⟩
 rw [List.getElem?_cons_succ] at h93;have hT:pT (91 :: r)=r.take k:=by
  unfold pT;rw [he,List.drop_succ_cons,List.drop_zero];rw [show ((k+1:Nat):Int).toNat - 1=k by omega]
 rw [hT] at h;split at h
 case h_2=>exact absurd rfl h
 rename_i n _;split at h
 case isFalse=>exact absurd rfl h
 rename_i hn;obtain ⟨hn0,hn1,hn2⟩:=hn;obtain ⟨m,rfl⟩:∃ m:Nat,n=m:=⟨n.toNat,by omega⟩
 rw [Lib.itoa_nonneg] at hn2;have hkl:k<r.length:=(List.getElem?_eq_some_iff.1 h93).1;have hlen:(Lib.decDigits m).length=k:=by rw [hn2,List.length_take];omega
 have hrun:dgR 7 r=Lib.decDigits m:=by
  have:=Jkf (Lib.decDigits m) (r.drop k) 7 (Jmj m) omg (fun c q hcq=>by
   rw [List.drop_eq_getElem_cons hkl] at hcq;cases hcq;have:=(List.getElem?_eq_some_iff.1 h93).2;rw [this];unfold isDg;simp)
  rw [hn2,List.take_append_drop] at this;rw [this,hn2]
 rw [hrun,hlen,Xc];refine ⟨U6 m,fun ⟨g1,g2⟩=>?_,by omega,h93⟩;cases hd:Lib.decDigits m with
 | nil=>exact U6 m hd
 | cons c q =>
  have hr0:at_ r 0=c.toNat:=by
   have:(r.take k)[0]? = some c:=by rw [← hn2,hd];rfl
   rw [List.getElem?_take_of_lt omg] at this;exact Jv0 this
  have:=(Jg0 m c q hd omg).1;subst this;rw [hd] at hlen;simp at hlen;omega
theorem Jwh {u:List UInt8} (h:(Ce u).2=0):Ce u=(Dv,0):=by
 unfold Ce at h ⊢;by_cases c:u.take 1=[91]∧2≤eI u∧eI u≤8
 ·rw [if_pos c] at h ⊢;cases ha:Lib.atoiAll (pT u) with
  | ok n =>
   rw [ha] at h;simp only at h ⊢;by_cases d:0≤n∧n≤1000000∧Lib.itoa n=pT u
   ·rw [if_pos d] at h;cases h
   ·rw [if_neg d]
  | range=>rfl
  | _=>rfl
 ·rw [if_neg c]
def Jty (s:List UInt8) (i:Nat):Step×Nat :=
 if i<s.length∧at_ s i=91 then
  if 0≤(figS s (i+1)).1∧(figS s (i+1)).2<s.length∧at_ s (figS s (i+1)).2=93 then (⟨true,[],(figS s (i+1)).1⟩,(figS s (i+1)).2+1 - i) else (Dv,0)
 else (Dv,0)
theorem J63 (s:List UInt8) (i:Nat):Jty s i=Ce (s.drop i):=by
 unfold Jty;by_cases hi:i<s.length∧at_ s i=91
 ·rw [if_pos hi];obtain ⟨hl,ha⟩:=hi;have hd:=List.drop_eq_getElem_cons hl;have h91:s[i]=91:=UInt8.toNat_inj.1 (by rw [← Jv0 (List.getElem?_eq_getElem hl),ha];rfl);rw [h91] at hd;rw [hd];have ha0:at_ (s.drop (i+1)) 0=at_ s (i+1):=Ko s (i+1) 0;have hr:(s.drop (i+1))[(dgR 7 (s.drop (i+1))).length]? = s[i+1+(dgR 7 (s.drop (i+1))).length]?:=List.getElem?_drop;have h93:∀ j,(j<s.length∧at_ s j=93) ↔ s[j]? = some 93:=fun j=>by
   constructor
   ·rintro ⟨h1,h2⟩;rw [List.getElem?_eq_getElem h1];congr 1;exact UInt8.toNat_inj.1 (by rw [← Jv0 (List.getElem?_eq_getElem h1),h2];rfl)
   ·intro h;exact ⟨(List.getElem?_eq_some_iff.1 h).1,Jv0 h⟩
  by_cases hf:dgR 7 (s.drop (i+1))≠[]∧¬ (at_ (s.drop (i+1)) 0=48∧1<(dgR 7 (s.drop (i+1))).length)∧valD (dgR 7 (s.drop (i+1)))≤1000000
  ·have hfl:(dgR 7 (s.drop (i+1))).length≠0:=fun h=>hf.1 (List.eq_nil_of_length_eq_zero h)
   have e:figS s (i+1)=(((valD (dgR 7 (s.drop (i+1))):Nat):Int),i+1+(dgR 7 (s.drop (i+1))).length):=by
    unfold figS;rw [if_neg];rintro (h | h | h)
    ·exact hfl h
    ·exact hf.2.1 (by rw [ha0];exact h)
    ·omega
   rw [e];simp only;by_cases hb:s[i+1+(dgR 7 (s.drop (i+1))).length]? = some 93
   ·rw [if_pos ⟨by omega,(h93 _).2 hb⟩,Jle hf.1 hf.2.1 hf.2.2 (by rw [hr];exact hb)];congr 1;omega
   ·rw [if_neg (fun h=>hb ((h93 _).1 h.2))];refine (Jwh (Decidable.byContradiction fun h=>hb ?_)).symm;rw [← hr];exact (J0d h).2.2.2
  ·have e:figS s (i+1)=(-1,i+1):=by
    unfold figS;rw [if_pos];apply Decidable.byContradiction;intro h;refine hf ⟨fun h'=>h (.inl (by rw [h'];rfl)),fun h'=>h (.inr (.inl (by rw [← ha0];exact h'))),?_⟩;omega
   rw [e];rw [if_neg (fun h=>by have:=h.1;simp only at this;omega)];refine (Jwh (Decidable.byContradiction fun h=>hf ?_)).symm;have:=J0d h;exact ⟨this.1,this.2.1,this.2.2.1⟩
 ·rw [if_neg hi];unfold Ce;rw [if_neg];rintro ⟨h,-⟩;have hl:i<s.length:=by
   apply Decidable.byContradiction;intro hn;rw [List.drop_eq_nil_of_le omg] at h;cases h
  rw [List.drop_eq_getElem_cons hl,List.take_succ_cons,List.take_zero] at h;have:s[i]=91:=by simpa using h
  exact hi ⟨hl,by rw [Jv0 (List.getElem?_eq_getElem hl),this];rfl⟩
def H3 (s:List UInt8) (j:Nat):Prop:=letP (at_ s j)∨(0<j∧figP (at_ s j))
instance (s:List UInt8) (j:Nat):Decidable (H3 s j):=inferInstanceAs (Decidable (_∨_))
theorem Wt (s:List UInt8):∀ f i,i≤s.length→s.length+1≤i+f→(∀ j,i≤j→j<wF s f i→H3 s j)∧(wF s f i<s.length→¬ H3 s (wF s f i))
 | 0,i,h,h2=>by omega
 | f+1,i,h,h2=>by
  rw [wF];split
  ·rename_i hc;obtain ⟨g1,g2⟩:=Wt s f (i+1) omg omg;refine ⟨fun j h3 h4=>?_,g2⟩;by_cases hj:j=i
   ·subst hj;exact hc.2
   ·exact g1 j omg h4
  ·rename_i hc;exact ⟨fun j h3 h4=>by omega,fun hl hg=>hc ⟨hl,hg⟩⟩
theorem Sh {s:List UInt8} {j:Nat} (h:j<Dm s):H3 s j:=(Wt s (s.length+1) 0 (Nat.zero_le _) omg).1 j (Nat.zero_le _) h
theorem Jam {s:List UInt8} (h:Dm s<s.length):¬ H3 s (Dm s):=(Wt s (s.length+1) 0 (Nat.zero_le _) omg).2 h
theorem J6z {s:List UInt8} {m j:Nat} (h:j<m):at_ (s.take m) j=at_ s j:=by
 simp only [at_,List.getD_eq_getElem?_getD];rw [List.getElem?_take_of_lt h]
theorem Jxq {u:List UInt8} {j:Nat} (hj:j<u.length) (hw:j≤Dm u):isWd (u.take (j+1)) ↔ j<Dm u:=by
 have hl:(u.take (j+1)).length=j+1:=by rw [List.length_take];omega
 have hle:=P3 (u.take (j+1));have hne:u.take (j+1)≠[]:=fun e=>by rw [e] at hl;simp at hl
 have hat:∀ x,x<j+1→(H3 (u.take (j+1)) x ↔ H3 u x):=fun x hx=>by unfold H3;rw [J6z hx]
 constructor
 ·rintro ⟨_,h⟩;rw [hl] at h;have h1:=(hat j omg).1 (Sh omg);apply Decidable.byContradiction;intro hn;have e:Dm u=j:=by omega
  exact Jam (s:=u) omg (by rw [e];exact h1)
 ·intro h;refine ⟨hne,?_⟩;apply Decidable.byContradiction;intro hn;have hlt:Dm (u.take (j+1))<j+1:=by omega
  exact Jam (s:=u.take (j+1)) omg ((hat _ hlt).2 (Sh omg))
def Jsk (s:List UInt8) (i:Nat) (first:Bool):Step×Nat :=
 if (Bw (s.drop i)).2≠0 then Bw (s.drop i)
 else if first=true then (if (i<s.length∧at_ s i=46)∧(Jty s (i+1)).2≠0 then ((Jty s (i+1)).1,(Jty s (i+1)).2+1) else (Dv,0))
 else if i<s.length∧at_ s i=46 then (Dv,0) else Jty s i
theorem Jxd {s:List UInt8} {i:Nat}:(s.drop i).take 1=[46] ↔ (i<s.length∧at_ s i=46):=by
 constructor
 ·intro h;have hl:i<s.length:=by
   apply Decidable.byContradiction;intro hn;rw [List.drop_eq_nil_of_le omg] at h;cases h
  rw [List.drop_eq_getElem_cons hl,List.take_succ_cons,List.take_zero] at h;have:s[i]=46:=by simpa using h
  exact ⟨hl,by rw [Jv0 (List.getElem?_eq_getElem hl),this];rfl⟩
 ·rintro ⟨hl,ha⟩;rw [List.drop_eq_getElem_cons hl,List.take_succ_cons,List.take_zero];congr 1;exact UInt8.toNat_inj.1 (by rw [← Jv0 (List.getElem?_eq_getElem hl),ha];rfl)
theorem J2v {s:List UInt8} {i:Nat} (h:i≤s.length):i≤(figS s i).2∧(figS s i).2≤s.length∧(figS s i).1≤1000000∧-1≤(figS s i).1:=by
 have:=(Jd2 7 (s.drop i)).2;rw [List.length_drop] at this;unfold figS;split
 ·exact ⟨Nat.le_refl _,h,by simp,by simp⟩
 ·simp only;omega
theorem J4b {s:List UInt8} {i:Nat} (h:¬ (i<s.length∧at_ s i=91∧0≤(figS s (i+1)).1∧(figS s (i+1)).2<s.length∧at_ s (figS s (i+1)).2=93)):Jty s i=(Dv,0):=by
 unfold Jty;by_cases h1:i<s.length∧at_ s i=91
 ·rw [if_pos h1,if_neg (fun h2=>h ⟨h1.1,h1.2,h2⟩)]
 ·rw [if_neg h1]
theorem J1s {s:List UInt8} {i:Nat} (h:i<s.length∧at_ s i=91∧0≤(figS s (i+1)).1∧(figS s (i+1)).2<s.length∧at_ s (figS s (i+1)).2=93):Jty s i=(⟨true,[],(figS s (i+1)).1⟩,(figS s (i+1)).2+1 - i):=by
 unfold Jty;rw [if_pos ⟨h.1,h.2.1⟩,if_pos h.2.2]
theorem J20 (s:List UInt8) (i:Nat) (first:Bool) (hs:s.length≤1000000) (hi:i≤s.length) (hd:¬ (i<s.length∧at_ s i=46)):Det cx 264 [.p (.str s),.p (.int .i64 i),.p (.bool first)] [] (.tup [.agg (Jsk s i first).1.cells,.int .i64 (i+(Jsk s i first).2:Nat)]) []:=by
 have hf:(Bw (s.drop i)).2=0:=by unfold Bw;rw [if_neg (fun h=>hd (Jxd.1 h))]
 have e:Jsk s i first=if first=true then (Dv,0) else Jty s i:=by
  unfold Jsk;rw [if_neg omg,if_neg (c:=(i<s.length∧at_ s i=46)∧_) (fun h=>hd h.1),if_neg hd]
 rw [e];cases first
 ·rw [if_neg sm];(refine bgo Tryz.func264 ?_;simp only [go_sem,simprocAttr,wi1 (i:=i) omg]);(repeat' (first | (apply iteI <;> intro h)|(refine Jqe ?_)|((refine Jqa (J2n s (i+1) hs omg) ?_);simp only [go_sem,simprocAttr,wi1 (i:=i) omg])|(exfalso;omega)))
  all_goals first
   | (rw [J4b omg];exact ⟨rfl,rfl⟩)
   | (
    have hl:=J2v (s:=s) (i:=i+1) omg;rw [J1s omg,Aa omg omg];refine ⟨rfl,?_⟩;simp only;omega)
 ·(refine bgo Tryz.func264 ?_;simp only [go_sem,simprocAttr,wi1 (i:=i) omg]);(repeat' (first | (apply iteI <;> intro h)|(refine Jqe ?_)|(exfalso;omega)))
  all_goals exact ⟨rfl,rfl⟩
theorem J5y (s:List UInt8) (i:Nat) (first:Bool) (hs:s.length≤1000000) (hi:i<s.length) (hd:at_ s i=46):Det cx 264 [.p (.str s),.p (.int .i64 i),.p (.bool first)] [] (.tup [.agg (Jsk s i first).1.cells,.int .i64 (i+(Jsk s i first).2:Nat)]) []:=by
 have hdot:=Jxd.2 ⟨hi,hd⟩;have hdr:(s.drop i).drop 1=s.drop (i+1):=by rw [List.drop_drop]
 have hwl:=P3 (s.drop (i+1));have hlen:(s.drop (i+1)).length=s.length - (i+1):=List.length_drop;rw [hlen] at hwl;(refine bgo Tryz.func264 ?_;simp only [go_sem,simprocAttr,wi1 (i:=i) omg]);(repeat' (first | (apply iteI <;> intro h)|(refine Jqe ?_)|(exfalso;omega)));refine SWP.loop (fun k:Nat=>⟨Ba 129 [(0,.p (.str s)),(1,.p (.int .i64 (i+1:Nat))),(2,.p (.bool first)),(6,.ptr 6 0 0),(8,.p (.int .i64 i)),(9,.p (.int .i64 (i+1+k:Nat)))],[(6,.var 96 [.p (.bool false),.p (.str []),.p (.int .i64 0)])]⟩) (fun k=>k≤Dm (s.drop (i+1))) (fun k=>Dm (s.drop (i+1)) - k) 0 Jqb (Nat.zero_le _) ?_;intro k hk;have hsub:i+1+k+1 - (i+1)=k+1:=by omega
 have hw1:=wi1 (i:=i+1+k) omg;by_cases hlt:k<Dm (s.drop (i+1))
 ·have hW:decide (isWd ((s.drop (i+1)).take (k+1)))=true:=decide_eq_true ((Jxq omg hk).2 hlt);(refine lws ?_;simp only [go_sem,simprocAttr,wi1 (i:=i) omg,hsub,hw1]);(repeat' (first | (apply iteI <;> intro h)|(refine Jqe ?_)|((refine Jqa (Jud ((s.drop (i+1)).take (k+1)) (by rw [List.length_take];omega)) ?_);simp only [go_sem,simprocAttr,wi1 (i:=i) omg,hw1,hW])|(exfalso;omega)));exact ⟨k+1,by omega,by omega,Jqb⟩
 ·have hkw:k=Dm (s.drop (i+1)):=by omega
  by_cases hk0:0<k
  ·have ef:Bw (s.drop i)=(⟨false,(s.drop (i+1)).take k,0⟩,k+1):=by
    unfold Bw;rw [if_pos hdot,hdr,if_pos omg,hkw]
   have e:Jsk s i first=(⟨false,(s.drop (i+1)).take k,0⟩,k+1):=by
    unfold Jsk;rw [ef,if_pos (Nat.succ_ne_zero _)]
   have hfin:([PV.bool false,PV.str (List.take (i+1+k - (i+1)) (List.drop (i+1) s)),PV.int IntKind.i64 0]=(Jsk s i first).1.cells∧((i+1+k:Nat):Int)=((i+(Jsk s i first).2:Nat):Int)):=by
    rw [e];refine ⟨?_,?_⟩
    ·rw [show i+1+k - (i+1)=k by omega];rfl
    ·simp only;omega
   by_cases hend:i+1+k<s.length
   ·have hW:decide (isWd ((s.drop (i+1)).take (k+1)))=false:=decide_eq_false (fun h=>hlt ((Jxq omg hk).1 h));(refine lws ?_;simp only [go_sem,simprocAttr,wi1 (i:=i) omg,hsub,hw1]);(repeat' (first | (apply iteI <;> intro h)|(refine Jqe ?_)|((refine Jqa (Jud ((s.drop (i+1)).take (k+1)) (by rw [List.length_take];omega)) ?_);simp only [go_sem,simprocAttr,wi1 (i:=i) omg,hW])|(exfalso;omega)));exact hfin
   ·have hW:=hw1;(refine lws ?_;simp only [go_sem,simprocAttr,wi1 (i:=i) omg,hsub,hw1]);(repeat' (first | (apply iteI <;> intro h)|(refine Jqe ?_)|(exfalso;omega)));exact hfin
  ·have hk1:k=0:=by omega
   subst hk1;have hdl:(s.drop (i+1)).length≤1000000:=by omega
   obtain ⟨u1,u2,u3⟩:=Jl8 (s.drop (i+1));rw [hlen] at u2 u3;have hsub:i+1+0+1 - (i+1)=1:=by omega
   have hsubq:i+1+(uq (s.drop (i+1))).2.1 - (i+1)=(uq (s.drop (i+1))).2.1:=by omega
   have hwq:=wia (i:=i+1) (j:=(uq (s.drop (i+1))).2.1) omg omg;have hG:(uq (s.drop (i+1))).2.2=0→¬ isWd (uq (s.drop (i+1))).1→refQ (uq (s.drop (i+1))).1=(s.drop (i+1)).take (uq (s.drop (i+1))).2.1→Jsk s i first=(⟨false,(uq (s.drop (i+1))).1,0⟩,(uq (s.drop (i+1))).2.1+1):=fun g1 g2 g3=>by
    have ef:Bw (s.drop i)=(⟨false,(uq (s.drop (i+1))).1,0⟩,(uq (s.drop (i+1))).2.1+1):=by
     unfold Bw;rw [if_pos hdot,hdr,if_neg omg,if_neg];rintro (h | h | h)
     ·exact h g1
     ·exact g2 h
     ·exact h g3
    unfold Jsk;rw [ef,if_pos (Nat.succ_ne_zero _)]
   have hB:¬ ((uq (s.drop (i+1))).2.2=0∧¬ isWd (uq (s.drop (i+1))).1∧refQ (uq (s.drop (i+1))).1=(s.drop (i+1)).take (uq (s.drop (i+1))).2.1)→Jsk s i first=if first=true then (if (Jty s (i+1)).2≠0 then ((Jty s (i+1)).1,(Jty s (i+1)).2+1) else (Dv,0)) else (Dv,0):=fun hb=>by
    have ef:Bw (s.drop i)=(Dv,0):=by
     unfold Bw;rw [if_pos hdot,hdr,if_neg omg,if_pos];apply Decidable.byContradiction;intro hn;refine hb ⟨?_,?_,?_⟩
     ·exact Decidable.byContradiction fun h=>hn (.inl h)
     ·exact fun h=>hn (.inr (.inl h))
     ·exact Decidable.byContradiction fun h=>hn (.inr (.inr h))
    unfold Jsk;rw [ef,if_neg (fun h=>h rfl),if_pos (c:=i<s.length∧at_ s i=46) ⟨hi,hd⟩];by_cases hp:(Jty s (i+1)).2≠0
    ·rw [if_pos hp,if_pos (c:=(i<s.length∧at_ s i=46)∧_) ⟨⟨hi,hd⟩,hp⟩]
    ·rw [if_neg hp,if_neg (c:=(i<s.length∧at_ s i=46)∧_) (fun h=>hp h.2)]
   have hB1:¬ ((uq (s.drop (i+1))).2.2=0∧¬ isWd (uq (s.drop (i+1))).1∧refQ (uq (s.drop (i+1))).1=(s.drop (i+1)).take (uq (s.drop (i+1))).2.1)→first=false→Jsk s i first=(Dv,0):=fun hb hf=>by rw [hB hb,hf,if_neg sm]
   have hB2:¬ ((uq (s.drop (i+1))).2.2=0∧¬ isWd (uq (s.drop (i+1))).1∧refQ (uq (s.drop (i+1))).1=(s.drop (i+1)).take (uq (s.drop (i+1))).2.1)→¬ first=false→¬ (i+1<s.length∧at_ s (i+1)=91∧0≤(figS s (i+1+1)).1∧(figS s (i+1+1)).2<s.length∧at_ s (figS s (i+1+1)).2=93)→Jsk s i first=(Dv,0):=fun hb hf h=>by
    rw [hB hb,J4b h];cases first <;> rfl
   have hB3:¬ ((uq (s.drop (i+1))).2.2=0∧¬ isWd (uq (s.drop (i+1))).1∧refQ (uq (s.drop (i+1))).1=(s.drop (i+1)).take (uq (s.drop (i+1))).2.1)→¬ first=false→(i+1<s.length∧at_ s (i+1)=91∧0≤(figS s (i+1+1)).1∧(figS s (i+1+1)).2<s.length∧at_ s (figS s (i+1+1)).2=93)→Jsk s i first=(⟨true,[],(figS s (i+1+1)).1⟩,(figS s (i+1+1)).2+1 - (i+1)+1):=fun hb hf h=>by
    have hl:=J2v (s:=s) (i:=i+1+1) omg;rw [hB hb,J1s h,if_pos (by cases first <;> simp_all),if_pos (by simp only;omega)]
   have hwi:IntKind.i64.wrap ((i+1:Nat)+1:Int)=((i+1+1:Nat):Int):=wi1 omg;by_cases hend:i+1+0<s.length
   ·have hW:decide (isWd ((s.drop (i+1)).take (0+1)))=false:=decide_eq_false (fun h=>hlt ((Jxq omg hk).1 h));have hl:=J2v (s:=s) (i:=i+1+1) omg;(refine lws ?_;simp only [go_sem,simprocAttr,wi1 (i:=i) omg,hsub,hw1]);(repeat' (first | (apply iteI <;> intro h)|(refine Jqe ?_)|((first | (refine Jqk ?_)|(refine Jqa (Jud ((s.drop (i+1)).take (0+1)) (by rw [List.length_take];omega)) ?_)|(refine Jqa (Jwu (s.drop (i+1)) hdl) ?_)|(refine Jqd (Jud (uq (s.drop (i+1))).1 omg) ?_)|(refine Jqd (J0n (uq (s.drop (i+1))).1 omg) ?_)|(refine Jqa (J2n s (i+1+0+1) hs omg) ?_));simp only [go_sem,simprocAttr,wi1 (i:=i) omg,hw1,hW,hsubq,hwq])|(exfalso;omega)))
    all_goals simp only [Nat.add_zero] at *
    all_goals first
     | (exfalso;omega)
     | (rw [hG omg (by assumption) (by assumption)];exact ⟨rfl,by simp only;omega⟩)
     | (rw [hB1 (fun ⟨a,b,c⟩=>by first | omega | (exact absurd b (by assumption))|(exact absurd c (by assumption))) (by assumption)];exact ⟨rfl,rfl⟩)
     | (rw [hB2 (fun ⟨a,b,c⟩=>by first | omega | (exact absurd b (by assumption))|(exact absurd c (by assumption))) (by assumption) omg];exact ⟨rfl,rfl⟩)
     | (rw [hB3 (fun ⟨a,b,c⟩=>by first | omega | (exact absurd b (by assumption))|(exact absurd c (by assumption))) (by assumption) omg,Aa omg omg];exact ⟨rfl,by simp only;omega⟩)
   ·have hW:=hw1;(refine lws ?_;simp only [go_sem,simprocAttr,wi1 (i:=i) omg,hsub,hw1]);(repeat' (first | (apply iteI <;> intro h)|(refine Jqe ?_)|((first | (refine Jqk ?_)|(refine Jqa (Jwu (s.drop (i+1)) hdl) ?_)|(refine Jqd (Jud (uq (s.drop (i+1))).1 omg) ?_)|(refine Jqd (J0n (uq (s.drop (i+1))).1 omg) ?_));simp only [go_sem,simprocAttr,wi1 (i:=i) omg,hw1,hsubq,hwq])|(exfalso;omega)))
    all_goals simp only [Nat.add_zero] at *
    all_goals first
     | (exfalso;omega)
     | (rw [hG omg (by assumption) (by assumption)];exact ⟨rfl,by simp only;omega⟩)
     | (rw [hB1 (fun ⟨a,b,c⟩=>by first | omega | (exact absurd b (by assumption))|(exact absurd c (by assumption))) (by assumption)];exact ⟨rfl,rfl⟩)
     | (rw [hB2 (fun ⟨a,b,c⟩=>by first | omega | (exact absurd b (by assumption))|(exact absurd c (by assumption))) (by assumption) omg];exact ⟨rfl,rfl⟩)
theorem d_step (s:List UInt8) (i:Nat) (first:Bool) (hs:s.length≤1000000) (hi:i≤s.length):Det cx 264 [.p (.str s),.p (.int .i64 i),.p (.bool first)] [] (.tup [.agg (Jsk s i first).1.cells,.int .i64 (i+(Jsk s i first).2:Nat)]) []:=by
 by_cases hd:i<s.length∧at_ s i=46
 ·exact J5y s i first hs hd.1 hd.2
 ·exact J20 s i first hs hi hd
theorem J5v {s:List UInt8} {i:Nat}:Jsk s i (decide (i=0))=Ee s i:=by
 unfold Jsk Ee;by_cases hf:(Bw (s.drop i)).2≠0
 ·rw [if_pos hf,if_pos hf]
 ·rw [if_neg hf,if_neg hf,J63,J63];by_cases hi:i=0
  ·rw [if_pos (decide_eq_true hi),if_pos hi];subst hi;have hd:=Jxd (s:=s) (i:=0);rw [List.drop_zero] at hd;by_cases h1:s.take 1=[46]
   ·by_cases h2:(Ce (s.drop (0+1))).2≠0
    ·rw [if_pos ⟨hd.1 h1,h2⟩,if_pos ⟨h1,h2⟩]
    ·rw [if_neg (fun h=>h2 h.2),if_neg (fun h=>h2 h.2)]
   ·rw [if_neg (fun h=>h1 (hd.2 h.1)),if_neg (fun h=>h1 h.1)]
  ·rw [if_neg (fun h=>hi (of_decide_eq_true h)),if_neg hi];by_cases hdt:i<s.length∧at_ s i=46
   ·rw [if_pos hdt];refine (Jwh ?_).symm;unfold Ce;rw [if_neg];rintro ⟨h,-⟩;rw [Jxd.2 hdt] at h;cases h
   ·rw [if_neg hdt]
theorem J80 {s:List UInt8} {i:Nat} (h:s.length≤i):(Ee s i).2=0:=by
 have hd:s.drop i=[]:=List.drop_eq_nil_of_le h;unfold Ee;have hf:Bw []=(Dv,0):=rfl;have hp:Ce []=(Dv,0):=rfl;rw [hd,hf,if_neg (fun h=>h rfl),hp];split
 ·have:s=[]:=List.eq_nil_of_length_eq_zero omg;subst this;rfl
 ·rfl
def begS (s:List UInt8):List Step×Nat:=if (Mp s).1.length=0∧s.take 1=[46] then ((Mp s).1,1) else Mp s
theorem J3r (s:List UInt8) (hs:s.length≤1000000):Det cx 217 [.p (.str s),.p (.int .i64 0)] [] (.tup [.sl (Bb (begS s).1),.int .i64 (begS s).2]) []:=by
 (refine bgo Tryz.func217 ?_;simp only [go_sem,simprocAttr]);refine Jq0 (B1 [(10,30)] _ sm) ?_;simp only [go_sem,simprocAttr];refine SWP.loop (fun x:Nat×Nat×List Step=>⟨Ba 52 [(0,.p (.str s)),(1,.p (.int .i64 x.1)),(6,.own 30 0 x.2.2.length),(7,.p (.int .i64 0))],[(30,.row 96 3 (Bb x.2.2))]⟩) (fun x=>x.1≤s.length∧s.length+1≤x.1+x.2.1∧x.2.2.length≤20∧(x.2.2.length=0 ↔ x.1=0)∧Fl s x.2.1 x.1 x.2.2=Mp s) (fun x=>s.length - x.1) (0,s.length+1,[]) (by rw [show Bb []=[] from rfl];exact Jqb) ⟨Nat.zero_le _,by simp,by simp,by simp,rfl⟩ ?_;rintro ⟨i,f,p⟩ ⟨h1,h2,h3,h5,h4⟩;simp only at h1 h2 h3 h4 h5;have hstep:=d_step s i (decide (i=0)) hs h1;rw [J5v] at hstep;have hnl:=Jw4 h1;have hfd:((p.length:Int) == 0)=decide (i=0):=by
  rw [Bool.eq_iff_iff,beq_iff_eq,decide_eq_true_eq];omega
 have htk:(Bb p).take p.length=Bb p:=List.take_of_length_le sm;have hbeg:Fl s f i p=(p,i)→begS s=if p.length=0∧s.take 1=[46] then (p,1) else (p,i):=fun h=>by
  rw [h] at h4;unfold begS;rw [← h4]
 have hdot:=Jxd (s:=s) (i:=0);rw [List.drop_zero] at hdot;by_cases hc:p.length<20
 ·by_cases hn:(Ee s i).2=0
  ·have hst:Fl s f i p=(p,i):=Gv fun h=>h.2.2 hn
   have hb:=hbeg hst;have hw:=hn;have hel:=hfd;(refine lws ?_;simp only [go_sem,simprocAttr,Aq,htk,Nat.le_refl,hel]);(repeat' (first | (apply iteI <;> intro h)|(refine Jqe ?_)|((refine Jqa (hstep) ?_);simp only [go_sem,simprocAttr,Aq,htk,Nat.le_refl,Step.cells,hel,hw])|(exfalso;omega)))
   ·rw [hb,if_pos ⟨by omega,hdot.2 ⟨by omega,by omega⟩⟩];exact ⟨rfl,rfl⟩
   ·rw [hb,if_neg (fun h=>by have:=(hdot.1 h.2).2;omega)];exact ⟨rfl,rfl⟩
   ·rw [hb,if_neg (fun h=>by have:=(hdot.1 h.2).1;omega)];exact ⟨rfl,rfl⟩
   ·rw [hb,if_neg (fun h=>by omega)];exact ⟨rfl,rfl⟩
  ·obtain ⟨g,rfl⟩:∃ g,f=g+1:=⟨f - 1,by omega⟩
   have hil:i<s.length:=Decidable.byContradiction fun h=>hn (J80 omg)
   rw [Fl,if_pos ⟨hil,hc,hn⟩] at h4;have hel:Bb p ++ [[.bool (Ee s i).1.part,.str (Ee s i).1.name,.int .i64 (Ee s i).1.n]]=Bb (p ++ [(Ee s i).1]):=by rw [Kn];rfl
   have hw:=hfd;(refine lws ?_;simp only [go_sem,simprocAttr,Aq,htk,Nat.le_refl,hfd]);(repeat' (first | (apply iteI <;> intro h)|(refine Jqe ?_)|((refine Jqa (hstep) ?_);simp only [go_sem,simprocAttr,Aq,htk,Nat.le_refl,Step.cells,hel,hfd])|(exfalso;omega)));refine ⟨by simp,by omega,by omega,(i+(Ee s i).2,g,p ++ [(Ee s i).1]),⟨?_,?_,?_,?_,h4⟩,?_,?_⟩
   ·simp only;omega
   ·simp only;omega
   ·simp only [List.length_append,List.length_singleton];omega
   ·simp only [List.length_append,List.length_singleton];constructor
    ·intro h;omega
    ·intro h;omega
   ·simp only;omega
   simp only [List.length_append,List.length_singleton];exact Jqb
 ·have hst:Fl s f i p=(p,i):=Gv fun h=>hc h.2.1
  have hb:=hbeg hst;have hw:=hfd;have hel:=hfd;(refine lws ?_;simp only [go_sem,simprocAttr,Aq,htk,Nat.le_refl,hel]);(repeat' (first | (apply iteI <;> intro h)|(refine Jqe ?_)|((refine Jqa (hstep) ?_);simp only [go_sem,simprocAttr,Aq,htk,Nat.le_refl,Step.cells,hel])|(exfalso;omega)));rw [hb,if_neg omg];exact ⟨rfl,rfl⟩
theorem Kb2:begS [46]=([],1):=by
 have e:Mp [46]=([],0):=rfl;unfold begS;rw [e];rfl
theorem J2g {s:List UInt8}:∀ (f i:Nat) (p:List Step),i≤(Fl s f i p).2∧p.length≤(Fl s f i p).1.length∧((Fl s f i p).1.length=p.length→Fl s f i p=(p,i))
 | 0,i,p=>⟨Nat.le_refl _,Nat.le_refl _,fun _=>rfl⟩
 | f+1,i,p=>by
  rw [Fl];split
  ·have:=J2g (s:=s) f (i+(Ee s i).2) (p ++ [(Ee s i).1]);rw [List.length_append,List.length_singleton] at this;exact ⟨by omega,by omega,fun h=>by omega⟩
  ·exact ⟨Nat.le_refl _,Nat.le_refl _,fun _=>rfl⟩
theorem J2l (s:List UInt8) (hs:s.length≤1000000):Det cx 165 [.p (.str s)] [] (.tup [.sl (Bb (Je s).1),.int .i64 (Je s).2.1,.int .i64 (Je s).2.2]) []:=by
 refine Det.weak ?_;by_cases hd:s=[46]
 ·subst hd;have hB:=J3r [46] de;rw [Kb2] at hB;(refine bgo Tryz.func165 ?_;simp only [go_sem,simprocAttr]);(repeat' (first | ((refine Jqa (hB) ?_);simp only [go_sem,simprocAttr]) | fail));exact .inl rfl
 ·have hd':(s=[46])=False:=eq_false hd;have hB:=J3r s hs;have hnil:=(J2g (s:=s) (s.length+1) 0 []).2.2;have hR0:(Mp s).1.length=0→Mp s=([],0):=hnil;have hb0:(begS s).1.length=0→(Mp s).1.length=0:=fun h=>by
   unfold begS at h;split at h
   ·exact h
   ·exact h
  have hb1:¬ (begS s).1.length=0→begS s=Mp s:=fun h=>by
   unfold begS at h ⊢;split
   ·rename_i hc;rw [if_pos hc] at h;exact absurd hc.1 h
   ·rfl
  (refine bgo Tryz.func165 ?_;simp only [go_sem,simprocAttr]);(repeat' (first | (apply iteI <;> intro h)|((refine Jqa (hB) ?_);simp only [go_sem,simprocAttr,hd',Aq]) | fail))
  ·have h0:=hR0 (hb0 omg);have e:Je s=([],0,1):=by
    unfold Je;rw [if_neg hd,h0];rw [if_pos (.inr rfl)]
   rw [e];exact Jry ⟨.nil,.refl _,.refl _,trivial⟩
  ·have hb:=hb1 omg;have hq:(begS s).2<s.length:=by omega
   rw [hb] at hq ⊢;have e:Je s=([],(Mp s).2,1):=by
    unfold Je;rw [if_neg hd,if_pos (.inl omg)]
   rw [e];exact Jry ⟨.nil,.refl _,.refl _,trivial⟩
  ·have hb:=hb1 omg;have hq:¬ (begS s).2<s.length:=by omega
   have hq2:¬ (begS s).1.length=0:=by omega
   rw [hb] at hq hq2 ⊢;have e:Je s=((Mp s).1,0,0):=by
    unfold Je;rw [if_neg hd,if_neg omg]
   rw [e];exact .inl rfl
def F8 (x y:Step):Prop:=x.part=y.part∧x.name=y.name∧x.n=y.n
instance (x y:Step):Decidable (F8 x y):=inferInstanceAs (Decidable (_∧_))
theorem Dc {x y:Step}:F8 x y ↔ x=y:=by
 unfold F8;constructor
 ·rintro ⟨h1,h2,h3⟩;cases x;cases y;simp_all
 ·rintro rfl;exact ⟨rfl,rfl,rfl⟩
def B7:List Step→List Step→Bool
 | x :: p,y :: q=>!decide (F8 x y) || B7 p q
 | _,_=>false
instance:DecidableEq Step:=fun x y=>decidable_of_iff _ (Dc (x:=x) (y:=y))
def inT:Tree→Step→Except Nat Tree
 | .mk k _ _ _ kids,x =>
  if x.part=true then (if k≠5 then .error 5 else match kids.list[x.n.toNat]? with
   | some p=>.ok p.2
   | none=>.error 6)
  else (if k≠6 then .error 5 else match Ch x.name kids.list with
   | some t=>.ok t
   | none=>.error 6)
theorem Iz {k:Int} {s:List UInt8} {g:Bool} {e:Int} {kids:Forest} {x:Step} (hp:x.part=true) (hk:¬ k=5):inT (.mk k s g e kids) x=.error 5:=by
 show (if x.part=true then (if k≠5 then Except.error 5 else _) else _)=_;rw [if_pos hp,if_pos hk]
theorem Iw {k:Int} {s:List UInt8} {g:Bool} {e:Int} {kids:Forest} {x:Step} (hp:x.part=false) (hk:¬ k=6):inT (.mk k s g e kids) x=.error 5:=by
 show (if x.part=true then _ else (if k≠6 then Except.error 5 else _))=_;rw [if_neg (by simp [hp]),if_pos hk]
theorem Tm {s:List UInt8} {g:Bool} {e:Int} {kids:Forest} {x:Step} (hp:x.part=true):inT (.mk 5 s g e kids) x=match kids.list[x.n.toNat]? with
   | some p=>.ok p.2
   | none=>.error 6:=by
 show (if x.part=true then _ else _)=_;rw [if_pos hp];rfl
theorem Tp {s:List UInt8} {g:Bool} {e:Int} {kids:Forest} {x:Step} (hp:x.part=false):inT (.mk 6 s g e kids) x=match Ch x.name kids.list with
   | some t=>.ok t
   | none=>.error 6:=by
 show (if x.part=true then _ else _)=_;rw [if_neg (by simp [hp])];rfl
def getR:Except Nat Tree→L
 | .ok t=>.tup [.sl (valL (t.enc [])),.int .i64 0]
 | .error e=>.tup [.snil,.int .i64 e]
theorem Hx {l:List (List UInt8×Tree)} {i:Nat} {p:List UInt8×Tree} (h:l[i]? = some p):(A4 l)[i]? = some [.sl (valL (p.2.enc []))]:=by simp [A4,h]
theorem d_in (t:Tree) (x:Step) (hv:(t.enc []).length≤1000000) (hx:Bc x):Det cx 150 [.p (.sl (valL (t.enc []))),.p (.agg [.bool x.part,.str x.name,.int .i64 x.n])] [] (getR (inT t x)) []:=by
 cases t with
 | mk k s g e kids =>
 have hkv:kids.enc.length≤999999:=by rw [A6] at hv;simp at hv;omega
 have hll:=Jqh kids;have hkl:=Jqf kids;unfold Bc at hx;cases hp:x.part
 ·by_cases hk:k=6
  ·subst hk;rw [Tp hp];cases hf:Ch x.name kids.list with
   | none =>
    have hF:=Jdk [] s g e kids x.name hkv;rw [hf] at hF;unfold Oo at hF;(refine bgo Tryz.func150 ?_;simp only [go_sem,simprocAttr,Cc]);(repeat' (first | ((refine Jqa (hF) ?_);simp only [go_sem,simprocAttr]) | fail))
    all_goals rfl
   | some t =>
    have hF:=Jdk [] s g e kids x.name hkv;rw [hf] at hF;unfold Oo at hF;(refine bgo Tryz.func150 ?_;simp only [go_sem,simprocAttr,Cc]);(repeat' (first | ((refine Jqa (hF) ?_);simp only [go_sem,simprocAttr]) | fail))
    all_goals rfl
  ·rw [Iw hp hk];(refine bgo Tryz.func150 ?_;simp only [go_sem,simprocAttr,Cc]);(repeat' (first | (apply iteI <;> intro h)|(exfalso;omega)))
   all_goals rfl
 ·rw [if_pos hp] at hx;obtain ⟨n,hn⟩:∃ n:Nat,x.n=n:=⟨x.n.toNat,by omega⟩
  by_cases hk:k=5
  ·subst hk;rw [Tm hp,hn];have hpt:((n:Int)).toNat=n:=rfl;rw [hpt];by_cases hlt:n<kids.len
   ·obtain ⟨p,hpk⟩:∃ p,kids.list[n]? = some p:=⟨_,List.getElem?_eq_getElem omg⟩
    have hpg:=Hx hpk;rw [hpk];(refine bgo Tryz.func150 ?_;simp only [go_sem,simprocAttr,Cc]);(repeat' (first | (apply iteI <;> intro h)|((first | (refine Jqk ?_)|(refine Jqd (Px [] 5 s g e kids hkv) ?_));simp only [go_sem,simprocAttr,Cc,hpg])|(exfalso;omega)))
    all_goals rfl
   ·rw [List.getElem?_eq_none omg];have hpg:=hn;(refine bgo Tryz.func150 ?_;simp only [go_sem,simprocAttr,Cc]);(repeat' (first | (exfalso;omega)|(apply iteI <;> intro h)|((refine Jqk ?_);simp only [go_sem,simprocAttr,Cc]) | fail))
    all_goals rfl
  ·rw [Iz hp hk,hn];have hpg:=hn;(refine bgo Tryz.func150 ?_;simp only [go_sem,simprocAttr,Cc]);(repeat' (first | (apply iteI <;> intro h)|((refine Jqk ?_);simp only [go_sem,simprocAttr,Cc])|(exfalso;omega)))
   all_goals rfl
def getT:List Step→Tree→Except Nat Tree
 | [],t=>.ok t
 | x :: p,t=>match inT t x with
  | .ok u=>getT p u
  | .error e=>.error e
theorem Jd7:∀ {f:Forest} {p:List UInt8×Tree},p∈f.list→(p.2.enc []).length≤f.enc.length
 | .nil,p,h=>by cases h
 | .cons nm t r,p,h=>by
  rw [A0,List.length_append];rcases List.mem_cons.1 h with rfl | h
  ·simp only;rw [G7 t nm];omega
  ·have:=Jd7 h;omega
theorem H2 {name:List UInt8}:∀ {l:List (List UInt8×Tree)} {t:Tree},Ch name l=some t→∃ p∈l,p.2=t∧p.1=name
 | [],t,h=>by cases h
 | p :: l,t,h=>by
  rw [Ch] at h;split at h
  ·cases h;exact ⟨p,List.mem_cons_self,rfl,by assumption⟩
  ·obtain ⟨q,h1,h2⟩:=H2 h;exact ⟨q,List.mem_cons_of_mem _ h1,h2⟩
theorem Jd5 {k:Int} {s:List UInt8} {g:Bool} {e:Int} {kids:Forest} {x:Step} {u:Tree} (h:inT (.mk k s g e kids) x=.ok u):∃ p∈kids.list,p.2=u:=by
 cases hp:x.part
 ·by_cases hk:k=6
  ·subst hk;rw [Tp hp] at h;cases hf:Ch x.name kids.list with
   | none=>rw [hf] at h;cases h
   | some t =>
    rw [hf] at h;cases h;obtain ⟨p,h1,h2,_⟩:=H2 hf;exact ⟨p,h1,h2⟩
  ·rw [Iw hp hk] at h;cases h
 ·by_cases hk:k=5
  ·subst hk;rw [Tm hp] at h;cases hf:kids.list[x.n.toNat]? with
   | none=>rw [hf] at h;cases h
   | some p =>
    rw [hf] at h;cases h;exact ⟨p,List.mem_of_getElem? hf,rfl⟩
  ·rw [Iz hp hk] at h;cases h
theorem M2 {t:Tree} {x:Step} {er:Nat} (h:inT t x=.error er):er=5∨er=6:=by
 cases t with
 | mk k s g e kids =>
  cases hp:x.part
  ·by_cases hk:k=6
   ·subst hk;rw [Tp hp] at h;cases hf:Ch x.name kids.list with
    | none=>rw [hf] at h;cases h;exact .inr rfl
    | some t=>rw [hf] at h;cases h
   ·rw [Iw hp hk] at h;cases h;exact .inl rfl
  ·by_cases hk:k=5
   ·subst hk;rw [Tm hp] at h;cases hf:kids.list[x.n.toNat]? with
    | none=>rw [hf] at h;cases h;exact .inr rfl
    | some p=>rw [hf] at h;cases h
   ·rw [Iz hp hk] at h;cases h;exact .inl rfl
theorem Q7 {t u:Tree} {x:Step} (h:inT t x=.ok u):(u.enc []).length+1≤(t.enc []).length:=by
 cases t with
 | mk k s g e kids =>
  obtain ⟨p,h1,rfl⟩:=Jd5 h;have:=Jd7 h1;rw [A6,List.length_cons];omega
theorem M1 (p:List Step) (t:Tree) (hp:p.length≤1000000) (hok:∀ x∈p,Bc x) (hv:(t.enc []).length≤1000000):Det cx 70 [.p (.sl (Bb p)),.p (.sl (valL (t.enc [])))] [] (getR (getT p t)) []:=by
 (refine bgo Tryz.func70 ?_;simp only [go_sem,simprocAttr,Aq]);refine SWP.loop (fun x:Nat×Tree=>⟨Ba 28 [(0,.p (.sl (Bb p))),(1,.p (.sl (valL (x.2.enc [])))),(10,.p (.sl (Bb p))),(11,.p (.int .i64 p.length)),(12,.p (.int .i64 x.1))],[]⟩) (fun x=>x.1≤p.length∧(x.2.enc []).length≤1000000∧getT (p.drop x.1) x.2=getT p t) (fun x=>p.length - x.1) (0,t) Jqb ⟨Nat.zero_le _,hv,rfl⟩ ?_;rintro ⟨i,u⟩ ⟨h1,h2,h3⟩;simp only at h1 h2 h3;by_cases hi:¬ i<p.length
 ·have c1:((i:Int)<(p.length:Int))=False:=eq_false omg;rw [show p.drop i=[] from List.drop_eq_nil_of_le omg,getT] at h3;(refine lws ?_;simp only [go_sem,simprocAttr,c1]);rw [← h3];rfl
 ·have hi:=Decidable.not_not.1 hi;obtain ⟨x,hx⟩:∃ x,p[i]? = some x:=⟨_,List.getElem?_eq_getElem hi⟩
  have hgx:=Dk hx;have hdx:p.drop i=x :: p.drop (i+1):=by rw [List.drop_eq_getElem_cons hi];congr 1;rw [List.getElem?_eq_getElem hi] at hx;exact Option.some.inj hx
  have hok':=hok x (List.mem_of_getElem? hx);rw [hdx,getT] at h3;have hin:=d_in u x h2 hok';have c1:((i:Int)<(p.length:Int))=True:=eq_true omg;cases hu:inT u x with
  | error er =>
   rw [hu] at hin h3;unfold getR at hin;(refine lws ?_;simp only [go_sem,simprocAttr,c1,hgx,wi1 (i:=i) omg]);(repeat' (first | (apply iteI <;> intro h)|((refine Jqa (hin) ?_);simp only [go_sem,simprocAttr,wi1 (i:=i) omg]) | fail))
   ·rw [← h3];rfl
   ·have:=M2 hu;omega
  | ok w =>
   rw [hu] at hin h3;unfold getR at hin;have hle:=Q7 hu;(refine lws ?_;simp only [go_sem,simprocAttr,c1,hgx,wi1 (i:=i) omg]);(repeat' (first | ((refine Jqa (hin) ?_);simp only [go_sem,simprocAttr,wi1 (i:=i) omg]) | fail));exact ⟨(i+1,w),⟨by simp only;omega,by simp only;omega,h3⟩,by simp only;omega,Jqb⟩
theorem Jcm {name:List UInt8} {l:List (List UInt8×Tree)} {k:Nat} {p:List UInt8×Tree} (h:l[k]? = some p) (hn:p.1≠name) (ht:∀ q∈l.take k,q.1≠name):∀ q∈l.take (k+1),q.1≠name:=by
 intro q hq;rw [List.take_add_one,h] at hq;rcases List.mem_append.1 hq with hq | hq
 ·exact ht q hq
 ·simp at hq;subst hq;exact hn
theorem Re (nm:List UInt8) (s:List UInt8) (g:Bool) (e:Int) (kids:Forest) (name:List UInt8) (hv:kids.enc.length≤999999):Det cx 114 [.p (.sl (valL ((Tree.mk 6 s g e kids).enc nm))),.p (.str name)] [] (Oo (Ch name kids.list)) []:=by
 have hll:=Jqh kids;have hkl:=Jqf kids;(refine bgo Tryz.func114 ?_;simp only [go_sem,simprocAttr]);(repeat' (first | ((refine Jqa (Ir nm s g e kids hv) ?_);simp only [go_sem,simprocAttr]) | fail));refine SWP.loop (fun i:Nat=>⟨Ba 27 [(0,.p (.sl (valL ((Tree.mk 6 s g e kids).enc nm)))),(1,.p (.str name)),(6,.p (.sl (Bd kids.list))),(7,.p (.int .i64 i))],[]⟩) (fun i=>i≤kids.list.length∧∀ q∈kids.list.take i,q.1≠name) (fun i=>kids.list.length - i) 0 Jqb ⟨Nat.zero_le _,by simp⟩ ?_;rintro i ⟨h1,h2⟩;by_cases hi:¬ i<kids.list.length
 ·have c1:((i:Int)<(kids.list.length:Int))=False:=eq_false omg;rw [List.take_of_length_le omg] at h2;rw [Ls h2];(refine lws ?_;simp only [go_sem,simprocAttr,A9,c1]);rfl
 ·have hi:=Decidable.not_not.1 hi;obtain ⟨p,hp⟩:∃ p,kids.list[i]? = some p:=⟨_,List.getElem?_eq_getElem hi⟩
  have hgn:(Bd kids.list)[i]? = some [.str p.1]:=by simp [Bd,hp]
  have hgp:=Hx hp;have c1:((i:Int)<(kids.list.length:Int))=True:=eq_true omg;by_cases hn:p.1=name
  ·rw [Li hp hn h2];have hw:=hn;(refine lws ?_;simp only [go_sem,simprocAttr,A9,c1,hgn,hw,wi1 (i:=i) omg]);(repeat' (first | ((refine Jqa (Dy nm 6 s g e kids hv) ?_);simp only [go_sem,simprocAttr,hgp,wi1 (i:=i) omg]) | fail))
   all_goals rfl
  ·have hw:(p.1=name)=False:=eq_false hn;(refine lws ?_;simp only [go_sem,simprocAttr,A9,c1,hgn,hw,wi1 (i:=i) omg]);exact ⟨i+1,⟨by omega,Jcm hp hn h2⟩,by omega,Jqb⟩
end Go.LX
namespace Go.LX
open Go Go.RowKit Go.Proofs
section
variable {X:Cx} {ro:Option Nat} {c:Code} {Q:Ex→St→Prop}
end
theorem Al.sub {X:Cx} {f:FuncId} {args:List L} {rs:Regs} {Post Post':L→Regs→Prop} (h:Al X f args rs Post) (hp:∀ m q,Post m q→∃ q0,q0.Sublist q∧Post' m q0):Al X f args rs Post':=by
 refine ⟨h.1,fun β Im w vs hg hf=>(h.2 β Im w vs hg hf).mono fun e w' ⟨v,m,rs',β',Im',he,hP,hr,hc⟩=>?_⟩;obtain ⟨q0,hs,hP'⟩:=hp m rs' hP;have hf':=hc.fit;have key:∀ d r,(d,r)∈q0→(d,r)∈rs':=fun d r hd=>hs.subset hd
 exact ⟨v,m,q0,β',Im',he,hP',hr,{ hc with keys:=fun d r hd=>hc.keys d r (key d r hd),regnew:=fun d r loc hd hl=>hc.regnew d r loc (key d r hd) hl,fit:={ size:=hf'.size,tmps:=hf'.tmps,im:=hf'.im,regs:=fun d r hd=>hf'.regs d r (key d r hd),nodup:=hf'.nodup.sublist (hs.map _),live:=fun d r loc hd hl=>hf'.live d r loc (key d r hd) hl,apart:=fun d r d' r' l1 l2 hd hd' hne h1 h2=>hf'.apart d r d' r' l1 l2 (key d r hd) (key d' r' hd') hne h1 h2 } }⟩
def isSl:Option TypeDesc→Prop
 | some (.slice _)=>True
 | _=>False
theorem Hi {e:TypeId}:isSl (some (.slice e))=True:=(rfl)
def capR (off:Nat) (K:L→Prop):Option Reg→Prop
 | some (.lrow _ _ true es)=>K (.p (.int .i64 (es.length - off:Nat)))
 | _=>False
def capV (regs:Regs) (K:L→Prop):L→Prop
 | .p .snil=>K (.p (.int .i64 0))
 | .own d off _=>capR off K (Am d regs)
 | _=>False
theorem K9 {P:Program} {r:Regs} {t:List L} {o:Operand} {ty:TypeId} {K:L→Prop}:lqvK P r ⟨t,r⟩ (.call { callee:=.builtin .cap,args:=#[o],argTypes:=#[ty] }) K=(isSl (P.underlying ty)∧capV r K ((St.mk t r).get o)):=by
 have h1:(∃ e,P.underlying ty=some (.slice e)) ↔ isSl (P.underlying ty):=by
  unfold isSl;split
  ·rename_i e h;exact ⟨fun _=>trivial,fun _=>⟨e,h⟩⟩
  ·rename_i h;exact ⟨fun ⟨k,hk⟩=>h k hk,fun h=>h.elim⟩
 unfold lqvK lqv;simp only [h1];apply pe;constructor
 ·rintro ⟨l,⟨h,h'⟩,hK⟩;refine ⟨h,?_⟩;split at h'
  ·rename_i hg;rw [hg];subst h';exact hK
  ·rename_i d off n hg;rw [hg];show capR off K (Am d r);split at h'
   ·rename_i T sz es hr;rw [hr];subst h';exact hK
   ·exact h'.elim
  ·exact h'.elim
 ·rintro ⟨h,hK⟩;unfold capV at hK;split at hK
  ·rename_i hg;rw [hg];exact ⟨_,⟨h,rfl⟩,hK⟩
  ·rename_i d off n hg;rw [hg];unfold capR at hK;split at hK
   ·rename_i T sz es hr;simp only [hr];exact ⟨_,⟨h,rfl⟩,hK⟩
   ·exact hK.elim
  ·exact hK.elim
theorem Hf {r:Regs} {K:L→Prop} {d off n:Nat}:capV r K (.own d off n)=capR off K (Am d r):=(rfl)
theorem Kc {off:Nat} {K:L→Prop} {T sz:Nat} {es:List (List L)}:capR off K (some (.lrow T sz true es))=K (.p (.int .i64 (es.length - off:Nat))):=(rfl)
attribute [local irreducible] Al Bi SWP
def Cq (x:List UInt8):List (List UInt8)→Nat
 | []=>0
 | s :: l=>if Op.bytesLess s x=true then Cq x l+1 else 0
def strL (l:List (List UInt8)):List (List PV):=l.map fun s=>[.str s]
end Go.LX
namespace Go.LX
open Go
theorem E0:∀ a:List UInt8,Op.bytesLess a a=false
 | []=>rfl
 | x :: a=>by simp [Op.bytesLess,E0 a]
theorem H8:∀ {a b c:List UInt8},Op.bytesLess a b=true→Op.bytesLess b c=true→Op.bytesLess a c=true
 | _,[],_,h,_=>by simp [Op.bytesLess] at h
 | _,_ :: _,[],_,h=>by simp [Op.bytesLess] at h
 | [],_ :: _,_ :: _,_,_=>rfl
 | x :: a,y :: b,z :: c,h1,h2=>by
  simp only [Op.bytesLess,Bool.or_eq_true,decide_eq_true_eq,Bool.and_eq_true,beq_iff_eq] at h1 h2 ⊢;rcases h1 with h1 | ⟨rfl,h1⟩
  ·rcases h2 with h2 | ⟨rfl,h2⟩
   ·exact .inl (UInt8.lt_trans h1 h2)
   ·exact .inl h1
  ·rcases h2 with h2 | ⟨rfl,h2⟩
   ·exact .inl h2
   ·exact .inr ⟨rfl,H8 h1 h2⟩
theorem L3 {a b:List UInt8} (h:Op.bytesLess a b=true):Op.bytesLess b a=false:=by
 cases h':Op.bytesLess b a with
 | false=>rfl
 | true=>have:=H8 h h';rw [E0] at this;cases this
theorem Kbu {a b:List UInt8} (h:Op.bytesLess a b=true):a≠b:=by
 rintro rfl;rw [E0] at h;cases h
theorem Qf:∀ {a b:List UInt8},Op.bytesLess a b=false→a≠b→Op.bytesLess b a=true
 | [],[],_,h=>absurd rfl h
 | [],_ :: _,h,_=>by simp [Op.bytesLess] at h
 | _ :: _,[],_,_=>rfl
 | x :: a,y :: b,h1,h2=>by
  simp only [Op.bytesLess,Bool.or_eq_false_iff,decide_eq_false_iff_not,Bool.and_eq_false_imp,beq_iff_eq] at h1;simp only [Op.bytesLess,Bool.or_eq_true,decide_eq_true_eq,Bool.and_eq_true,beq_iff_eq];obtain ⟨h3,h4⟩:=h1;by_cases hxy:x=y
  ·subst hxy;exact .inr ⟨rfl,Qf (h4 rfl) (by rintro rfl;exact h2 rfl)⟩
  ·left;rcases UInt8.lt_or_lt_of_ne hxy with h | h
   ·exact absurd h h3
   ·exact h
def nle (a b:List UInt8):Prop:=Op.bytesLess b a=false
theorem Jg7 {a b c:List UInt8} (h1:nle a b) (h2:nle b c):nle a c:=by
 unfold nle at *
 cases h:Op.bytesLess c a with
 | false=>rfl
 | true =>
  by_cases e:b=c
  ·subst e;rw [h1] at h;cases h
  ·have h3:=Qf h2 (Ne.symm e);have:=H8 h3 h;rw [h1] at this;cases this
abbrev KT:=List UInt8×Tree
def Rise (l:List KT):Prop:=l.Pairwise fun a b=>Op.bytesLess a.1 b.1=true
theorem Rise.tail {p:KT} {l:List KT} (h:Rise (p :: l)):Rise l:=(List.pairwise_cons.1 h).2
theorem Rise.nodup {l:List KT} (h:Rise l):(l.map (·.1)).Nodup:=by
 unfold List.Nodup;rw [List.pairwise_map];exact List.Pairwise.imp (fun h=>Kbu h) h
def putL (name:List UInt8) (t:Tree):List KT→List KT
 | []=>[(name,t)]
 | p :: l=>if Op.bytesLess p.1 name=true then p :: putL name t l else (name,t) :: p :: l
theorem Hv (name:List UInt8) (t:Tree):∀ l,(putL name t l).Perm ((name,t) :: l)
 | []=>.refl _
 | p :: l=>by
  unfold putL;split
  ·exact ((Hv name t l).cons p).trans (.swap _ _ _)
  ·exact .refl _
theorem Jjz {name:List UInt8} {t:Tree} {l:List KT} {q:KT}:q∈putL name t l ↔ q=(name,t)∨q∈l:=by
 rw [(Hv name t l).mem_iff,List.mem_cons]
theorem Kh {name:List UInt8} {t:Tree}:∀ {l:List KT},Rise l→(∀ p∈l,p.1≠name)→Rise (putL name t l)
 | [],_,_=>List.pairwise_singleton _ _
 | p :: l,h,hn=>by
  unfold putL;obtain ⟨h1,h2⟩:=List.pairwise_cons.1 h;split
  ·rename_i hlt;refine List.pairwise_cons.2 ⟨fun q hq=>?_,Kh h2 fun q hq=>hn q (List.mem_cons_of_mem _ hq)⟩;rcases Jjz.1 hq with rfl | hq
   ·exact hlt
   ·exact h1 q hq
  ·rename_i hlt;have h3:=Qf (a:=p.1) (b:=name) (by simpa using hlt) (hn p List.mem_cons_self);refine List.pairwise_cons.2 ⟨fun q hq=>?_,h⟩;rcases List.mem_cons.1 hq with rfl | hq
   ·exact h3
   ·exact H8 h3 (h1 q hq)
theorem Jy:∀ {a b:List KT},Rise a→Rise b→a.Perm b→a=b
 | [],b,_,_,h=>(List.nil_perm.1 h).symm
 | p :: a,[],_,_,h=>by simp at h
 | p :: a,q :: b,h1,h2,h=>by
  obtain ⟨g1,g2⟩:=List.pairwise_cons.1 h1;obtain ⟨k1,k2⟩:=List.pairwise_cons.1 h2;have e:p=q:=by
   have m1:p∈q :: b:=h.mem_iff.1 List.mem_cons_self;have m2:q∈p :: a:=h.mem_iff.2 List.mem_cons_self;rcases List.mem_cons.1 m1 with e | m1
   ·exact e
   ·rcases List.mem_cons.1 m2 with e | m2
    ·exact e.symm
    ·have:=L3 (g1 q m2);rw [k1 p m1] at this;cases this
  subst e;rw [Jy g2 k2 (List.Perm.cons_inv h)]
def Lp:List KT→List KT
 | []=>[]
 | p :: l=>putL p.1 p.2 (Lp l)
theorem E3:∀ l,(Lp l).Perm l
 | []=>.refl _
 | p :: l=>(Hv _ _ _).trans ((E3 l).cons p)
theorem Jj:∀ {l:List KT},(l.map (·.1)).Nodup→Rise (Lp l)
 | [],_=>.nil
 | p :: l,h=>by
  rw [List.map_cons,List.nodup_cons] at h;refine Kh (Jj h.2) fun q hq e=>h.1 ?_
  rw [← e];exact List.mem_map_of_mem ((E3 l).mem_iff.1 hq)
theorem Jay {l:List KT} {name:List UInt8} {t:Tree} (h:Rise l) (hn:∀ p∈l,p.1≠name):Lp (l ++ [(name,t)])=putL name t l:=by
 refine Jy (Jj ?_) (Kh h hn) ((E3 _).trans ?_)
 ·rw [List.map_append,List.nodup_append];refine ⟨h.nodup,by simp,fun a ha b hb=>?_⟩;obtain ⟨p,hp,rfl⟩:=List.mem_map.1 ha;simp at hb;subst hb;exact hn p hp
 ·exact (List.perm_append_comm (l₁:=l) (l₂:=[(name,t)])).trans (Hv name t l).symm
def E1:List Bool→List KT→List KT
 | b :: D,p :: l=>if b=true then E1 D l else p :: E1 D l
 | _,_=>[]
def cntT:List Bool→Nat
 | []=>0
 | b :: D=>if b=true then cntT D+1 else cntT D
theorem Jdj:∀ D,cntT D≤D.length
 | []=>Nat.le_refl _
 | b :: D=>by have:=Jdj D;simp only [cntT,List.length_cons];split <;> omega
theorem Ya:∀ {D:List Bool} {b:Nat},D[b]? = some false→cntT (D.set b true)=cntT D+1
 | [],b,h=>by simp at h
 | x :: D,0,h=>by simp at h;subst h;simp [cntT]
 | x :: D,b+1,h=>by
  simp only [List.set_cons_succ,cntT,Ya (D:=D) (b:=b) (by simpa using h)];split <;> rfl
theorem Y8:∀ {D:List Bool},(∀ j,j<D.length→D[j]? = some true)→cntT D=D.length
 | [],_=>rfl
 | x :: D,h=>by
  have h0:=h 0 sm;simp at h0;subst h0;simp only [cntT,if_true,List.length_cons];rw [Y8 fun j hj=>by simpa using h (j+1) (by simp;omega)]
theorem Rn:∀ {D:List Bool} {l:List KT},cntT D=D.length→E1 D l=[]
 | [],_,_=>rfl
 | x :: D,[],_=>rfl
 | x :: D,p :: l,h=>by
  have:=Jdj D;cases x
  ·simp [cntT] at h;omega
  ·simp [cntT] at h;simp only [E1,if_true];exact Rn h
theorem R1:∀ l:List KT,E1 (List.replicate l.length false) l=l
 | []=>rfl
 | p :: l=>by simp only [List.length_cons,List.replicate_succ,E1,Bool.false_eq_true,if_false,R1 l]
theorem Tn:∀ n,cntT (List.replicate n false)=0
 | 0=>rfl
 | n+1=>by simp [List.replicate_succ,cntT,Tn n]
theorem Nf:∀ {D:List Bool} {l:List KT} {p:KT},p∈E1 D l→∃ j:Nat,l[j]? = some p∧D[j]? = some false
 | [],_,p,h=>by simp [E1] at h
 | x :: D,[],p,h=>by simp [E1] at h
 | x :: D,q :: l,p,h=>by
  unfold E1 at h;split at h
  ·obtain ⟨j,h1,h2⟩:=Nf h;exact ⟨j+1,by simpa using h1,by simpa using h2⟩
  ·rename_i hx;rcases List.mem_cons.1 h with rfl | h
   ·exact ⟨0,rfl,by simpa using hx⟩
   ·obtain ⟨j,h1,h2⟩:=Nf h;exact ⟨j+1,by simpa using h1,by simpa using h2⟩
theorem Ol:∀ {D:List Bool} {l:List KT} {p:KT} {j:Nat},l[j]? = some p→D[j]? = some false→p∈E1 D l
 | [],_,_,_,_,h=>by simp at h
 | _ :: _,[],_,_,h,_=>by simp at h
 | x :: D,q :: l,p,0,h,h'=>by
  simp at h h';subst h;subst h';simp [E1]
 | x :: D,q :: l,p,j+1,h,h'=>by
  have:=Ol (D:=D) (l:=l) (j:=j) (by simpa using h) (by simpa using h');unfold E1;split
  ·exact this
  ·exact List.mem_cons_of_mem _ this
theorem Qi:∀ {D:List Bool} {l:List KT} {p:KT} {j:Nat},l[j]? = some p→D[j]? = some false→(E1 D l).Perm (p :: E1 (D.set j true) l)
 | [],_,_,_,_,h=>by simp at h
 | _ :: _,[],_,_,h,_=>by simp at h
 | x :: D,q :: l,p,0,h,h'=>by
  simp at h h';subst h;subst h';simp [E1]
 | x :: D,q :: l,p,j+1,h,h'=>by
  have:=Qi (D:=D) (l:=l) (j:=j) (by simpa using h) (by simpa using h');simp only [List.set_cons_succ,E1];split
  ·exact this
  ·exact (this.cons q).trans (.swap _ _ _)
structure Picks (l S:List KT) (D:List Bool):Prop where
 len:D.length=l.length
 cnt:cntT D=S.length
 perm:(S ++ E1 D l).Perm l
 rise:Rise S
 low:∀ s∈S,∀ p∈E1 D l,nle s.1 p.1
theorem Kax (l:List KT):Picks l [] (List.replicate l.length false) :=
 ⟨by simp,Tn _,by rw [List.nil_append,R1],.nil,by simp⟩
theorem Picks.done {l S:List KT} {D:List Bool} (h:Picks l S D) (hn:S.length=l.length):S.Perm l:=by
 have:=h.perm;rw [Rn (by rw [h.cnt,hn,h.len]),List.append_nil] at this;exact this
theorem Picks.next {l S:List KT} {D:List Bool} (h:Picks l S D) {b:Nat} {p:KT} (hp:l[b]? = some p) (hb:D[b]? = some false) (hm:∀ (j:Nat) (q:KT),l[j]? = some q→D[j]? = some false→nle p.1 q.1) (hl:∀ q,S.getLast? = some q→q.1≠p.1):Picks l (S ++ [p]) (D.set b true):=by
 have hpr:=Ol hp hb;have ht:=Qi hp hb;refine ⟨by simp [h.len],by rw [Ya hb,h.cnt];simp,?_,?_,?_⟩
 ·rw [List.append_assoc];exact ((List.Perm.append_left S ht.symm)).trans h.perm
 ·refine List.pairwise_append.2 ⟨h.rise,List.pairwise_singleton _ _,fun s hs q hq=>?_⟩;rw [List.mem_singleton] at hq;subst hq;have h1:=h.low s hs q hpr;by_cases e:s.1=q.1
  ·exfalso;obtain ⟨S',z,rfl⟩:∃ S' z,S=S' ++ [z]:=by
    rcases List.eq_nil_or_concat S with rfl | ⟨S',z,rfl⟩
    ·cases hs
    ·exact ⟨S',z,by simp⟩
   have hz:=hl z sm;have h2:=h.low z sm q hpr;have h3:=Qf (a:=q.1) (b:=z.1) h2 (Ne.symm hz);rcases List.mem_append.1 hs with hs | hs
   ·have h4:=(List.pairwise_append.1 h.rise).2.2 s hs z sm;rw [e] at h4;have:=L3 h4;rw [h3] at this;cases this
   ·rw [List.mem_singleton] at hs;subst hs;exact hz e
  ·exact Qf (a:=q.1) (b:=s.1) h1 (Ne.symm e)
 ·intro s hs q hq;have hq':q∈E1 D l:=ht.mem_iff.2 (List.mem_cons_of_mem _ hq);rcases List.mem_append.1 hs with hs | hs
  ·exact h.low s hs q hq'
  ·rw [List.mem_singleton] at hs;subst hs;obtain ⟨j,h1,h2⟩:=Nf hq';exact hm j q h1 h2
theorem Picks.twice {l S:List KT} {D:List Bool} (h:Picks l S D) {b:Nat} {p q:KT} (hp:l[b]? = some p) (hb:D[b]? = some false) (hl:S.getLast? = some q) (he:q.1=p.1):¬ (l.map (·.1)).Nodup:=by
 intro hn;have h1:=(h.perm.map (·.1)).nodup_iff.2 hn;rw [List.map_append,List.nodup_append] at h1;exact h1.2.2 q.1 (List.mem_map_of_mem (List.mem_of_getLast? hl)) p.1 (List.mem_map_of_mem (Ol hp hb)) he
end Go.LX
namespace Go.LX
open Go Go.RowKit Go.Proofs
attribute [local irreducible] Al SWP Bi
theorem Om {name:List UInt8}:∀ {l:List KT} {p:KT},p∈A8 name l ↔ p∈l∧p.1≠name
 | [],p=>by simp [A8]
 | q :: l,p=>by
  simp only [A8];split
  ·rename_i h;rw [Om];constructor
   ·exact fun ⟨h1,h2⟩=>⟨List.mem_cons_of_mem _ h1,h2⟩
   ·rintro ⟨h1,h2⟩;rcases List.mem_cons.1 h1 with rfl | h1
    ·exact absurd h h2
    ·exact ⟨h1,h2⟩
  ·rename_i h;rw [List.mem_cons,Om,List.mem_cons];constructor
   ·rintro (rfl | ⟨h1,h2⟩)
    ·exact ⟨.inl rfl,h⟩
    ·exact ⟨.inr h1,h2⟩
   ·rintro ⟨rfl | h1,h2⟩
    ·exact .inl rfl
    ·exact .inr ⟨h1,h2⟩
theorem N8 (name:List UInt8):∀ l:List KT,(A8 name l).Sublist l
 | []=>.slnil
 | p :: l=>by
  simp only [A8];split
  ·exact (N8 name l).cons _
  ·exact (N8 name l).cons_cons _
theorem Rise.kept {l:List KT} (h:Rise l) (name:List UInt8):Rise (A8 name l):=List.Pairwise.sublist (N8 name l) h
theorem Iv (name:List UInt8) (t:Tree):∀ l:List KT,(A1 (putL name t l)).enc.length=(A1 l).enc.length+(t.enc []).length
 | []=>by simp only [putL,A1,A0,Bl,List.length_append,List.length_nil,G7 t name];omega
 | p :: l=>by
  unfold putL;split
  ·simp only [A1,A0,List.length_append,Iv name t l];omega
  ·simp only [A1,A0,List.length_append,G7 t name];omega
end Go.LX
