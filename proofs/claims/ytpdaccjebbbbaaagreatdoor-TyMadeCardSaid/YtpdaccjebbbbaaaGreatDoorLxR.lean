/- Paths: numbers of parts, as both read them. -/
import Derived.Test.YtpdaccjebbbbaaaGreatDoorLxQ
import Derived.Test.YtpdaccjebbbbaaaGreatDoorLxO
import Derived.Test.YtpdaccjebbbbaaaGreatDoorLxI
import Derived.Test.YtpdaccjebbbbaaaGreatDoorLxK
import Derived.Test.YtpdaccjebbbbaaaGreatDoorLxL
import Derived.Lib.Overlaps
import Derived.Test.YtpdaccjebbbbaaaGreatDoorLxN
import Derived.Test.YtpdaccjebbbbaaaGreatDoorLxP
set_option linter.unusedSimpArgs false
set_option linter.unusedVariables false
set_option linter.unusedSectionVars false
set_option linter.unnecessarySimpa false
set_option maxRecDepth 100000
set_option maxHeartbeats 2000000
namespace Go.LX
open Go Go.RowKit Go.Proofs
attribute [local irreducible] Al SWP Bi
theorem Fv (m:Nat):Lib.decDigits m=if m<10 then [UInt8.ofNat (48+m)] else Lib.decDigits (m / 10) ++ [UInt8.ofNat (48+m % 10)]:=by
 rw [Lib.decDigits];split <;> rfl
theorem Qj {m:Nat} (h:m<10):(UInt8.ofNat (48+m)).toNat=48+m:=by
 rw [UInt8.toNat_ofNat'];omega
theorem Jmj:∀ m:Nat,∀ c∈Lib.decDigits m,isDg c.toNat:=by
 intro m
 induction m using Nat.strongRecOn with
 | _ m ih =>
  intro c hc;rw [Fv] at hc;split at hc
  ·rw [List.mem_singleton] at hc;subst hc;rw [Qj (by assumption)];unfold isDg;omega
  ·rcases List.mem_append.1 hc with hc | hc
   ·exact ih (m / 10) omg c hc
   ·rw [List.mem_singleton] at hc;subst hc;rw [Qj omg];unfold isDg;omega
theorem Xc:∀ m:Nat,valD (Lib.decDigits m)=m:=by
 intro m
 induction m using Nat.strongRecOn with
 | _ m ih =>
  rw [Fv];split
  ·show 0 * 10+((UInt8.ofNat (48+m)).toNat - 48)=m;rw [Qj (by assumption)];omega
  ·rw [Zl,ih (m / 10) omg,Qj omg];omega
theorem U6 (m:Nat):Lib.decDigits m≠[]:=by
 rw [Fv];split <;> simp
theorem Jg0:∀ m:Nat,∀ c r,Lib.decDigits m=c :: r→c.toNat=48→r=[]∧m=0:=by
 intro m
 induction m using Nat.strongRecOn with
 | _ m ih =>
  intro c r h hc;rw [Fv] at h;split at h
  ·cases h;rw [Qj (by assumption)] at hc;exact ⟨rfl,by omega⟩
  ·cases hd:Lib.decDigits (m / 10) with
   | nil=>exact absurd hd (U6 _)
   | cons d q =>
    rw [hd] at h;cases h;have:=(ih (m / 10) omg _ _ hd hc).2;omega
theorem Sa:∀ (n:Nat) (t:List UInt8),t.length=n+1→(∀ c∈t,isDg c.toNat)→(n=0∨at_ t 0≠48)→Lib.decDigits (valD t)=t∧(at_ t 0≠48→0<valD t)
 | 0,t,hl,hd,_=>by
  match t,hl with
  | [c],_ =>
   have hc:=hd c sm;unfold isDg at hc;have e:valD [c]=c.toNat - 48:=by show 0 * 10+(c.toNat - 48)=_;omega
   rw [e,Fv,if_pos omg];refine ⟨?_,fun h=>?_⟩
   ·congr 1;apply UInt8.toNat_inj.1;rw [Qj omg];omega
   ·have:at_ [c] 0=c.toNat:=rfl;omega
 | n+1,t,hl,hd,h0=>by
  have hne:t≠[]:=fun e=>by subst e;simp at hl
  have ht:=List.dropLast_concat_getLast hne;have hdl:t.dropLast.length=n+1:=by rw [List.length_dropLast];omega
  have ha0:at_ t.dropLast 0=at_ t 0:=by
   rw [← ht];have:0<t.dropLast.length:=by omega
   simp only [at_,List.getD_eq_getElem?_getD,List.dropLast_concat];rw [List.getElem?_append_left this]
  have h1:=Sa n t.dropLast hdl (fun c hc=>hd c (List.dropLast_subset _ hc)) (.inr (by rw [ha0];omega));rw [ha0] at h1;have h2:=h1.2 omg;have h3:=hd _ (List.getLast_mem hne);unfold isDg at h3;have hv:valD t=valD t.dropLast * 10+((t.getLast hne).toNat - 48):=by
   conv=>lhs;rw [← ht]
   rw [Zl]
  refine ⟨?_,fun _=>by omega⟩;rw [Fv,if_neg omg];have e1:valD t / 10=valD t.dropLast:=by omega
  have e2:UInt8.ofNat (48+valD t % 10)=t.getLast hne:=by
   apply UInt8.toNat_inj.1;rw [Qj omg];omega
  rw [e1,e2,h1.1,ht]
theorem Pj:∀ (l:List UInt8) (a:Nat),(∀ c∈l,isDg c.toNat)→Lib.decFrom a l=some (l.foldl (fun a c=>a * 10+(c.toNat - 48)) a)
 | [],a,_=>rfl
 | c :: r,a,h=>by
  have hc:=h c List.mem_cons_self;unfold isDg at hc;rw [Lib.decFrom,Lib.digitVal,if_pos hc];exact Pj r _ fun d hd=>h d (List.mem_cons_of_mem _ hd)
theorem Jbw {t:List UInt8} (hne:t≠[]) (hl:t.length≤7) (hd:∀ c∈t,isDg c.toNat):Lib.atoiAll t=.ok (valD t:Int):=by
 rw [Lib.atoiAll_short t omg];cases t with
 | nil=>exact absurd rfl hne
 | cons c r =>
  have hc:=hd c List.mem_cons_self;unfold isDg at hc;have h45:¬ (c == 45)=true:=fun h=>by have:=beq_iff_eq.1 h;subst this;simp at hc
  have h43:¬ (c == 43)=true:=fun h=>by have:=beq_iff_eq.1 h;subst this;simp at hc
  rw [Lib.atoi,if_neg h45,if_neg h43,Lib.decNat,if_neg sm,Pj _ _ hd];rfl
theorem Jkf:∀ (T rest:List UInt8) (k:Nat),(∀ c∈T,isDg c.toNat)→T.length≤k→(∀ c q,rest=c :: q→¬ isDg c.toNat)→dgR k (T ++ rest)=T
 | [],rest,k,_,_,h=>by
  cases k with
  | zero=>rfl
  | succ k=>cases rest with
   | nil=>rfl
   | cons c q=>rw [List.nil_append,dgR,if_neg (h c q rfl)]
 | c :: T,rest,k,hd,hl,h=>by
  cases k with
  | zero=>simp at hl
  | succ k =>
   rw [List.cons_append,dgR,if_pos (hd c List.mem_cons_self),Jkf T rest k (fun d hm=>hd d (List.mem_cons_of_mem _ hm)) (by simp at hl;omega) h]
theorem eI_of {u:List UInt8} {e:Nat} (h:u[e]? = some 93) (hb:∀ j,j<e→u[j]? ≠ some 93):eI u=e:=by
 have hge:=Lib.indexByte_ge u ((93:Int).toNat.toUInt8);have hc:(93:Int).toNat.toUInt8=93:=rfl;by_cases hlt:eI u<0
 ·have:Lib.indexByte u ((93:Int).toNat.toUInt8) = -1:=by unfold eI at hlt;omega
  exact absurd h (Lib.indexByte_none this e)
 ·obtain ⟨o,ho⟩:∃ o:Nat,eI u=o:=⟨(eI u).toNat,by omega⟩
  obtain ⟨h1,h2⟩:=Lib.indexByte_some (show Lib.indexByte u ((93:Int).toNat.toUInt8)=o from ho);rw [hc] at h1 h2;rw [ho];rcases Nat.lt_trichotomy o e with hl | hl | hl
  ·exact absurd h1 (hb o hl)
  ·omega
  ·exact absurd h (h2 e hl)
theorem Jle {r:List UInt8} (h0:dgR 7 r≠[]) (h1:¬ (at_ r 0=48∧1<(dgR 7 r).length)) (h2:valD (dgR 7 r)≤1000000) (h3:r[(dgR 7 r).length]? = some 93) :
  Ce (91 :: r)=(⟨true,[],(valD (dgR 7 r):Nat)⟩,(dgR 7 r).length+2):=by
 have hl:=Jd2 7 r;have hp:=Jdy 7 r;have hall:=Jc6 7 r;generalize dgR 7 r=t at *
 have hlt:0<t.length:=List.length_pos_iff.2 h0;have he:eI (91 :: r)=((t.length+1:Nat):Int):=by
  refine eI_of (by simpa using h3) fun j hj hjs=>?_
  cases j with
  | zero=>simp at hjs
  | succ j =>
   rw [List.getElem?_cons_succ] at hjs;have hjt:t[j]? = some 93:=by rw [hp,List.getElem?_take_of_lt omg];exact hjs
   have:=hall 93 (List.mem_of_getElem? hjt);unfold isDg at this;simp at this
 have hT:pT (91 :: r)=t:=by
  unfold pT;rw [he,List.drop_succ_cons,List.drop_zero];rw [show ((t.length+1:Nat):Int).toNat - 1=t.length by omega];exact hp.symm
 have ha0:at_ t 0=at_ r 0:=by
  rw [hp];simp only [at_,List.getD_eq_getElem?_getD];rw [List.getElem?_take_of_lt omg]
 have hcan:=Sa (t.length - 1) t omg hall (by rw [ha0];omega);unfold Ce;rw [if_pos ⟨rfl,by omega,by omega⟩,hT,Jbw h0 hl.1 hall];simp only;rw [if_pos ⟨by omega,by omega,by rw [Lib.itoa_nonneg,hcan.1]⟩,he];rfl
theorem Jxw {r:List UInt8} (h:(Ce (91 :: r)).2≠0):dgR 7 r≠[]∧¬ (at_ r 0=48∧1<(dgR 7 r).length)∧valD (dgR 7 r)≤1000000∧r[(dgR 7 r).length]? = some 93:=by
 unfold Ce at h;split at h
 case isFalse=>exact absurd rfl h
 rename_i hc;obtain ⟨-,hc1,hc2⟩:=hc;obtain ⟨e,he⟩:∃ e:Nat,eI (91 :: r)=e:=⟨(eI (91 :: r)).toNat,by omega⟩
 have hlt:=Jea he;have h93:=(Lib.indexByte_some (show Lib.indexByte (91 :: r) ((93:Int).toNat.toUInt8)=e from he)).1;rw [show (93:Int).toNat.toUInt8=93 from rfl] at h93;obtain ⟨k,rfl⟩:∃ k,e=k+1:=⟨e - 1,by omega⟩
 rw [List.getElem?_cons_succ] at h93;have hT:pT (91 :: r)=r.take k:=by
  unfold pT;rw [he,List.drop_succ_cons,List.drop_zero];rw [show ((k+1:Nat):Int).toNat - 1=k by omega]
 rw [hT] at h;split at h
 case h_2=>exact absurd rfl h
 rename_i n _;split at h
 case isFalse=>exact absurd rfl h
 rename_i hn;obtain ⟨hn0,hn1,hn2⟩:=hn;obtain ⟨m,rfl⟩:∃ m:Nat,n=m:=⟨n.toNat,by omega⟩
 rw [Lib.itoa_nonneg] at hn2;have hkl:k<r.length:=(List.getElem?_eq_some_iff.1 h93).1;have hlen:(Lib.decDigits m).length=k:=by rw [hn2,List.length_take];omega
 have hrun:dgR 7 r=Lib.decDigits m:=by
  have:=Jkf (Lib.decDigits m) (r.drop k) 7 (Jmj m) omg (fun c q hcq=>by
   rw [List.drop_eq_getElem_cons hkl] at hcq;cases hcq;have:=(List.getElem?_eq_some_iff.1 h93).2;rw [this];unfold isDg;simp)
  rw [hn2,List.take_append_drop] at this;rw [this,hn2]
 rw [hrun,hlen,Xc];refine ⟨U6 m,fun ⟨g1,g2⟩=>?_,by omega,h93⟩;cases hd:Lib.decDigits m with
 | nil=>exact U6 m hd
 | cons c q =>
  have hr0:at_ r 0=c.toNat:=by
   have:(r.take k)[0]? = some c:=by rw [← hn2,hd];rfl
   rw [List.getElem?_take_of_lt omg] at this;exact Jvg this
  have:=(Jg0 m c q hd omg).1;subst this;rw [hd] at hlen;simp at hlen;omega
theorem Jvt {u:List UInt8} (h:(Ce u).2=0):Ce u=(Dv,0):=by
 unfold Ce at h ⊢;by_cases c:u.take 1=[91]∧2≤eI u∧eI u≤8
 ·rw [if_pos c] at h ⊢;cases ha:Lib.atoiAll (pT u) with
  | ok n =>
   rw [ha] at h;simp only at h ⊢;by_cases d:0≤n∧n≤1000000∧Lib.itoa n=pT u
   ·rw [if_pos d] at h;cases h
   ·rw [if_neg d]
  | range=>rfl
  | _=>rfl
 ·rw [if_neg c]
def Jtg (s:List UInt8) (i:Nat):Step×Nat :=
 if i<s.length∧at_ s i=91 then
  if 0≤(figS s (i+1)).1∧(figS s (i+1)).2<s.length∧at_ s (figS s (i+1)).2=93 then (⟨true,[],(figS s (i+1)).1⟩,(figS s (i+1)).2+1 - i) else (Dv,0)
 else (Dv,0)
theorem J6n (s:List UInt8) (i:Nat):Jtg s i=Ce (s.drop i):=by
 unfold Jtg;by_cases hi:i<s.length∧at_ s i=91
 ·rw [if_pos hi];obtain ⟨hl,ha⟩:=hi;have hd:=List.drop_eq_getElem_cons hl;have h91:s[i]=91:=UInt8.toNat_inj.1 (by rw [← Jvg (List.getElem?_eq_getElem hl),ha];rfl);rw [h91] at hd;rw [hd];have ha0:at_ (s.drop (i+1)) 0=at_ s (i+1):=Ko s (i+1) 0;have hr:(s.drop (i+1))[(dgR 7 (s.drop (i+1))).length]? = s[i+1+(dgR 7 (s.drop (i+1))).length]?:=List.getElem?_drop;have h93:∀ j,(j<s.length∧at_ s j=93) ↔ s[j]? = some 93:=fun j=>by
   constructor
   ·rintro ⟨h1,h2⟩;rw [List.getElem?_eq_getElem h1];congr 1;exact UInt8.toNat_inj.1 (by rw [← Jvg (List.getElem?_eq_getElem h1),h2];rfl)
   ·intro h;exact ⟨(List.getElem?_eq_some_iff.1 h).1,Jvg h⟩
  by_cases hf:dgR 7 (s.drop (i+1))≠[]∧¬ (at_ (s.drop (i+1)) 0=48∧1<(dgR 7 (s.drop (i+1))).length)∧valD (dgR 7 (s.drop (i+1)))≤1000000
  ·have hfl:(dgR 7 (s.drop (i+1))).length≠0:=fun h=>hf.1 (List.eq_nil_of_length_eq_zero h)
   have e:figS s (i+1)=(((valD (dgR 7 (s.drop (i+1))):Nat):Int),i+1+(dgR 7 (s.drop (i+1))).length):=by
    unfold figS;rw [if_neg];rintro (h | h | h)
    ·exact hfl h
    ·exact hf.2.1 (by rw [ha0];exact h)
    ·omega
   rw [e];simp only;by_cases hb:s[i+1+(dgR 7 (s.drop (i+1))).length]? = some 93
   ·rw [if_pos ⟨by omega,(h93 _).2 hb⟩,Jle hf.1 hf.2.1 hf.2.2 (by rw [hr];exact hb)];congr 1;omega
   ·rw [if_neg (fun h=>hb ((h93 _).1 h.2))];refine (Jvt (Decidable.byContradiction fun h=>hb ?_)).symm;rw [← hr];exact (Jxw h).2.2.2
  ·have e:figS s (i+1)=(-1,i+1):=by
    unfold figS;rw [if_pos];apply Decidable.byContradiction;intro h;refine hf ⟨fun h'=>h (.inl (by rw [h'];rfl)),fun h'=>h (.inr (.inl (by rw [← ha0];exact h'))),?_⟩;omega
   rw [e];rw [if_neg (fun h=>by have:=h.1;simp only at this;omega)];refine (Jvt (Decidable.byContradiction fun h=>hf ?_)).symm;have:=Jxw h;exact ⟨this.1,this.2.1,this.2.2.1⟩
 ·rw [if_neg hi];unfold Ce;rw [if_neg];rintro ⟨h,-⟩;have hl:i<s.length:=by
   apply Decidable.byContradiction;intro hn;rw [List.drop_eq_nil_of_le omg] at h;cases h
  rw [List.drop_eq_getElem_cons hl,List.take_succ_cons,List.take_zero] at h;have:s[i]=91:=by simpa using h
  exact hi ⟨hl,by rw [Jvg (List.getElem?_eq_getElem hl),this];rfl⟩
def H3 (s:List UInt8) (j:Nat):Prop:=letP (at_ s j)∨(0<j∧figP (at_ s j))
instance (s:List UInt8) (j:Nat):Decidable (H3 s j):=inferInstanceAs (Decidable (_∨_))
theorem Wt (s:List UInt8):∀ f i,i≤s.length→s.length+1≤i+f→(∀ j,i≤j→j<wF s f i→H3 s j)∧(wF s f i<s.length→¬ H3 s (wF s f i))
 | 0,i,h,h2=>by omega
 | f+1,i,h,h2=>by
  rw [wF];split
  ·rename_i hc;obtain ⟨g1,g2⟩:=Wt s f (i+1) omg omg;refine ⟨fun j h3 h4=>?_,g2⟩;by_cases hj:j=i
   ·subst hj;exact hc.2
   ·exact g1 j omg h4
  ·rename_i hc;exact ⟨fun j h3 h4=>by omega,fun hl hg=>hc ⟨hl,hg⟩⟩
theorem Sh {s:List UInt8} {j:Nat} (h:j<Dm s):H3 s j:=(Wt s (s.length+1) 0 (Nat.zero_le _) omg).1 j (Nat.zero_le _) h
theorem Jam {s:List UInt8} (h:Dm s<s.length):¬ H3 s (Dm s):=(Wt s (s.length+1) 0 (Nat.zero_le _) omg).2 h
theorem J6a {s:List UInt8} {m j:Nat} (h:j<m):at_ (s.take m) j=at_ s j:=by
 simp only [at_,List.getD_eq_getElem?_getD];rw [List.getElem?_take_of_lt h]
theorem Jwl {u:List UInt8} {j:Nat} (hj:j<u.length) (hw:j≤Dm u):isWd (u.take (j+1)) ↔ j<Dm u:=by
 have hl:(u.take (j+1)).length=j+1:=by rw [List.length_take];omega
 have hle:=P3 (u.take (j+1));have hne:u.take (j+1)≠[]:=fun e=>by rw [e] at hl;simp at hl
 have hat:∀ x,x<j+1→(H3 (u.take (j+1)) x ↔ H3 u x):=fun x hx=>by unfold H3;rw [J6a hx]
 constructor
 ·rintro ⟨_,h⟩;rw [hl] at h;have h1:=(hat j omg).1 (Sh omg);apply Decidable.byContradiction;intro hn;have e:Dm u=j:=by omega
  exact Jam (s:=u) omg (by rw [e];exact h1)
 ·intro h;refine ⟨hne,?_⟩;apply Decidable.byContradiction;intro hn;have hlt:Dm (u.take (j+1))<j+1:=by omega
  exact Jam (s:=u.take (j+1)) omg ((hat _ hlt).2 (Sh omg))
def Jsf (s:List UInt8) (i:Nat) (first:Bool):Step×Nat :=
 if (Bw (s.drop i)).2≠0 then Bw (s.drop i)
 else if first=true then (if (i<s.length∧at_ s i=46)∧(Jtg s (i+1)).2≠0 then ((Jtg s (i+1)).1,(Jtg s (i+1)).2+1) else (Dv,0))
 else if i<s.length∧at_ s i=46 then (Dv,0) else Jtg s i
theorem Jwa {s:List UInt8} {i:Nat}:(s.drop i).take 1=[46] ↔ (i<s.length∧at_ s i=46):=by
 constructor
 ·intro h;have hl:i<s.length:=by
   apply Decidable.byContradiction;intro hn;rw [List.drop_eq_nil_of_le omg] at h;cases h
  rw [List.drop_eq_getElem_cons hl,List.take_succ_cons,List.take_zero] at h;have:s[i]=46:=by simpa using h
  exact ⟨hl,by rw [Jvg (List.getElem?_eq_getElem hl),this];rfl⟩
 ·rintro ⟨hl,ha⟩;rw [List.drop_eq_getElem_cons hl,List.take_succ_cons,List.take_zero];congr 1;exact UInt8.toNat_inj.1 (by rw [← Jvg (List.getElem?_eq_getElem hl),ha];rfl)
theorem J1i {s:List UInt8} {i:Nat} (h:i≤s.length):i≤(figS s i).2∧(figS s i).2≤s.length∧(figS s i).1≤1000000∧-1≤(figS s i).1:=by
 have:=(Jd2 7 (s.drop i)).2;rw [List.length_drop] at this;unfold figS;split
 ·exact ⟨Nat.le_refl _,h,by simp,by simp⟩
 ·simp only;omega
theorem J21 {s:List UInt8} {i:Nat} (h:¬ (i<s.length∧at_ s i=91∧0≤(figS s (i+1)).1∧(figS s (i+1)).2<s.length∧at_ s (figS s (i+1)).2=93)):Jtg s i=(Dv,0):=by
 unfold Jtg;by_cases h1:i<s.length∧at_ s i=91
 ·rw [if_pos h1,if_neg (fun h2=>h ⟨h1.1,h1.2,h2⟩)]
 ·rw [if_neg h1]
theorem J0i {s:List UInt8} {i:Nat} (h:i<s.length∧at_ s i=91∧0≤(figS s (i+1)).1∧(figS s (i+1)).2<s.length∧at_ s (figS s (i+1)).2=93):Jtg s i=(⟨true,[],(figS s (i+1)).1⟩,(figS s (i+1)).2+1 - i):=by
 unfold Jtg;rw [if_pos ⟨h.1,h.2.1⟩,if_pos h.2.2]
theorem J15 (s:List UInt8) (i:Nat) (first:Bool) (hs:s.length≤1000000) (hi:i≤s.length) (hd:¬ (i<s.length∧at_ s i=46)):Det cx 55 [.p (.str s),.p (.int .i64 i),.p (.bool first)] [] (.tup [.agg (Jsf s i first).1.cells,.int .i64 (i+(Jsf s i first).2:Nat)]) []:=by
 have hf:(Bw (s.drop i)).2=0:=by unfold Bw;rw [if_neg (fun h=>hd (Jwa.1 h))]
 have e:Jsf s i first=if first=true then (Dv,0) else Jtg s i:=by
  unfold Jsf;rw [if_neg omg,if_neg (c:=(i<s.length∧at_ s i=46)∧_) (fun h=>hd h.1),if_neg hd]
 rw [e];cases first
 ·rw [if_neg sm];(refine bgo Tryz.func55 ?_;simp only [go_sem,simprocAttr,wi1 (i:=i) omg]);(repeat' (first | (apply iteI <;> intro h)|(refine Jqd ?_)|((refine Jqa (J0t s (i+1) hs omg) ?_);simp only [go_sem,simprocAttr,wi1 (i:=i) omg])|(exfalso;omega)))
  all_goals first
   | (rw [J21 omg];exact ⟨rfl,rfl⟩)
   | (
    have hl:=J1i (s:=s) (i:=i+1) omg;rw [J0i omg,Aa omg omg];refine ⟨rfl,?_⟩;simp only;omega)
 ·(refine bgo Tryz.func55 ?_;simp only [go_sem,simprocAttr,wi1 (i:=i) omg]);(repeat' (first | (apply iteI <;> intro h)|(refine Jqd ?_)|(exfalso;omega)))
  all_goals exact ⟨rfl,rfl⟩
theorem J4f (s:List UInt8) (i:Nat) (first:Bool) (hs:s.length≤1000000) (hi:i<s.length) (hd:at_ s i=46):Det cx 55 [.p (.str s),.p (.int .i64 i),.p (.bool first)] [] (.tup [.agg (Jsf s i first).1.cells,.int .i64 (i+(Jsf s i first).2:Nat)]) []:=by
 have hdot:=Jwa.2 ⟨hi,hd⟩;have hdr:(s.drop i).drop 1=s.drop (i+1):=by rw [List.drop_drop]
 have hwl:=P3 (s.drop (i+1));have hlen:(s.drop (i+1)).length=s.length - (i+1):=List.length_drop;rw [hlen] at hwl;(refine bgo Tryz.func55 ?_;simp only [go_sem,simprocAttr,wi1 (i:=i) omg]);(repeat' (first | (apply iteI <;> intro h)|(refine Jqd ?_)|(exfalso;omega)));refine SWP.loop (fun k:Nat=>⟨Ba 129 [(0,.p (.str s)),(1,.p (.int .i64 (i+1:Nat))),(2,.p (.bool first)),(6,.ptr 6 0 0),(8,.p (.int .i64 i)),(9,.p (.int .i64 (i+1+k:Nat)))],[(6,.var 46 [.p (.bool false),.p (.str []),.p (.int .i64 0)])]⟩) (fun k=>k≤Dm (s.drop (i+1))) (fun k=>Dm (s.drop (i+1)) - k) 0 Jqc (Nat.zero_le _) ?_;intro k hk;have hsub:i+1+k+1 - (i+1)=k+1:=by omega
 have hw1:=wi1 (i:=i+1+k) omg;by_cases hlt:k<Dm (s.drop (i+1))
 ·have hW:decide (isWd ((s.drop (i+1)).take (k+1)))=true:=decide_eq_true ((Jwl omg hk).2 hlt);(refine lws ?_;simp only [go_sem,simprocAttr,wi1 (i:=i) omg,hsub,hw1]);(repeat' (first | (apply iteI <;> intro h)|(refine Jqd ?_)|((refine Jqa (Jty ((s.drop (i+1)).take (k+1)) (by rw [List.length_take];omega)) ?_);simp only [go_sem,simprocAttr,wi1 (i:=i) omg,hw1,hW])|(exfalso;omega)));exact ⟨k+1,by omega,by omega,Jqc⟩
 ·have hkw:k=Dm (s.drop (i+1)):=by omega
  by_cases hk0:0<k
  ·have ef:Bw (s.drop i)=(⟨false,(s.drop (i+1)).take k,0⟩,k+1):=by
    unfold Bw;rw [if_pos hdot,hdr,if_pos omg,hkw]
   have e:Jsf s i first=(⟨false,(s.drop (i+1)).take k,0⟩,k+1):=by
    unfold Jsf;rw [ef,if_pos (Nat.succ_ne_zero _)]
   have hfin:([PV.bool false,PV.str (List.take (i+1+k - (i+1)) (List.drop (i+1) s)),PV.int IntKind.i64 0]=(Jsf s i first).1.cells∧((i+1+k:Nat):Int)=((i+(Jsf s i first).2:Nat):Int)):=by
    rw [e];refine ⟨?_,?_⟩
    ·rw [show i+1+k - (i+1)=k by omega];rfl
    ·simp only;omega
   by_cases hend:i+1+k<s.length
   ·have hW:decide (isWd ((s.drop (i+1)).take (k+1)))=false:=decide_eq_false (fun h=>hlt ((Jwl omg hk).1 h));(refine lws ?_;simp only [go_sem,simprocAttr,wi1 (i:=i) omg,hsub,hw1]);(repeat' (first | (apply iteI <;> intro h)|(refine Jqd ?_)|((refine Jqa (Jty ((s.drop (i+1)).take (k+1)) (by rw [List.length_take];omega)) ?_);simp only [go_sem,simprocAttr,wi1 (i:=i) omg,hW])|(exfalso;omega)));exact hfin
   ·have hW:=hw1;(refine lws ?_;simp only [go_sem,simprocAttr,wi1 (i:=i) omg,hsub,hw1]);(repeat' (first | (apply iteI <;> intro h)|(refine Jqd ?_)|(exfalso;omega)));exact hfin
  ·have hk1:k=0:=by omega
   subst hk1;have hdl:(s.drop (i+1)).length≤1000000:=by omega
   obtain ⟨u1,u2,u3⟩:=Jl8 (s.drop (i+1));rw [hlen] at u2 u3;have hsub:i+1+0+1 - (i+1)=1:=by omega
   have hsubq:i+1+(uq (s.drop (i+1))).2.1 - (i+1)=(uq (s.drop (i+1))).2.1:=by omega
   have hwq:=wia (i:=i+1) (j:=(uq (s.drop (i+1))).2.1) omg omg;have hG:(uq (s.drop (i+1))).2.2=0→¬ isWd (uq (s.drop (i+1))).1→refQ (uq (s.drop (i+1))).1=(s.drop (i+1)).take (uq (s.drop (i+1))).2.1→Jsf s i first=(⟨false,(uq (s.drop (i+1))).1,0⟩,(uq (s.drop (i+1))).2.1+1):=fun g1 g2 g3=>by
    have ef:Bw (s.drop i)=(⟨false,(uq (s.drop (i+1))).1,0⟩,(uq (s.drop (i+1))).2.1+1):=by
     unfold Bw;rw [if_pos hdot,hdr,if_neg omg,if_neg];rintro (h | h | h)
     ·exact h g1
     ·exact g2 h
     ·exact h g3
    unfold Jsf;rw [ef,if_pos (Nat.succ_ne_zero _)]
   have hB:¬ ((uq (s.drop (i+1))).2.2=0∧¬ isWd (uq (s.drop (i+1))).1∧refQ (uq (s.drop (i+1))).1=(s.drop (i+1)).take (uq (s.drop (i+1))).2.1)→Jsf s i first=if first=true then (if (Jtg s (i+1)).2≠0 then ((Jtg s (i+1)).1,(Jtg s (i+1)).2+1) else (Dv,0)) else (Dv,0):=fun hb=>by
    have ef:Bw (s.drop i)=(Dv,0):=by
     unfold Bw;rw [if_pos hdot,hdr,if_neg omg,if_pos];apply Decidable.byContradiction;intro hn;refine hb ⟨?_,?_,?_⟩
     ·exact Decidable.byContradiction fun h=>hn (.inl h)
     ·exact fun h=>hn (.inr (.inl h))
     ·exact Decidable.byContradiction fun h=>hn (.inr (.inr h))
    unfold Jsf;rw [ef,if_neg (fun h=>h rfl),if_pos (c:=i<s.length∧at_ s i=46) ⟨hi,hd⟩];by_cases hp:(Jtg s (i+1)).2≠0
    ·rw [if_pos hp,if_pos (c:=(i<s.length∧at_ s i=46)∧_) ⟨⟨hi,hd⟩,hp⟩]
    ·rw [if_neg hp,if_neg (c:=(i<s.length∧at_ s i=46)∧_) (fun h=>hp h.2)]
   have hB1:¬ ((uq (s.drop (i+1))).2.2=0∧¬ isWd (uq (s.drop (i+1))).1∧refQ (uq (s.drop (i+1))).1=(s.drop (i+1)).take (uq (s.drop (i+1))).2.1)→first=false→Jsf s i first=(Dv,0):=fun hb hf=>by rw [hB hb,hf,if_neg sm]
   have hB2:¬ ((uq (s.drop (i+1))).2.2=0∧¬ isWd (uq (s.drop (i+1))).1∧refQ (uq (s.drop (i+1))).1=(s.drop (i+1)).take (uq (s.drop (i+1))).2.1)→¬ first=false→¬ (i+1<s.length∧at_ s (i+1)=91∧0≤(figS s (i+1+1)).1∧(figS s (i+1+1)).2<s.length∧at_ s (figS s (i+1+1)).2=93)→Jsf s i first=(Dv,0):=fun hb hf h=>by
    rw [hB hb,J21 h];cases first <;> rfl
   have hB3:¬ ((uq (s.drop (i+1))).2.2=0∧¬ isWd (uq (s.drop (i+1))).1∧refQ (uq (s.drop (i+1))).1=(s.drop (i+1)).take (uq (s.drop (i+1))).2.1)→¬ first=false→(i+1<s.length∧at_ s (i+1)=91∧0≤(figS s (i+1+1)).1∧(figS s (i+1+1)).2<s.length∧at_ s (figS s (i+1+1)).2=93)→Jsf s i first=(⟨true,[],(figS s (i+1+1)).1⟩,(figS s (i+1+1)).2+1 - (i+1)+1):=fun hb hf h=>by
    have hl:=J1i (s:=s) (i:=i+1+1) omg;rw [hB hb,J0i h,if_pos (by cases first <;> simp_all),if_pos (by simp only;omega)]
   have hwi:IntKind.i64.wrap ((i+1:Nat)+1:Int)=((i+1+1:Nat):Int):=wi1 omg;by_cases hend:i+1+0<s.length
   ·have hW:decide (isWd ((s.drop (i+1)).take (0+1)))=false:=decide_eq_false (fun h=>hlt ((Jwl omg hk).1 h));have hl:=J1i (s:=s) (i:=i+1+1) omg;(refine lws ?_;simp only [go_sem,simprocAttr,wi1 (i:=i) omg,hsub,hw1]);(repeat' (first | (apply iteI <;> intro h)|(refine Jqd ?_)|((first | (refine Jql ?_)|(refine Jqa (Jty ((s.drop (i+1)).take (0+1)) (by rw [List.length_take];omega)) ?_)|(refine Jqa (Jv6 (s.drop (i+1)) hdl) ?_)|(refine Jqe (Jty (uq (s.drop (i+1))).1 omg) ?_)|(refine Jqe (Jzd (uq (s.drop (i+1))).1 omg) ?_)|(refine Jqa (J0t s (i+1+0+1) hs omg) ?_));simp only [go_sem,simprocAttr,wi1 (i:=i) omg,hw1,hW,hsubq,hwq])|(exfalso;omega)))
    all_goals simp only [Nat.add_zero] at *
    all_goals first
     | (exfalso;omega)
     | (rw [hG omg (by assumption) (by assumption)];exact ⟨rfl,by simp only;omega⟩)
     | (rw [hB1 (fun ⟨a,b,c⟩=>by first | omega | (exact absurd b (by assumption))|(exact absurd c (by assumption))) (by assumption)];exact ⟨rfl,rfl⟩)
     | (rw [hB2 (fun ⟨a,b,c⟩=>by first | omega | (exact absurd b (by assumption))|(exact absurd c (by assumption))) (by assumption) omg];exact ⟨rfl,rfl⟩)
     | (rw [hB3 (fun ⟨a,b,c⟩=>by first | omega | (exact absurd b (by assumption))|(exact absurd c (by assumption))) (by assumption) omg,Aa omg omg];exact ⟨rfl,by simp only;omega⟩)
   ·have hW:=hw1;(refine lws ?_;simp only [go_sem,simprocAttr,wi1 (i:=i) omg,hsub,hw1]);(repeat' (first | (apply iteI <;> intro h)|(refine Jqd ?_)|((first | (refine Jql ?_)|(refine Jqa (Jv6 (s.drop (i+1)) hdl) ?_)|(refine Jqe (Jty (uq (s.drop (i+1))).1 omg) ?_)|(refine Jqe (Jzd (uq (s.drop (i+1))).1 omg) ?_));simp only [go_sem,simprocAttr,wi1 (i:=i) omg,hw1,hsubq,hwq])|(exfalso;omega)))
    all_goals simp only [Nat.add_zero] at *
    all_goals first
     | (exfalso;omega)
     | (rw [hG omg (by assumption) (by assumption)];exact ⟨rfl,by simp only;omega⟩)
     | (rw [hB1 (fun ⟨a,b,c⟩=>by first | omega | (exact absurd b (by assumption))|(exact absurd c (by assumption))) (by assumption)];exact ⟨rfl,rfl⟩)
     | (rw [hB2 (fun ⟨a,b,c⟩=>by first | omega | (exact absurd b (by assumption))|(exact absurd c (by assumption))) (by assumption) omg];exact ⟨rfl,rfl⟩)
theorem d_step (s:List UInt8) (i:Nat) (first:Bool) (hs:s.length≤1000000) (hi:i≤s.length):Det cx 55 [.p (.str s),.p (.int .i64 i),.p (.bool first)] [] (.tup [.agg (Jsf s i first).1.cells,.int .i64 (i+(Jsf s i first).2:Nat)]) []:=by
 by_cases hd:i<s.length∧at_ s i=46
 ·exact J4f s i first hs hd.1 hd.2
 ·exact J15 s i first hs hi hd
theorem J48 {s:List UInt8} {i:Nat}:Jsf s i (decide (i=0))=Ee s i:=by
 unfold Jsf Ee;by_cases hf:(Bw (s.drop i)).2≠0
 ·rw [if_pos hf,if_pos hf]
 ·rw [if_neg hf,if_neg hf,J6n,J6n];by_cases hi:i=0
  ·rw [if_pos (decide_eq_true hi),if_pos hi];subst hi;have hd:=Jwa (s:=s) (i:=0);rw [List.drop_zero] at hd;by_cases h1:s.take 1=[46]
   ·by_cases h2:(Ce (s.drop (0+1))).2≠0
    ·rw [if_pos ⟨hd.1 h1,h2⟩,if_pos ⟨h1,h2⟩]
    ·rw [if_neg (fun h=>h2 h.2),if_neg (fun h=>h2 h.2)]
   ·rw [if_neg (fun h=>h1 (hd.2 h.1)),if_neg (fun h=>h1 h.1)]
  ·rw [if_neg (fun h=>hi (of_decide_eq_true h)),if_neg hi];by_cases hdt:i<s.length∧at_ s i=46
   ·rw [if_pos hdt];refine (Jvt ?_).symm;unfold Ce;rw [if_neg];rintro ⟨h,-⟩;rw [Jwa.2 hdt] at h;cases h
   ·rw [if_neg hdt]
theorem J7e {s:List UInt8} {i:Nat} (h:s.length≤i):(Ee s i).2=0:=by
 have hd:s.drop i=[]:=List.drop_eq_nil_of_le h;unfold Ee;have hf:Bw []=(Dv,0):=rfl;have hp:Ce []=(Dv,0):=rfl;rw [hd,hf,if_neg (fun h=>h rfl),hp];split
 ·have:s=[]:=List.eq_nil_of_length_eq_zero omg;subst this;rfl
 ·rfl
def begS (s:List UInt8):List Step×Nat:=if (Mp s).1.length=0∧s.take 1=[46] then ((Mp s).1,1) else Mp s
theorem J3b (s:List UInt8) (hs:s.length≤1000000):Det cx 39 [.p (.str s),.p (.int .i64 0)] [] (.tup [.sl (Bb (begS s).1),.int .i64 (begS s).2]) []:=by
 (refine bgo Tryz.func39 ?_;simp only [go_sem,simprocAttr]);refine Jqn (B1 [(10,30)] _ sm) ?_;simp only [go_sem,simprocAttr];refine SWP.loop (fun x:Nat×Nat×List Step=>⟨Ba 52 [(0,.p (.str s)),(1,.p (.int .i64 x.1)),(6,.own 30 0 x.2.2.length),(7,.p (.int .i64 0))],[(30,.row 46 3 (Bb x.2.2))]⟩) (fun x=>x.1≤s.length∧s.length+1≤x.1+x.2.1∧x.2.2.length≤20∧(x.2.2.length=0 ↔ x.1=0)∧Fl s x.2.1 x.1 x.2.2=Mp s) (fun x=>s.length - x.1) (0,s.length+1,[]) (by rw [show Bb []=[] from rfl];exact Jqc) ⟨Nat.zero_le _,by simp,by simp,by simp,rfl⟩ ?_;rintro ⟨i,f,p⟩ ⟨h1,h2,h3,h5,h4⟩;simp only at h1 h2 h3 h4 h5;have hstep:=d_step s i (decide (i=0)) hs h1;rw [J48] at hstep;have hnl:=Jwf h1;have hfd:((p.length:Int) == 0)=decide (i=0):=by
  rw [Bool.eq_iff_iff,beq_iff_eq,decide_eq_true_eq];omega
 have htk:(Bb p).take p.length=Bb p:=List.take_of_length_le sm;have hbeg:Fl s f i p=(p,i)→begS s=if p.length=0∧s.take 1=[46] then (p,1) else (p,i):=fun h=>by
  rw [h] at h4;unfold begS;rw [← h4]
 have hdot:=Jwa (s:=s) (i:=0);rw [List.drop_zero] at hdot;by_cases hc:p.length<20
 ·by_cases hn:(Ee s i).2=0
  ·have hst:Fl s f i p=(p,i):=Gv fun h=>h.2.2 hn
   have hb:=hbeg hst;have hw:=hn;have hel:=hfd;(refine lws ?_;simp only [go_sem,simprocAttr,Aq,htk,Nat.le_refl,hel]);(repeat' (first | (apply iteI <;> intro h)|(refine Jqd ?_)|((refine Jqa (hstep) ?_);simp only [go_sem,simprocAttr,Aq,htk,Nat.le_refl,Step.cells,hel,hw])|(exfalso;omega)))
   ·rw [hb,if_pos ⟨by omega,hdot.2 ⟨by omega,by omega⟩⟩];exact ⟨rfl,rfl⟩
   ·rw [hb,if_neg (fun h=>by have:=(hdot.1 h.2).2;omega)];exact ⟨rfl,rfl⟩
   ·rw [hb,if_neg (fun h=>by have:=(hdot.1 h.2).1;omega)];exact ⟨rfl,rfl⟩
   ·rw [hb,if_neg (fun h=>by omega)];exact ⟨rfl,rfl⟩
  ·obtain ⟨g,rfl⟩:∃ g,f=g+1:=⟨f - 1,by omega⟩
   have hil:i<s.length:=Decidable.byContradiction fun h=>hn (J7e omg)
   rw [Fl,if_pos ⟨hil,hc,hn⟩] at h4;have hel:Bb p ++ [[.bool (Ee s i).1.part,.str (Ee s i).1.name,.int .i64 (Ee s i).1.n]]=Bb (p ++ [(Ee s i).1]):=by rw [Kn];rfl
   have hw:=hfd;(refine lws ?_;simp only [go_sem,simprocAttr,Aq,htk,Nat.le_refl,hfd]);(repeat' (first | (apply iteI <;> intro h)|(refine Jqd ?_)|((refine Jqa (hstep) ?_);simp only [go_sem,simprocAttr,Aq,htk,Nat.le_refl,Step.cells,hel,hfd])|(exfalso;omega)));refine ⟨by simp,by omega,by omega,(i+(Ee s i).2,g,p ++ [(Ee s i).1]),⟨?_,?_,?_,?_,h4⟩,?_,?_⟩
   ·simp only;omega
   ·simp only;omega
   ·simp only [List.length_append,List.length_singleton];omega
   ·simp only [List.length_append,List.length_singleton];constructor
    ·intro h;omega
    ·intro h;omega
   ·simp only;omega
   simp only [List.length_append,List.length_singleton];exact Jqc
 ·have hst:Fl s f i p=(p,i):=Gv fun h=>hc h.2.1
  have hb:=hbeg hst;have hw:=hfd;have hel:=hfd;(refine lws ?_;simp only [go_sem,simprocAttr,Aq,htk,Nat.le_refl,hel]);(repeat' (first | (apply iteI <;> intro h)|(refine Jqd ?_)|((refine Jqa (hstep) ?_);simp only [go_sem,simprocAttr,Aq,htk,Nat.le_refl,Step.cells,hel])|(exfalso;omega)));rw [hb,if_neg omg];exact ⟨rfl,rfl⟩
theorem J8a:begS [46]=([],1):=by
 have e:Mp [46]=([],0):=rfl;unfold begS;rw [e];rfl
theorem J0y {s:List UInt8}:∀ (f i:Nat) (p:List Step),i≤(Fl s f i p).2∧p.length≤(Fl s f i p).1.length∧((Fl s f i p).1.length=p.length→Fl s f i p=(p,i))
 | 0,i,p=>⟨Nat.le_refl _,Nat.le_refl _,fun _=>rfl⟩
 | f+1,i,p=>by
  rw [Fl];split
  ·have:=J0y (s:=s) f (i+(Ee s i).2) (p ++ [(Ee s i).1]);rw [List.length_append,List.length_singleton] at this;exact ⟨by omega,by omega,fun h=>by omega⟩
  ·exact ⟨Nat.le_refl _,Nat.le_refl _,fun _=>rfl⟩
theorem J61 (s:List UInt8) (hs:s.length≤1000000):Det cx 26 [.p (.str s)] [] (.tup [.sl (Bb (Je s).1),.int .i64 (Je s).2.1,.int .i64 (Je s).2.2]) []:=by
 refine Det.weak ?_;by_cases hd:s=[46]
 ·subst hd;have hB:=J3b [46] de;rw [J8a] at hB;(refine bgo Tryz.func26 ?_;simp only [go_sem,simprocAttr]);(repeat' (first | ((refine Jqa (hB) ?_);simp only [go_sem,simprocAttr]) | fail));exact .inl rfl
 ·have hd':(s=[46])=False:=eq_false hd;have hB:=J3b s hs;have hnil:=(J0y (s:=s) (s.length+1) 0 []).2.2;have hR0:(Mp s).1.length=0→Mp s=([],0):=hnil;have hb0:(begS s).1.length=0→(Mp s).1.length=0:=fun h=>by
   unfold begS at h;split at h
   ·exact h
   ·exact h
  have hb1:¬ (begS s).1.length=0→begS s=Mp s:=fun h=>by
   unfold begS at h ⊢;split
   ·rename_i hc;rw [if_pos hc] at h;exact absurd hc.1 h
   ·rfl
  (refine bgo Tryz.func26 ?_;simp only [go_sem,simprocAttr]);(repeat' (first | (apply iteI <;> intro h)|((refine Jqa (hB) ?_);simp only [go_sem,simprocAttr,hd',Aq]) | fail))
  ·have h0:=hR0 (hb0 omg);have e:Je s=([],0,1):=by
    unfold Je;rw [if_neg hd,h0];rw [if_pos (.inr rfl)]
   rw [e];exact Jr0 ⟨.nil,.refl _,.refl _,trivial⟩
  ·have hb:=hb1 omg;have hq:(begS s).2<s.length:=by omega
   rw [hb] at hq ⊢;have e:Je s=([],(Mp s).2,1):=by
    unfold Je;rw [if_neg hd,if_pos (.inl omg)]
   rw [e];exact Jr0 ⟨.nil,.refl _,.refl _,trivial⟩
  ·have hb:=hb1 omg;have hq:¬ (begS s).2<s.length:=by omega
   have hq2:¬ (begS s).1.length=0:=by omega
   rw [hb] at hq hq2 ⊢;have e:Je s=((Mp s).1,0,0):=by
    unfold Je;rw [if_neg hd,if_neg omg]
   rw [e];exact .inl rfl
def F8 (x y:Step):Prop:=x.part=y.part∧x.name=y.name∧x.n=y.n
instance (x y:Step):Decidable (F8 x y):=inferInstanceAs (Decidable (_∧_))
theorem Dc {x y:Step}:F8 x y ↔ x=y:=by
 unfold F8;constructor
 ·rintro ⟨h1,h2,h3⟩;cases x;cases y;simp_all
 ·rintro rfl;exact ⟨rfl,rfl,rfl⟩
def B7:List Step→List Step→Bool
 | x :: p,y :: q=>!decide (F8 x y) || B7 p q
 | _,_=>false
instance:DecidableEq Step:=fun x y=>decidable_of_iff _ (Dc (x:=x) (y:=y))
def inT:Tree→Step→Except Nat Tree
 | .mk k _ _ _ kids,x =>
  if x.part=true then (if k≠5 then .error 5 else match kids.list[x.n.toNat]? with
   | some p=>.ok p.2
   | none=>.error 6)
  else (if k≠6 then .error 5 else match Ch x.name kids.list with
   | some t=>.ok t
   | none=>.error 6)
theorem Iz {k:Int} {s:List UInt8} {g:Bool} {e:Int} {kids:Forest} {x:Step} (hp:x.part=true) (hk:¬ k=5):inT (.mk k s g e kids) x=.error 5:=by
 show (if x.part=true then (if k≠5 then Except.error 5 else _) else _)=_;rw [if_pos hp,if_pos hk]
theorem Iw {k:Int} {s:List UInt8} {g:Bool} {e:Int} {kids:Forest} {x:Step} (hp:x.part=false) (hk:¬ k=6):inT (.mk k s g e kids) x=.error 5:=by
 show (if x.part=true then _ else (if k≠6 then Except.error 5 else _))=_;rw [if_neg (by simp [hp]),if_pos hk]
theorem Tm {s:List UInt8} {g:Bool} {e:Int} {kids:Forest} {x:Step} (hp:x.part=true):inT (.mk 5 s g e kids) x=match kids.list[x.n.toNat]? with
   | some p=>.ok p.2
   | none=>.error 6:=by
 show (if x.part=true then _ else _)=_;rw [if_pos hp];rfl
theorem Tp {s:List UInt8} {g:Bool} {e:Int} {kids:Forest} {x:Step} (hp:x.part=false):inT (.mk 6 s g e kids) x=match Ch x.name kids.list with
   | some t=>.ok t
   | none=>.error 6:=by
 show (if x.part=true then _ else _)=_;rw [if_neg (by simp [hp])];rfl
def getT:List Step→Tree→Except Nat Tree
 | [],t=>.ok t
 | x :: p,t=>match inT t x with
  | .ok u=>getT p u
  | .error e=>.error e
theorem Jd7:∀ {f:Forest} {p:List UInt8×Tree},p∈f.list→(p.2.enc []).length≤f.enc.length
 | .nil,p,h=>by cases h
 | .cons nm t r,p,h=>by
  rw [A0,List.length_append];rcases List.mem_cons.1 h with rfl | h
  ·simp only;rw [G7 t nm];omega
  ·have:=Jd7 h;omega
theorem H2 {name:List UInt8}:∀ {l:List (List UInt8×Tree)} {t:Tree},Ch name l=some t→∃ p∈l,p.2=t∧p.1=name
 | [],t,h=>by cases h
 | p :: l,t,h=>by
  rw [Ch] at h;split at h
  ·cases h;exact ⟨p,List.mem_cons_self,rfl,by assumption⟩
  ·obtain ⟨q,h1,h2⟩:=H2 h;exact ⟨q,List.mem_cons_of_mem _ h1,h2⟩
end Go.LX
namespace Go.LX
open Go Go.RowKit Go.Proofs
section
variable {X:Cx} {ro:Option Nat} {c:Code} {Q:Ex→St→Prop}
end
theorem Al.sub {X:Cx} {f:FuncId} {args:List L} {rs:Regs} {Post Post':L→Regs→Prop} (h:Al X f args rs Post) (hp:∀ m q,Post m q→∃ q0,q0.Sublist q∧Post' m q0):Al X f args rs Post':=by
 refine ⟨h.1,fun β Im w vs hg hf=>(h.2 β Im w vs hg hf).mono fun e w' ⟨v,m,rs',β',Im',he,hP,hr,hc⟩=>?_⟩;obtain ⟨q0,hs,hP'⟩:=hp m rs' hP;have hf':=hc.fit;have key:∀ d r,(d,r)∈q0→(d,r)∈rs':=fun d r hd=>hs.subset hd
 exact ⟨v,m,q0,β',Im',he,hP',hr,{ hc with keys:=fun d r hd=>hc.keys d r (key d r hd),regnew:=fun d r loc hd hl=>hc.regnew d r loc (key d r hd) hl,fit:={ size:=hf'.size,tmps:=hf'.tmps,im:=hf'.im,regs:=fun d r hd=>hf'.regs d r (key d r hd),nodup:=hf'.nodup.sublist (hs.map _),live:=fun d r loc hd hl=>hf'.live d r loc (key d r hd) hl,apart:=fun d r d' r' l1 l2 hd hd' hne h1 h2=>hf'.apart d r d' r' l1 l2 (key d r hd) (key d' r' hd') hne h1 h2 } }⟩
def isSl:Option TypeDesc→Prop
 | some (.slice _)=>True
 | _=>False
theorem Hi {e:TypeId}:isSl (some (.slice e))=True:=(rfl)
def capR (off:Nat) (K:L→Prop):Option Reg→Prop
 | some (.lrow _ _ true es)=>K (.p (.int .i64 (es.length - off:Nat)))
 | _=>False
def capV (regs:Regs) (K:L→Prop):L→Prop
 | .p .snil=>K (.p (.int .i64 0))
 | .own d off _=>capR off K (Am d regs)
 | _=>False
theorem K9 {P:Program} {r:Regs} {t:List L} {o:Operand} {ty:TypeId} {K:L→Prop}:lqvK P r ⟨t,r⟩ (.call { callee:=.builtin .cap,args:=#[o],argTypes:=#[ty] }) K=(isSl (P.underlying ty)∧capV r K ((St.mk t r).get o)):=by
 have h1:(∃ e,P.underlying ty=some (.slice e)) ↔ isSl (P.underlying ty):=by
  unfold isSl;split
  ·rename_i e h;exact ⟨fun _=>trivial,fun _=>⟨e,h⟩⟩
  ·rename_i h;exact ⟨fun ⟨k,hk⟩=>h k hk,fun h=>h.elim⟩
 unfold lqvK lqv;simp only [h1];apply pe;constructor
 ·rintro ⟨l,⟨h,h'⟩,hK⟩;refine ⟨h,?_⟩;split at h'
  ·rename_i hg;rw [hg];subst h';exact hK
  ·rename_i d off n hg;rw [hg];show capR off K (Am d r);split at h'
   ·rename_i T sz es hr;rw [hr];subst h';exact hK
   ·exact h'.elim
  ·exact h'.elim
 ·rintro ⟨h,hK⟩;unfold capV at hK;split at hK
  ·rename_i hg;rw [hg];exact ⟨_,⟨h,rfl⟩,hK⟩
  ·rename_i d off n hg;rw [hg];unfold capR at hK;split at hK
   ·rename_i T sz es hr;simp only [hr];exact ⟨_,⟨h,rfl⟩,hK⟩
   ·exact hK.elim
  ·exact hK.elim
attribute [local irreducible] Al Bi SWP
def Cq (x:List UInt8):List (List UInt8)→Nat
 | []=>0
 | s :: l=>if Op.bytesLess s x=true then Cq x l+1 else 0
def strL (l:List (List UInt8)):List (List PV):=l.map fun s=>[.str s]
end Go.LX
namespace Go.LX
open Go
theorem E0:∀ a:List UInt8,Op.bytesLess a a=false
 | []=>rfl
 | x :: a=>by simp [Op.bytesLess,E0 a]
theorem H8:∀ {a b c:List UInt8},Op.bytesLess a b=true→Op.bytesLess b c=true→Op.bytesLess a c=true
 | _,[],_,h,_=>by simp [Op.bytesLess] at h
 | _,_ :: _,[],_,h=>by simp [Op.bytesLess] at h
 | [],_ :: _,_ :: _,_,_=>rfl
 | x :: a,y :: b,z :: c,h1,h2=>by
  simp only [Op.bytesLess,Bool.or_eq_true,decide_eq_true_eq,Bool.and_eq_true,beq_iff_eq] at h1 h2 ⊢;rcases h1 with h1 | ⟨rfl,h1⟩
  ·rcases h2 with h2 | ⟨rfl,h2⟩
   ·exact .inl (UInt8.lt_trans h1 h2)
   ·exact .inl h1
  ·rcases h2 with h2 | ⟨rfl,h2⟩
   ·exact .inl h2
   ·exact .inr ⟨rfl,H8 h1 h2⟩
theorem L3 {a b:List UInt8} (h:Op.bytesLess a b=true):Op.bytesLess b a=false:=by
 cases h':Op.bytesLess b a with
 | false=>rfl
 | true=>have:=H8 h h';rw [E0] at this;cases this
theorem bl_ne {a b:List UInt8} (h:Op.bytesLess a b=true):a≠b:=by
 rintro rfl;rw [E0] at h;cases h
theorem Qf:∀ {a b:List UInt8},Op.bytesLess a b=false→a≠b→Op.bytesLess b a=true
 | [],[],_,h=>absurd rfl h
 | [],_ :: _,h,_=>by simp [Op.bytesLess] at h
 | _ :: _,[],_,_=>rfl
 | x :: a,y :: b,h1,h2=>by
  simp only [Op.bytesLess,Bool.or_eq_false_iff,decide_eq_false_iff_not,Bool.and_eq_false_imp,beq_iff_eq] at h1;simp only [Op.bytesLess,Bool.or_eq_true,decide_eq_true_eq,Bool.and_eq_true,beq_iff_eq];obtain ⟨h3,h4⟩:=h1;by_cases hxy:x=y
  ·subst hxy;exact .inr ⟨rfl,Qf (h4 rfl) (by rintro rfl;exact h2 rfl)⟩
  ·left;rcases UInt8.lt_or_lt_of_ne hxy with h | h
   ·exact absurd h h3
   ·exact h
def nle (a b:List UInt8):Prop:=Op.bytesLess b a=false
abbrev KT:=List UInt8×Tree
def Rise (l:List KT):Prop:=l.Pairwise fun a b=>Op.bytesLess a.1 b.1=true
theorem Rise.tail {p:KT} {l:List KT} (h:Rise (p :: l)):Rise l:=(List.pairwise_cons.1 h).2
theorem Rise.nodup {l:List KT} (h:Rise l):(l.map (·.1)).Nodup:=by
 unfold List.Nodup;rw [List.pairwise_map];exact List.Pairwise.imp (fun h=>bl_ne h) h
def putL (name:List UInt8) (t:Tree):List KT→List KT
 | []=>[(name,t)]
 | p :: l=>if Op.bytesLess p.1 name=true then p :: putL name t l else (name,t) :: p :: l
def E1:List Bool→List KT→List KT
 | b :: D,p :: l=>if b=true then E1 D l else p :: E1 D l
 | _,_=>[]
def cntT:List Bool→Nat
 | []=>0
 | b :: D=>if b=true then cntT D+1 else cntT D
theorem Jdj:∀ D,cntT D≤D.length
 | []=>Nat.le_refl _
 | b :: D=>by have:=Jdj D;simp only [cntT,List.length_cons];split <;> omega
theorem Ya:∀ {D:List Bool} {b:Nat},D[b]? = some false→cntT (D.set b true)=cntT D+1
 | [],b,h=>by simp at h
 | x :: D,0,h=>by simp at h;subst h;simp [cntT]
 | x :: D,b+1,h=>by
  simp only [List.set_cons_succ,cntT,Ya (D:=D) (b:=b) (by simpa using h)];split <;> rfl
theorem Rn:∀ {D:List Bool} {l:List KT},cntT D=D.length→E1 D l=[]
 | [],_,_=>rfl
 | x :: D,[],_=>rfl
 | x :: D,p :: l,h=>by
  have:=Jdj D;cases x
  ·simp [cntT] at h;omega
  ·simp [cntT] at h;simp only [E1,if_true];exact Rn h
theorem Nf:∀ {D:List Bool} {l:List KT} {p:KT},p∈E1 D l→∃ j:Nat,l[j]? = some p∧D[j]? = some false
 | [],_,p,h=>by simp [E1] at h
 | x :: D,[],p,h=>by simp [E1] at h
 | x :: D,q :: l,p,h=>by
  unfold E1 at h;split at h
  ·obtain ⟨j,h1,h2⟩:=Nf h;exact ⟨j+1,by simpa using h1,by simpa using h2⟩
  ·rename_i hx;rcases List.mem_cons.1 h with rfl | h
   ·exact ⟨0,rfl,by simpa using hx⟩
   ·obtain ⟨j,h1,h2⟩:=Nf h;exact ⟨j+1,by simpa using h1,by simpa using h2⟩
theorem Ol:∀ {D:List Bool} {l:List KT} {p:KT} {j:Nat},l[j]? = some p→D[j]? = some false→p∈E1 D l
 | [],_,_,_,_,h=>by simp at h
 | _ :: _,[],_,_,h,_=>by simp at h
 | x :: D,q :: l,p,0,h,h'=>by
  simp at h h';subst h;subst h';simp [E1]
 | x :: D,q :: l,p,j+1,h,h'=>by
  have:=Ol (D:=D) (l:=l) (j:=j) (by simpa using h) (by simpa using h');unfold E1;split
  ·exact this
  ·exact List.mem_cons_of_mem _ this
theorem Qi:∀ {D:List Bool} {l:List KT} {p:KT} {j:Nat},l[j]? = some p→D[j]? = some false→(E1 D l).Perm (p :: E1 (D.set j true) l)
 | [],_,_,_,_,h=>by simp at h
 | _ :: _,[],_,_,h,_=>by simp at h
 | x :: D,q :: l,p,0,h,h'=>by
  simp at h h';subst h;subst h';simp [E1]
 | x :: D,q :: l,p,j+1,h,h'=>by
  have:=Qi (D:=D) (l:=l) (j:=j) (by simpa using h) (by simpa using h');simp only [List.set_cons_succ,E1];split
  ·exact this
  ·exact (this.cons q).trans (.swap _ _ _)
structure Picks (l S:List KT) (D:List Bool):Prop where
 len:D.length=l.length
 cnt:cntT D=S.length
 perm:(S ++ E1 D l).Perm l
 rise:Rise S
 low:∀ s∈S,∀ p∈E1 D l,nle s.1 p.1
theorem Picks.done {l S:List KT} {D:List Bool} (h:Picks l S D) (hn:S.length=l.length):S.Perm l:=by
 have:=h.perm;rw [Rn (by rw [h.cnt,hn,h.len]),List.append_nil] at this;exact this
theorem Picks.next {l S:List KT} {D:List Bool} (h:Picks l S D) {b:Nat} {p:KT} (hp:l[b]? = some p) (hb:D[b]? = some false) (hm:∀ (j:Nat) (q:KT),l[j]? = some q→D[j]? = some false→nle p.1 q.1) (hl:∀ q,S.getLast? = some q→q.1≠p.1):Picks l (S ++ [p]) (D.set b true):=by
 have hpr:=Ol hp hb;have ht:=Qi hp hb;refine ⟨by simp [h.len],by rw [Ya hb,h.cnt];simp,?_,?_,?_⟩
 ·rw [List.append_assoc];exact ((List.Perm.append_left S ht.symm)).trans h.perm
 ·refine List.pairwise_append.2 ⟨h.rise,List.pairwise_singleton _ _,fun s hs q hq=>?_⟩;rw [List.mem_singleton] at hq;subst hq;have h1:=h.low s hs q hpr;by_cases e:s.1=q.1
  ·exfalso;obtain ⟨S',z,rfl⟩:∃ S' z,S=S' ++ [z]:=by
    rcases List.eq_nil_or_concat S with rfl | ⟨S',z,rfl⟩
    ·cases hs
    ·exact ⟨S',z,by simp⟩
   have hz:=hl z sm;have h2:=h.low z sm q hpr;have h3:=Qf (a:=q.1) (b:=z.1) h2 (Ne.symm hz);rcases List.mem_append.1 hs with hs | hs
   ·have h4:=(List.pairwise_append.1 h.rise).2.2 s hs z sm;rw [e] at h4;have:=L3 h4;rw [h3] at this;cases this
   ·rw [List.mem_singleton] at hs;subst hs;exact hz e
  ·exact Qf (a:=q.1) (b:=s.1) h1 (Ne.symm e)
 ·intro s hs q hq;have hq':q∈E1 D l:=ht.mem_iff.2 (List.mem_cons_of_mem _ hq);rcases List.mem_append.1 hs with hs | hs
  ·exact h.low s hs q hq'
  ·rw [List.mem_singleton] at hs;subst hs;obtain ⟨j,h1,h2⟩:=Nf hq';exact hm j q h1 h2
end Go.LX
namespace Go.LX
open Go Go.RowKit Go.Proofs
attribute [local irreducible] Al SWP Bi
def J7 (D:List Bool):List (List PV):=D.map fun b=>[.bool b]
end Go.LX
namespace Go.LX
open Go
def Ja8 (c:UInt8):Bool:=decide (48≤c.toNat) && decide (c.toNat≤57)
def Pk (s:List UInt8):Bool:=s.all Ja8
def Yz (s:List UInt8) (g:Bool) (e:Int):Prop :=
 Pk s=true∧s.length≤100∧-1000≤e∧e≤1000∧(s.length:Int)+e≤1000∧(if s=[] then g=false∧e=0 else at_ s 0≠48∧at_ s (s.length - 1)≠48)
instance (s:List UInt8) (g:Bool) (e:Int):Decidable (Yz s g e):=by unfold Yz;infer_instance
def G3 (k:Int) (s:List UInt8) (g:Bool) (e:Int) (m:Int):Prop :=
 if k=0∨k=1∨k=2 then m=0∧s=[]∧g=false∧e=0 else if k=3 then m=0∧Yz s g e else if k=4 then valid s=true∧m=0∧g=false∧e=0 else if k=5∨k=6 then 0≤m∧s=[]∧g=false∧e=0 else False
instance (k:Int) (s:List UInt8) (g:Bool) (e m:Int):Decidable (G3 k s g e m):=by unfold G3;infer_instance
def Eh (k:Int) (l:List KT):Prop:=(k=5→∀ p∈l,p.1=[])∧(∀ p∈l,valid p.1=true)∧(k=6→Rise l)
mutual
def okT:Tree→Prop
 | .mk k s g e kids=>G3 k s g e kids.len∧Eh k kids.list∧okF kids
def okF:Forest→Prop
 | .nil=>True
 | .cons _ t r=>okT t∧okF r
end
theorem Lu {k:Int} {s:List UInt8} {g:Bool} {e:Int} {kids:Forest}:okT (.mk k s g e kids) ↔ G3 k s g e kids.len∧Eh k kids.list∧okF kids:=by rw [okT]
theorem Fs {nm:List UInt8} {t:Tree} {r:Forest}:okF (.cons nm t r) ↔ okT t∧okF r:=by rw [okF]
theorem I6:okF .nil:=by rw [okF];trivial
theorem Jdq:∀ {a b:Forest},okF (a.app b) ↔ okF a∧okF b
 | .nil,b=>by simp [Forest.app,I6]
 | .cons nm t r,b=>by rw [Forest.app,Fs,Fs,Jdq (a:=r)];exact and_assoc.symm
theorem Jjp {nm:List UInt8} {k:Int} {s:List UInt8} {g:Bool} {e:Int} {kids r:Forest}:okF (.cons nm (.mk k s g e kids) r) ↔ G3 k s g e kids.len∧Eh k kids.list∧okF (kids.app r):=by
 rw [Fs,Lu,Jdq];constructor
 ·rintro ⟨⟨h1,h2,h3⟩,h4⟩;exact ⟨h1,h2,h3,h4⟩
 ·rintro ⟨h1,h2,h3,h4⟩;exact ⟨⟨h1,h2,h3⟩,h4⟩
theorem Jdo:∀ {f:Forest},okF f ↔ ∀ p∈f.list,okT p.2
 | .nil=>by simp [Forest.list,I6]
 | .cons nm t r=>by rw [Fs,Jdo (f:=r),Forest.list,List.forall_mem_cons]
theorem Sb (k:Int):Eh k []:=⟨by simp,by simp,fun _=>.nil⟩
theorem Jaa {k:Int} {p:KT} {l:List KT}:Eh k (p :: l) ↔ (k=5→p.1=[])∧valid p.1=true∧(k=6→∀ q,l.head? = some q→Op.bytesLess p.1 q.1=true)∧Eh k l:=by
 unfold Eh;constructor
 ·rintro ⟨h1,h2,h3⟩;refine ⟨fun hk=>h1 hk p List.mem_cons_self,h2 p List.mem_cons_self,fun hk q hq=>?_,fun hk q hq=>h1 hk q (List.mem_cons_of_mem _ hq),fun q hq=>h2 q (List.mem_cons_of_mem _ hq),fun hk=>(h3 hk).tail⟩;exact (List.pairwise_cons.1 (h3 hk)).1 q (List.mem_of_head? hq)
 ·rintro ⟨h1,h2,h3,h4,h5,h6⟩;refine ⟨fun hk q hq=>?_,fun q hq=>?_,fun hk=>List.pairwise_cons.2 ⟨fun q hq=>?_,h6 hk⟩⟩
  ·rcases List.mem_cons.1 hq with rfl | hq
   ·exact h1 hk
   ·exact h4 hk q hq
  ·rcases List.mem_cons.1 hq with rfl | hq
   ·exact h2
   ·exact h5 q hq
  ·cases l with
   | nil=>cases hq
   | cons r l =>
    have h7:=h3 hk r rfl;rcases List.mem_cons.1 hq with rfl | hq
    ·exact h7
    ·exact H8 h7 ((List.pairwise_cons.1 (h6 hk)).1 q hq)
def nxt (L:Nat):List Node→Nat→Option Nat
 | _,0=>some 0
 | [],_+1=>none
 | n :: r,o+1=>if n.many<0∨(L:Int)<n.many then none else (nxt L r (o+n.many.toNat)).map (· + 1)
theorem Jvl:∀ (m:Nat) (F:Forest),m≤F.len→∃ A B:Forest,F=A.app B∧A.len=m
 | 0,F,_=>⟨.nil,F,rfl,rfl⟩
 | m+1,.nil,h=>by simp [Forest.len] at h
 | m+1,.cons nm t r,h=>by
  obtain ⟨A,B,h1,h2⟩:=Jvl m r (by simp only [Forest.len] at h;omega);exact ⟨.cons nm t A,B,by rw [Forest.app,← h1],by simp only [Forest.len,h2]⟩
theorem Qg {L:Nat}:∀ {v:List Node} {o k:Nat},nxt L v o=some k→∃ F:Forest,F.len=o∧v=F.enc ++ v.drop k∧F.enc.length=k
 | v,0,k,h=>by
  simp [nxt] at h;subst h;exact ⟨.nil,rfl,by simp [Bl],by simp [Bl]⟩
 | [],o+1,k,h=>by simp [nxt] at h
 | n :: r,o+1,k,h=>by
  simp only [nxt] at h;split at h
  ·cases h
  ·rename_i hn;obtain ⟨k',h',rfl⟩:=Option.map_eq_some_iff.1 h;obtain ⟨F,h1,h2,h3⟩:=Qg h';obtain ⟨A,B,rfl,hA⟩:=Jvl n.many.toNat F omg;rw [Jrk] at h1;rw [Jqg] at h2 h3;refine ⟨.cons n.name (.mk n.kind n.s n.neg n.e A) B,by simp only [Forest.len];omega,?_,?_⟩
   ·rw [A0,A6,List.drop_succ_cons];have e:(⟨n.kind,A.len,n.name,n.s,n.neg,n.e⟩:Node)=n:=by
     have:(A.len:Int)=n.many:=by omega
     rw [this]
    rw [e];simp only [List.cons_append,List.append_assoc];congr 1;rw [← List.append_assoc];exact h2
   ·rw [A0,A6,List.length_append,List.length_cons];rw [List.length_append] at h3;omega
theorem Q3 {L:Nat}:∀ (n:Nat) (F:Forest) (r:List Node),F.enc.length≤n→F.enc.length≤L→nxt L (F.enc ++ r) F.len=some F.enc.length
 | _,.nil,r,_,_=>by simp [Forest.len,nxt,Bl]
 | 0,.cons nm t rest,r,h,_=>by
  have:=Et t nm;rw [A0,List.length_append] at h;omega
 | n+1,.cons nm (.mk k s g e kids) rest,r,h,hL=>by
  rw [A0,A6,List.length_append,List.length_cons] at h hL;have hk:=Jqv kids;have ih:=Q3 (L:=L) n (kids.app rest) r (by rw [Jqg,List.length_append];omega) (by rw [Jqg,List.length_append];omega);rw [Jqg,Jrk,List.append_assoc,List.length_append] at ih;simp only [A0,A6,List.cons_append,List.append_assoc,Forest.len,nxt];rw [if_neg omg];simp only [Int.toNat_natCast];rw [Nat.add_comm rest.len,ih];simp only [Option.map_some,List.length_cons,List.length_append]
theorem Jcx {v:List Node}:nxt v.length v 1=some v.length ↔ ∃ nm t,v=Tree.enc nm t:=by
 constructor
 ·intro h;obtain ⟨F,h1,h2,h3⟩:=Qg h;rw [List.drop_length,List.append_nil] at h2
  match F,h1,h2 with
  | .cons nm t .nil,_,h2=>exact ⟨nm,t,by rw [h2,A0,Bl,List.append_nil]⟩
 ·rintro ⟨nm,t,rfl⟩;have:=Q3 (L:=(t.enc nm).length) (t.enc nm).length (.cons nm t .nil) [] (by rw [A0,Bl];simp) (by rw [A0,Bl];simp);simpa [A0,Bl,Forest.len] using this
def R0 (v:List Node):Prop:=∃ t,okT t∧v=t.enc []
open Classical in
noncomputable def Jw (v:List Node):Bool:=decide (R0 v)
theorem Iq {v:List Node}:Jw v=true ↔ R0 v:=by unfold Jw;exact @decide_eq_true_iff _ (Classical.propDecidable _)
end Go.LX
