/- Paths: numbers of parts, as both read them. -/
import Derived.Test.YtaghbedfogiopaaGreatDoorHxH
import Derived.Lib.Overlaps
set_option linter.unusedSimpArgs false
set_option linter.unusedVariables false
set_option linter.unusedSectionVars false
set_option linter.unnecessarySimpa false
set_option maxRecDepth 100000
set_option maxHeartbeats 2000000
namespace Go.LX
open Go Go.RowKit Go.Proofs
attribute [local irreducible] Al SWP Bi
theorem Fv (m:Nat):Lib.decDigits m=if m<10 then [UInt8.ofNat (48+m)] else Lib.decDigits (m / 10) ++ [UInt8.ofNat (48+m % 10)]:=by
 rw[Lib.decDigits];split<;>rfl
theorem Qj {m:Nat} (h:m<10):(UInt8.ofNat (48+m)).toNat=48+m:=by
 rw[UInt8.toNat_ofNat'];omega
theorem Jmj:∀ m:Nat,∀ c∈Lib.decDigits m,isDg c.toNat:=by
 intro m
 induction m using Nat.strongRecOn with
 | _ m ih =>
  intro c hc;rw[Fv] at hc;split at hc
  ·rw[Eba] at hc;subst hc;rw[Qj (by assumption)];unfold isDg;omega
  ·rcases Eau.1 hc with hc | hc
   ·exact ih (m / 10) omg c hc
   ·rw[Eba] at hc;subst hc;rw[Qj omg];unfold isDg;omega
theorem Xc:∀ m:Nat,valD (Lib.decDigits m)=m:=by
 intro m
 induction m using Nat.strongRecOn with
 | _ m ih =>
  rw[Fv];split
  ·show 0 * 10+((UInt8.ofNat (48+m)).toNat - 48)=m;rw[Qj (by assumption)];omega
  ·rw[Zl,ih (m / 10) omg,Qj omg];omega
theorem U6 (m:Nat):Lib.decDigits m≠[]:=by
 rw[Fv];split<;>simp
theorem Jg0:∀ m:Nat,∀ c r,Lib.decDigits m=c :: r->c.toNat=48->r=[]/\m=0:=by
 intro m
 induction m using Nat.strongRecOn with
 | _ m ih =>
  intro c r h hc;rw[Fv] at h;split at h
  ·cases h;rw[Qj (by assumption)] at hc;exact ⟨rfl,omg⟩
  ·cases hd:Lib.decDigits (m / 10) with
   | nil=>exact absurd hd (U6 _)
   | cons d q =>
    rw[hd] at h;cases h;have:=(ih (m / 10) omg _ _ hd hc).2;omega
theorem Sa:∀ (n:Nat) (t:List UInt8),t.length=n+1->(∀ c∈t,isDg c.toNat)->(n=0\/at_ t 0≠48)->Lib.decDigits (valD t)=t/\(at_ t 0≠48->0<valD t)
 | 0,t,hl,hd,_=>by
  match t,hl with
  | [c],_ =>
   have hc:=hd c sm;unfold isDg at hc;have e:valD [c]=c.toNat - 48:=by show 0 * 10+(c.toNat - 48)=_;omega
   rw[e,Fv,if_pos omg];refine ⟨?_,fun h=>?_⟩
   ·congr 1;apply UInt8.toNat_inj.1;rw[Qj omg];omega
   ·have:at_ [c] 0=c.toNat:=rfl;omega
 | n+1,t,hl,hd,h0=>by
  have hne:t≠[]:=fun e=>by subst e;simp at hl
  have ht:=List.dropLast_concat_getLast hne;have hdl:t.dropLast.length=n+1:=by rw[List.length_dropLast];omega
  have ha0:at_ t.dropLast 0=at_ t 0:=by
   rw[<- ht];have:0<t.dropLast.length:=by omega
   simp only[at_,Eai,List.dropLast_concat];rw[Ear this]
  have h1:=Sa n t.dropLast hdl (fun c hc=>hd c (List.dropLast_subset _ hc)) (.inr (by rw[ha0];omega));rw[ha0] at h1;have h2:=h1.2 omg;have h3:=hd _ (List.getLast_mem hne);unfold isDg at h3;have hv:valD t=valD t.dropLast * 10+((t.getLast hne).toNat - 48):=by
   conv=>lhs;rw[<- ht]
   rw[Zl]
  refine ⟨?_,fun _=>by omega⟩;rw[Fv,if_neg omg];have e1:valD t / 10=valD t.dropLast:=by omega
  have e2:UInt8.ofNat (48+valD t % 10)=t.getLast hne:=by
   apply UInt8.toNat_inj.1;rw[Qj omg];omega
  rw[e1,e2,h1.1,ht]
theorem Pj:∀ (l:List UInt8) (a:Nat),(∀ c∈l,isDg c.toNat)->Lib.decFrom a l=some (l.foldl (fun a c=>a * 10+(c.toNat - 48)) a)
 | [],a,_=>rfl
 | c :: r,a,h=>by
  have hc:=h c Eag;unfold isDg at hc;rw[Lib.decFrom,Lib.digitVal,if_pos hc];exact Pj r _ fun d hd=>h d (Eah _ hd)
theorem Jbw {t:List UInt8} (hne:t≠[]) (hl:t.length<=7) (hd:∀ c∈t,isDg c.toNat):Lib.atoiAll t=.ok (valD t:Int):=by
 rw[Lib.atoiAll_short t omg];cases t with
 | nil=>exact absurd rfl hne
 | cons c r =>
  have hc:=hd c Eag;unfold isDg at hc;have h45:¬ (c == 45)=true:=fun h=>by have:=beq_iff_eq.1 h;subst this;simp at hc
  have h43:¬ (c == 43)=true:=fun h=>by have:=beq_iff_eq.1 h;subst this;simp at hc
  rw[Lib.atoi,if_neg h45,if_neg h43,Lib.decNat,if_neg sm,Pj _ _ hd];rfl
theorem Jkf:∀ (T rest:List UInt8) (k:Nat),(∀ c∈T,isDg c.toNat)->T.length<=k->(∀ c q,rest=c :: q->¬ isDg c.toNat)->dgR k (T ++ rest)=T
 | [],rest,k,_,_,h=>by
  cases k with
  | zero=>rfl
  | succ k=>cases rest with
   | nil=>rfl
   | cons c q=>rw[List.nil_append,dgR,if_neg (h c q rfl)]
 | c :: T,rest,k,hd,hl,h=>by
  cases k with
  | zero=>simp at hl
  | succ k =>
   rw[Ea8,dgR,if_pos (hd c Eag),Jkf T rest k (fun d hm=>hd d (Eah _ hm)) (by simp at hl;omega) h]
theorem eI_of {u:List UInt8} {e:Nat} (h:u[e]? = some 93) (hb:∀ j,j<e->u[j]? ≠ some 93):eI u=e:=by
 have hge:=Lib.indexByte_ge u ((93:Int).toNat.toUInt8);have hc:(93:Int).toNat.toUInt8=93:=rfl;by_cases hlt:eI u<0
 ·have:Lib.indexByte u ((93:Int).toNat.toUInt8) = -1:=by unfold eI at hlt;omega
  exact absurd h (Lib.indexByte_none this e)
 ·obtain ⟨o,ho⟩:∃ o:Nat,eI u=o:=⟨(eI u).toNat,omg⟩
  obtain ⟨h1,h2⟩:=Lib.indexByte_some (show Lib.indexByte u ((93:Int).toNat.toUInt8)=o from ho);rw[hc] at h1 h2;rw[ho];rcases Nat.lt_trichotomy o e with hl | hl | hl
  ·exact absurd h1 (hb o hl)
  ·omega
  ·exact absurd h (h2 e hl)
theorem Jle {r:List UInt8} (h0:dgR 7 r≠[]) (h1:¬ (at_ r 0=48/\1<(dgR 7 r).length)) (h2:valD (dgR 7 r)<=1000000) (h3:r[(dgR 7 r).length]? = some 93) :
  Ce (91 :: r)=(⟨true,[],(valD (dgR 7 r):Nat)⟩,(dgR 7 r).length+2):=by
 have hl:=Jd2 7 r;have hp:=Jdy 7 r;have hall:=Jc6 7 r;generalize dgR 7 r=t at *
 have hlt:0<t.length:=List.length_pos_iff.2 h0;have he:eI (91 :: r)=((t.length+1:Nat):Int):=by
  refine eI_of (by simpa using h3) fun j hj hjs=>?_
  cases j with
  | zero=>simp at hjs
  | succ j =>
   rw[List.getElem?_cons_succ] at hjs;have hjt:t[j]? = some 93:=by rw[hp,Eco omg];exact hjs
   have:=hall 93 (Eae hjt);unfold isDg at this;simp at this
 have hT:pT (91 :: r)=t:=by
  unfold pT;rw[he,Eb7,Ebw];rw[show ((t.length+1:Nat):Int).toNat - 1=t.length by omega];exact hp.symm
 have ha0:at_ t 0=at_ r 0:=by
  rw[hp];simp only[at_,Eai];rw[Eco omg]
 have hcan:=Sa (t.length - 1) t omg hall (by rw[ha0];omega);unfold Ce;rw[if_pos ⟨rfl,omg,omg⟩,hT,Jbw h0 hl.1 hall];simp only;rw[if_pos ⟨omg,omg,by rw[Lib.itoa_nonneg,hcan.1]⟩,he];rfl
theorem J2k {r:List UInt8} (h:(Ce (91 :: r)).2≠0):dgR 7 r≠[]/\¬ (at_ r 0=48/\1<(dgR 7 r).length)/\valD (dgR 7 r)<=1000000/\r[(dgR 7 r).length]? = some 93:=by
 unfold Ce at h;split at h
 case isFalse=>exact absurd rfl h
 rename_i hc;obtain ⟨-,hc1,hc2⟩:=hc;obtain ⟨e,he⟩:∃ e:Nat,eI (91 :: r)=e:=⟨(eI (91 :: r)).toNat,omg⟩
 have hlt:=Jea he;have h93:=(Lib.indexByte_some (show Lib.indexByte (91 :: r) ((93:Int).toNat.toUInt8)=e from he)).1;rw[show (93:Int).toNat.toUInt8=93 from rfl] at h93;obtain ⟨k,rfl⟩:∃ k,e=k+1:=⟨e - 1,omg⟩
 rw[List.getElem?_cons_succ] at h93;have hT:pT (91 :: r)=r.take k:=by
  unfold pT;rw[he,Eb7,Ebw];rw[show ((k+1:Nat):Int).toNat - 1=k by omega]
 rw[hT] at h;split at h
 case h_2=>exact absurd rfl h
 rename_i n _;split at h
 case isFalse=>exact absurd rfl h
 rename_i hn;obtain ⟨hn0,hn1,hn2⟩:=hn;obtain ⟨m,rfl⟩:∃ m:Nat,n=m:=⟨n.toNat,omg⟩
 rw[Lib.itoa_nonneg] at hn2;have hkl:k<r.length:=(Eab.1 h93).1;have hlen:(Lib.decDigits m).length=k:=by rw[hn2,Eas];omega
 have hrun:dgR 7 r=Lib.decDigits m:=by
  have:=Jkf (Lib.decDigits m) (r.drop k) 7 (Jmj m) omg (fun c q hcq=>by
   rw[Eax hkl] at hcq;cases hcq;have:=(Eab.1 h93).2;rw[this];unfold isDg;simp)
  rw[hn2,Eb0] at this;rw[this,hn2]
 rw[hrun,hlen,Xc];refine ⟨U6 m,fun ⟨g1,g2⟩=>?_,omg,h93⟩;cases hd:Lib.decDigits m with
 | nil=>exact U6 m hd
 | cons c q =>
  have hr0:at_ r 0=c.toNat:=by
   have:(r.take k)[0]? = some c:=by rw[<- hn2,hd];rfl
   rw[Eco omg] at this;exact Jxv this
  have:=(Jg0 m c q hd omg).1;subst this;rw[hd] at hlen;simp at hlen;omega
theorem Jx5 {u:List UInt8} (h:(Ce u).2=0):Ce u=(Dv,0):=by
 unfold Ce at h ⊢;by_cases c:u.take 1=[91]/\2<=eI u/\eI u<=8
 ·rw[if_pos c] at h ⊢;cases ha:Lib.atoiAll (pT u) with
  | ok n =>
   rw[ha] at h;simp only at h ⊢;by_cases d:0<=n/\n<=1000000/\Lib.itoa n=pT u
   ·rw[if_pos d] at h;cases h
   ·rw[if_neg d]
  | range=>rfl
  | _=>rfl
 ·rw[if_neg c]
def Juy (s:List UInt8) (i:Nat):Step×Nat :=
 if i<s.length/\at_ s i=91 then
  if 0<=(figS s (i+1)).1/\(figS s (i+1)).2<s.length/\at_ s (figS s (i+1)).2=93 then (⟨true,[],(figS s (i+1)).1⟩,(figS s (i+1)).2+1 - i) else (Dv,0)
 else (Dv,0)
theorem Kbj (s:List UInt8) (i:Nat):Juy s i=Ce (s.drop i):=by
 unfold Juy;by_cases hi:i<s.length/\at_ s i=91
 ·rw[if_pos hi];obtain ⟨hl,ha⟩:=hi;have hd:=Eax hl;have h91:s[i]=91:=UInt8.toNat_inj.1 (by rw[<- Jxv (Eaa hl),ha];rfl);rw[h91] at hd;rw[hd];have ha0:at_ (s.drop (i+1)) 0=at_ s (i+1):=Ko s (i+1) 0;have hr:(s.drop (i+1))[(dgR 7 (s.drop (i+1))).length]? = s[i+1+(dgR 7 (s.drop (i+1))).length]?:=Ecp;have h93:∀ j,(j<s.length/\at_ s j=93) ↔ s[j]? = some 93:=fun j=>by
   constructor
   ·rintro ⟨h1,h2⟩;rw[Eaa h1];congr 1;exact UInt8.toNat_inj.1 (by rw[<- Jxv (Eaa h1),h2];rfl)
   ·intro h;exact ⟨(Eab.1 h).1,Jxv h⟩
  by_cases hf:dgR 7 (s.drop (i+1))≠[]/\¬ (at_ (s.drop (i+1)) 0=48/\1<(dgR 7 (s.drop (i+1))).length)/\valD (dgR 7 (s.drop (i+1)))<=1000000
  ·have hfl:(dgR 7 (s.drop (i+1))).length≠0:=fun h=>hf.1 (Ean h)
   have e:figS s (i+1)=(((valD (dgR 7 (s.drop (i+1))):Nat):Int),i+1+(dgR 7 (s.drop (i+1))).length):=by
    unfold figS;rw[if_neg];rintro (h | h | h)
    ·exact hfl h
    ·exact hf.2.1 (by rw[ha0];exact h)
    ·omega
   rw[e];simp only;by_cases hb:s[i+1+(dgR 7 (s.drop (i+1))).length]? = some 93
   ·rw[if_pos ⟨omg,(h93 _).2 hb⟩,Jle hf.1 hf.2.1 hf.2.2 (by rw[hr];exact hb)];congr 1;omega
   ·rw[if_neg (fun h=>hb ((h93 _).1 h.2))];refine (Jx5 (Ebp fun h=>hb ?_)).symm;rw[<- hr];exact (J2k h).2.2.2
  ·have e:figS s (i+1)=(-1,i+1):=by
    unfold figS;rw[if_pos];apply Ebp;intro h;refine hf ⟨fun h'=>h (.inl (by rw[h'];rfl)),fun h'=>h (.inr (.inl (by rw[<- ha0];exact h'))),?_⟩;omega
   rw[e];rw[if_neg (fun h=>by have:=h.1;simp only at this;omega)];refine (Jx5 (Ebp fun h=>hf ?_)).symm;have:=J2k h;exact ⟨this.1,this.2.1,this.2.2.1⟩
 ·rw[if_neg hi];unfold Ce;rw[if_neg];rintro ⟨h,-⟩;have hl:i<s.length:=by
   apply Ebp;intro hn;rw[Ea0 omg] at h;cases h
  rw[Eax hl,Ebl,Eb4] at h;have:s[i]=91:=by simpa using h
  exact hi ⟨hl,by rw[Jxv (Eaa hl),this];rfl⟩
end Go.LX
namespace Go.LX
open Go Go.RowKit Go.Proofs Go.Proofs.Tryz
attribute [local irreducible] Al SWP Bi
def H3 (s:List UInt8) (j:Nat):Prop:=letP (at_ s j)\/(0<j/\figP (at_ s j))
instance (s:List UInt8) (j:Nat):Decidable (H3 s j):=inferInstanceAs (Decidable (_\/_))
theorem Wt (s:List UInt8):∀ f i,i<=s.length->s.length+1<=i+f->(∀ j,i<=j->j<wF s f i->H3 s j)/\(wF s f i<s.length->¬ H3 s (wF s f i))
 | 0,i,h,h2=>by omega
 | f+1,i,h,h2=>by
  rw[wF];split
  ·rename_i hc;obtain ⟨g1,g2⟩:=Wt s f (i+1) omg omg;refine ⟨fun j h3 h4=>?_,g2⟩;by_cases hj:j=i
   ·subst hj;exact hc.2
   ·exact g1 j omg h4
  ·rename_i hc;exact ⟨fun j h3 h4=>by omega,fun hl hg=>hc ⟨hl,hg⟩⟩
theorem Sh {s:List UInt8} {j:Nat} (h:j<Dm s):H3 s j:=(Wt s (s.length+1) 0 (Eat _) omg).1 j (Eat _) h
theorem Jam {s:List UInt8} (h:Dm s<s.length):¬ H3 s (Dm s):=(Wt s (s.length+1) 0 (Eat _) omg).2 h
theorem Kaz {s:List UInt8} {m j:Nat} (h:j<m):at_ (s.take m) j=at_ s j:=by
 simp only[at_,Eai];rw[Eco h]
theorem Jz8 {u:List UInt8} {j:Nat} (hj:j<u.length) (hw:j<=Dm u):isWd (u.take (j+1)) ↔ j<Dm u:=by
 have hl:(u.take (j+1)).length=j+1:=by rw[Eas];omega
 have hle:=P3 (u.take (j+1));have hne:u.take (j+1)≠[]:=fun e=>by rw[e] at hl;simp at hl
 have hat:∀ x,x<j+1->(H3 (u.take (j+1)) x ↔ H3 u x):=fun x hx=>by unfold H3;rw[Kaz hx]
 constructor
 ·rintro ⟨_,h⟩;rw[hl] at h;have h1:=(hat j omg).1 (Sh omg);apply Ebp;intro hn;have e:Dm u=j:=by omega
  exact Jam (s:=u) omg (by rw[e];exact h1)
 ·intro h;refine ⟨hne,?_⟩;apply Ebp;intro hn;have hlt:Dm (u.take (j+1))<j+1:=by omega
  exact Jam (s:=u.take (j+1)) omg ((hat _ hlt).2 (Sh omg))
def Js6 (s:List UInt8) (i:Nat) (first:Bool):Step×Nat :=
 if (Bw (s.drop i)).2≠0 then Bw (s.drop i)
 else if first=true then (if (i<s.length/\at_ s i=46)/\(Juy s (i+1)).2≠0 then ((Juy s (i+1)).1,(Juy s (i+1)).2+1) else (Dv,0))
 else if i<s.length/\at_ s i=46 then (Dv,0) else Juy s i
theorem Jzd {s:List UInt8} {i:Nat}:(s.drop i).take 1=[46] ↔ (i<s.length/\at_ s i=46):=by
 constructor
 ·intro h;have hl:i<s.length:=by
   apply Ebp;intro hn;rw[Ea0 omg] at h;cases h
  rw[Eax hl,Ebl,Eb4] at h;have:s[i]=46:=by simpa using h
  exact ⟨hl,by rw[Jxv (Eaa hl),this];rfl⟩
 ·rintro ⟨hl,ha⟩;rw[Eax hl,Ebl,Eb4];congr 1;exact UInt8.toNat_inj.1 (by rw[<- Jxv (Eaa hl),ha];rfl)
theorem J6v {s:List UInt8} {i:Nat} (h:i<=s.length):i<=(figS s i).2/\(figS s i).2<=s.length/\(figS s i).1<=1000000/\-1<=(figS s i).1:=by
 have:=(Jd2 7 (s.drop i)).2;rw[Ebd] at this;unfold figS;split
 ·exact ⟨Eaj _,h,by simp,by simp⟩
 ·simp only;omega
theorem J61 {s:List UInt8} {i:Nat} (h:¬ (i<s.length/\at_ s i=91/\0<=(figS s (i+1)).1/\(figS s (i+1)).2<s.length/\at_ s (figS s (i+1)).2=93)):Juy s i=(Dv,0):=by
 unfold Juy;by_cases h1:i<s.length/\at_ s i=91
 ·rw[if_pos h1,if_neg (fun h2=>h ⟨h1.1,h1.2,h2⟩)]
 ·rw[if_neg h1]
theorem J5j {s:List UInt8} {i:Nat} (h:i<s.length/\at_ s i=91/\0<=(figS s (i+1)).1/\(figS s (i+1)).2<s.length/\at_ s (figS s (i+1)).2=93):Juy s i=(⟨true,[],(figS s (i+1)).1⟩,(figS s (i+1)).2+1 - i):=by
 unfold Juy;rw[if_pos ⟨h.1,h.2.1⟩,if_pos h.2.2]
theorem J5t (s:List UInt8) (i:Nat) (first:Bool) (hs:s.length<=1000000) (hi:i<=s.length) (hd:¬ (i<s.length/\at_ s i=46)):Det cx 192 [.p (.str s),.p (.int .i64 i),.p (.bool first)] [] (.tup [.agg (Js6 s i first).1.cells,.int .i64 (i+(Js6 s i first).2:Nat)]) []:=by
 have hf:(Bw (s.drop i)).2=0:=by unfold Bw;rw[if_neg (fun h=>hd (Jzd.1 h))]
 have e:Js6 s i first=if first=true then (Dv,0) else Juy s i:=by
  unfold Js6;rw[if_neg omg,if_neg (c:=(i<s.length/\at_ s i=46)/\_) (fun h=>hd h.1),if_neg hd]
 rw[e];cases first
 ·rw[if_neg sm];(refine bgo func192 ?_;simp only[go_sem,simprocAttr,wi1 (i:=i) omg]);(repeat'(first|(apply iteI<;>intro h)|refine Jqj ?_|((refine Jqa (J4z s (i+1) hs omg) ?_);simp only[go_sem,simprocAttr,wi1 (i:=i) omg])|(exfalso;omega)))
  all_goals first
   | (rw[J61 omg];exact ⟨rfl,rfl⟩)
   | (
    have hl:=J6v (s:=s) (i:=i+1) omg;rw[J5j omg,Aa omg omg];refine ⟨rfl,?_⟩;simp only;omega)
 ·(refine bgo func192 ?_;simp only[go_sem,simprocAttr,wi1 (i:=i) omg]);(repeat'(first|(apply iteI<;>intro h)|refine Jqj ?_|(exfalso;omega)))
  all_goals exact ⟨rfl,rfl⟩
theorem J92 (s:List UInt8) (i:Nat) (first:Bool) (hs:s.length<=1000000) (hi:i<s.length) (hd:at_ s i=46):Det cx 192 [.p (.str s),.p (.int .i64 i),.p (.bool first)] [] (.tup [.agg (Js6 s i first).1.cells,.int .i64 (i+(Js6 s i first).2:Nat)]) []:=by
 have hdot:=Jzd.2 ⟨hi,hd⟩;have hdr:(s.drop i).drop 1=s.drop (i+1):=by rw[Ea7]
 have hwl:=P3 (s.drop (i+1));have hlen:(s.drop (i+1)).length=s.length - (i+1):=Ebd;rw[hlen] at hwl;(refine bgo func192 ?_;simp only[go_sem,simprocAttr,wi1 (i:=i) omg]);(repeat'(first|(apply iteI<;>intro h)|refine Jqj ?_|(exfalso;omega)));refine SWP.loop (fun k:Nat=>⟨Ba 129 [(0,.p (.str s)),(1,.p (.int .i64 (i+1:Nat))),(2,.p (.bool first)),(6,.ptr 6 0 0),(8,.p (.int .i64 i)),(9,.p (.int .i64 (i+1+k:Nat)))],[(6,.var 63 [.p (.bool false),.p (.str []),.p (.int .i64 0)])]⟩) (fun k=>k<=Dm (s.drop (i+1))) (fun k=>Dm (s.drop (i+1)) - k) 0 Jqc (Eat _) ?_;intro k hk;have hsub:i+1+k+1 - (i+1)=k+1:=by omega
 have hw1:=wi1 (i:=i+1+k) omg;by_cases hlt:k<Dm (s.drop (i+1))
 ·have hW:decide (isWd ((s.drop (i+1)).take (k+1)))=true:=decide_eq_true ((Jz8 omg hk).2 hlt);(refine lws ?_;simp only[go_sem,simprocAttr,wi1 (i:=i) omg,hsub,hw1]);(repeat'(first|(apply iteI<;>intro h)|refine Jqj ?_|((refine Jqa (Jvl ((s.drop (i+1)).take (k+1)) (by rw[Eas];omega)) ?_);simp only[go_sem,simprocAttr,wi1 (i:=i) omg,hw1,hW])|(exfalso;omega)));exact ⟨k+1,omg,omg,Jqc⟩
 ·have hkw:k=Dm (s.drop (i+1)):=by omega
  by_cases hk0:0<k
  ·have ef:Bw (s.drop i)=(⟨false,(s.drop (i+1)).take k,0⟩,k+1):=by
    unfold Bw;rw[if_pos hdot,hdr,if_pos omg,hkw]
   have e:Js6 s i first=(⟨false,(s.drop (i+1)).take k,0⟩,k+1):=by
    unfold Js6;rw[ef,if_pos (Nat.succ_ne_zero _)]
   have hfin:([PV.bool false,PV.str (List.take (i+1+k - (i+1)) (List.drop (i+1) s)),PV.int IntKind.i64 0]=(Js6 s i first).1.cells/\((i+1+k:Nat):Int)=((i+(Js6 s i first).2:Nat):Int)):=by
    rw[e];refine ⟨?_,?_⟩
    ·rw[show i+1+k - (i+1)=k by omega];rfl
    ·simp only;omega
   by_cases hend:i+1+k<s.length
   ·have hW:decide (isWd ((s.drop (i+1)).take (k+1)))=false:=decide_eq_false (fun h=>hlt ((Jz8 omg hk).1 h));(refine lws ?_;simp only[go_sem,simprocAttr,wi1 (i:=i) omg,hsub,hw1]);(repeat'(first|(apply iteI<;>intro h)|refine Jqj ?_|((refine Jqa (Jvl ((s.drop (i+1)).take (k+1)) (by rw[Eas];omega)) ?_);simp only[go_sem,simprocAttr,wi1 (i:=i) omg,hW])|(exfalso;omega)));exact hfin
   ·have hW:=hw1;(refine lws ?_;simp only[go_sem,simprocAttr,wi1 (i:=i) omg,hsub,hw1]);(repeat'(first|(apply iteI<;>intro h)|refine Jqj ?_|(exfalso;omega)));exact hfin
  ·have hk1:k=0:=by omega
   subst hk1;have hdl:(s.drop (i+1)).length<=1000000:=by omega
   obtain ⟨u1,u2,u3⟩:=Jl8 (s.drop (i+1));rw[hlen] at u2 u3;have hsub:i+1+0+1 - (i+1)=1:=by omega
   have hsubq:i+1+(uq (s.drop (i+1))).2.1 - (i+1)=(uq (s.drop (i+1))).2.1:=by omega
   have hwq:=wia (i:=i+1) (j:=(uq (s.drop (i+1))).2.1) omg omg;have hG:(uq (s.drop (i+1))).2.2=0->¬ isWd (uq (s.drop (i+1))).1->refQ (uq (s.drop (i+1))).1=(s.drop (i+1)).take (uq (s.drop (i+1))).2.1->Js6 s i first=(⟨false,(uq (s.drop (i+1))).1,0⟩,(uq (s.drop (i+1))).2.1+1):=fun g1 g2 g3=>by
    have ef:Bw (s.drop i)=(⟨false,(uq (s.drop (i+1))).1,0⟩,(uq (s.drop (i+1))).2.1+1):=by
     unfold Bw;rw[if_pos hdot,hdr,if_neg omg,if_neg];rintro (h | h | h)
     ·exact h g1
     ·exact g2 h
     ·exact h g3
    unfold Js6;rw[ef,if_pos (Nat.succ_ne_zero _)]
   have hB:¬ ((uq (s.drop (i+1))).2.2=0/\¬ isWd (uq (s.drop (i+1))).1/\refQ (uq (s.drop (i+1))).1=(s.drop (i+1)).take (uq (s.drop (i+1))).2.1)->Js6 s i first=if first=true then (if (Juy s (i+1)).2≠0 then ((Juy s (i+1)).1,(Juy s (i+1)).2+1) else (Dv,0)) else (Dv,0):=fun hb=>by
    have ef:Bw (s.drop i)=(Dv,0):=by
     unfold Bw;rw[if_pos hdot,hdr,if_neg omg,if_pos];apply Ebp;intro hn;refine hb ⟨?_,?_,?_⟩
     ·exact Ebp fun h=>hn (.inl h)
     ·exact fun h=>hn (.inr (.inl h))
     ·exact Ebp fun h=>hn (.inr (.inr h))
    unfold Js6;rw[ef,if_neg (fun h=>h rfl),if_pos (c:=i<s.length/\at_ s i=46) ⟨hi,hd⟩];by_cases hp:(Juy s (i+1)).2≠0
    ·rw[if_pos hp,if_pos (c:=(i<s.length/\at_ s i=46)/\_) ⟨⟨hi,hd⟩,hp⟩]
    ·rw[if_neg hp,if_neg (c:=(i<s.length/\at_ s i=46)/\_) (fun h=>hp h.2)]
   have hB1:¬ ((uq (s.drop (i+1))).2.2=0/\¬ isWd (uq (s.drop (i+1))).1/\refQ (uq (s.drop (i+1))).1=(s.drop (i+1)).take (uq (s.drop (i+1))).2.1)->first=false->Js6 s i first=(Dv,0):=fun hb hf=>by rw[hB hb,hf,if_neg sm]
   have hB2:¬ ((uq (s.drop (i+1))).2.2=0/\¬ isWd (uq (s.drop (i+1))).1/\refQ (uq (s.drop (i+1))).1=(s.drop (i+1)).take (uq (s.drop (i+1))).2.1)->¬ first=false->¬ (i+1<s.length/\at_ s (i+1)=91/\0<=(figS s (i+1+1)).1/\(figS s (i+1+1)).2<s.length/\at_ s (figS s (i+1+1)).2=93)->Js6 s i first=(Dv,0):=fun hb hf h=>by
    rw[hB hb,J61 h];cases first<;>rfl
   have hB3:¬ ((uq (s.drop (i+1))).2.2=0/\¬ isWd (uq (s.drop (i+1))).1/\refQ (uq (s.drop (i+1))).1=(s.drop (i+1)).take (uq (s.drop (i+1))).2.1)->¬ first=false->(i+1<s.length/\at_ s (i+1)=91/\0<=(figS s (i+1+1)).1/\(figS s (i+1+1)).2<s.length/\at_ s (figS s (i+1+1)).2=93)->Js6 s i first=(⟨true,[],(figS s (i+1+1)).1⟩,(figS s (i+1+1)).2+1 - (i+1)+1):=fun hb hf h=>by
    have hl:=J6v (s:=s) (i:=i+1+1) omg;rw[hB hb,J5j h,if_pos (by cases first<;>simp_all),if_pos (by simp only;omega)]
   have hwi:IntKind.i64.wrap ((i+1:Nat)+1:Int)=((i+1+1:Nat):Int):=wi1 omg;by_cases hend:i+1+0<s.length
   ·have hW:decide (isWd ((s.drop (i+1)).take (0+1)))=false:=decide_eq_false (fun h=>hlt ((Jz8 omg hk).1 h));have hl:=J6v (s:=s) (i:=i+1+1) omg;(refine lws ?_;simp only[go_sem,simprocAttr,wi1 (i:=i) omg,hsub,hw1]);(repeat'(first|(apply iteI<;>intro h)|refine Jqj ?_|((first|refine Jqm ?_|(refine Jqa (Jvl ((s.drop (i+1)).take (0+1)) (by rw[Eas];omega)) ?_)|(refine Jqa (Jym (s.drop (i+1)) hdl) ?_)|(refine Jqb (Jvl (uq (s.drop (i+1))).1 omg) ?_)|(refine Jqb (J16 (uq (s.drop (i+1))).1 omg) ?_)|(refine Jqa (J4z s (i+1+0+1) hs omg) ?_));simp only[go_sem,simprocAttr,wi1 (i:=i) omg,hw1,hW,hsubq,hwq])|(exfalso;omega)))
    all_goals simp only[Nat.add_zero] at *
    all_goals first
     | (exfalso;omega)
     | (rw[hG omg (by assumption) (by assumption)];exact ⟨rfl,by simp only;omega⟩)
     | (rw[hB1 (fun ⟨a,b,c⟩=>by first|omega | (exact absurd b (by assumption))|(exact absurd c (by assumption))) (by assumption)];exact ⟨rfl,rfl⟩)
     | (rw[hB2 (fun ⟨a,b,c⟩=>by first|omega | (exact absurd b (by assumption))|(exact absurd c (by assumption))) (by assumption) omg];exact ⟨rfl,rfl⟩)
     | (rw[hB3 (fun ⟨a,b,c⟩=>by first|omega | (exact absurd b (by assumption))|(exact absurd c (by assumption))) (by assumption) omg,Aa omg omg];exact ⟨rfl,by simp only;omega⟩)
   ·have hW:=hw1;(refine lws ?_;simp only[go_sem,simprocAttr,wi1 (i:=i) omg,hsub,hw1]);(repeat'(first|(apply iteI<;>intro h)|refine Jqj ?_|((first|refine Jqm ?_|(refine Jqa (Jym (s.drop (i+1)) hdl) ?_)|(refine Jqb (Jvl (uq (s.drop (i+1))).1 omg) ?_)|(refine Jqb (J16 (uq (s.drop (i+1))).1 omg) ?_));simp only[go_sem,simprocAttr,wi1 (i:=i) omg,hw1,hsubq,hwq])|(exfalso;omega)))
    all_goals simp only[Nat.add_zero] at *
    all_goals first
     | (exfalso;omega)
     | (rw[hG omg (by assumption) (by assumption)];exact ⟨rfl,by simp only;omega⟩)
     | (rw[hB1 (fun ⟨a,b,c⟩=>by first|omega | (exact absurd b (by assumption))|(exact absurd c (by assumption))) (by assumption)];exact ⟨rfl,rfl⟩)
     | (rw[hB2 (fun ⟨a,b,c⟩=>by first|omega | (exact absurd b (by assumption))|(exact absurd c (by assumption))) (by assumption) omg];exact ⟨rfl,rfl⟩)
theorem d_step (s:List UInt8) (i:Nat) (first:Bool) (hs:s.length<=1000000) (hi:i<=s.length):Det cx 192 [.p (.str s),.p (.int .i64 i),.p (.bool first)] [] (.tup [.agg (Js6 s i first).1.cells,.int .i64 (i+(Js6 s i first).2:Nat)]) []:=by
 by_cases hd:i<s.length/\at_ s i=46
 ·exact J92 s i first hs hd.1 hd.2
 ·exact J5t s i first hs hi hd
theorem Kab {s:List UInt8} {i:Nat}:Js6 s i (decide (i=0))=Ee s i:=by
 unfold Js6 Ee;by_cases hf:(Bw (s.drop i)).2≠0
 ·rw[if_pos hf,if_pos hf]
 ·rw[if_neg hf,if_neg hf,Kbj,Kbj];by_cases hi:i=0
  ·rw[if_pos (decide_eq_true hi),if_pos hi];subst hi;have hd:=Jzd (s:=s) (i:=0);rw[Ebw] at hd;by_cases h1:s.take 1=[46]
   ·by_cases h2:(Ce (s.drop (0+1))).2≠0
    ·rw[if_pos ⟨hd.1 h1,h2⟩,if_pos ⟨h1,h2⟩]
    ·rw[if_neg (fun h=>h2 h.2),if_neg (fun h=>h2 h.2)]
   ·rw[if_neg (fun h=>h1 (hd.2 h.1)),if_neg (fun h=>h1 h.1)]
  ·rw[if_neg (fun h=>hi (of_decide_eq_true h)),if_neg hi];by_cases hdt:i<s.length/\at_ s i=46
   ·rw[if_pos hdt];refine (Jx5 ?_).symm;unfold Ce;rw[if_neg];rintro ⟨h,-⟩;rw[Jzd.2 hdt] at h;cases h
   ·rw[if_neg hdt]
theorem Kdn {s:List UInt8} {i:Nat} (h:s.length<=i):(Ee s i).2=0:=by
 have hd:s.drop i=[]:=Ea0 h;unfold Ee;have hf:Bw []=(Dv,0):=rfl;have hp:Ce []=(Dv,0):=rfl;rw[hd,hf,if_neg (fun h=>h rfl),hp];split
 ·have:s=[]:=Ean omg;subst this;rfl
 ·rfl
def begS (s:List UInt8):List Step×Nat:=if (Mp s).1.length=0/\s.take 1=[46] then ((Mp s).1,1) else Mp s
theorem J7g (s:List UInt8) (hs:s.length<=1000000):Det cx 150 [.p (.str s),.p (.int .i64 0)] [] (.tup [.sl (Bb (begS s).1),.int .i64 (begS s).2]) []:=by
 (refine bgo func150 ?_;simp only[go_sem,simprocAttr]);refine Jqg (B1 [(10,30)] _ sm) ?_;simp only[go_sem,simprocAttr];refine SWP.loop (fun x:Nat×Nat×List Step=>⟨Ba 52 [(0,.p (.str s)),(1,.p (.int .i64 x.1)),(6,.own 30 0 x.2.2.length),(7,.p (.int .i64 0))],[(30,.row 63 3 (Bb x.2.2))]⟩) (fun x=>x.1<=s.length/\s.length+1<=x.1+x.2.1/\x.2.2.length<=20/\(x.2.2.length=0 ↔ x.1=0)/\Fl s x.2.1 x.1 x.2.2=Mp s) (fun x=>s.length - x.1) (0,s.length+1,[]) (by rw[show Bb []=[] from rfl];exact Jqc) ⟨Eat _,by simp,by simp,by simp,rfl⟩ ?_;rintro ⟨i,f,p⟩ ⟨h1,h2,h3,h5,h4⟩;simp only at h1 h2 h3 h4 h5;have hstep:=d_step s i (decide (i=0)) hs h1;rw[Kab] at hstep;have hnl:=Jzk h1;have hfd:((p.length:Int) == 0)=decide (i=0):=by
  rw[Ea1,beq_iff_eq,decide_eq_true_eq];omega
 have htk:(Bb p).take p.length=Bb p:=Ead sm;have hbeg:Fl s f i p=(p,i)->begS s=if p.length=0/\s.take 1=[46] then (p,1) else (p,i):=fun h=>by
  rw[h] at h4;unfold begS;rw[<- h4]
 have hdot:=Jzd (s:=s) (i:=0);rw[Ebw] at hdot;by_cases hc:p.length<20
 ·by_cases hn:(Ee s i).2=0
  ·have hst:Fl s f i p=(p,i):=Gv fun h=>h.2.2 hn
   have hb:=hbeg hst;have hw:=hn;have hel:=hfd;(refine lws ?_;simp only[go_sem,simprocAttr,Aq,htk,Eaj,hel]);(repeat'(first|(apply iteI<;>intro h)|refine Jqj ?_|((refine Jqa hstep ?_);simp only[go_sem,simprocAttr,Aq,htk,Eaj,Step.cells,hel,hw])|(exfalso;omega)))
   ·rw[hb,if_pos ⟨omg,hdot.2 ⟨omg,omg⟩⟩];exact ⟨rfl,rfl⟩
   ·rw[hb,if_neg (fun h=>by have:=(hdot.1 h.2).2;omega)];exact ⟨rfl,rfl⟩
   ·rw[hb,if_neg (fun h=>by have:=(hdot.1 h.2).1;omega)];exact ⟨rfl,rfl⟩
   ·rw[hb,if_neg (fun h=>by omega)];exact ⟨rfl,rfl⟩
  ·obtain ⟨g,rfl⟩:∃ g,f=g+1:=⟨f - 1,omg⟩
   have hil:i<s.length:=Ebp fun h=>hn (Kdn omg)
   rw[Fl,if_pos ⟨hil,hc,hn⟩] at h4;have hel:Bb p ++ [[.bool (Ee s i).1.part,.str (Ee s i).1.name,.int .i64 (Ee s i).1.n]]=Bb (p ++ [(Ee s i).1]):=by rw[Kn];rfl
   have hw:=hfd;(refine lws ?_;simp only[go_sem,simprocAttr,Aq,htk,Eaj,hfd]);(repeat'(first|(apply iteI<;>intro h)|refine Jqj ?_|((refine Jqa hstep ?_);simp only[go_sem,simprocAttr,Aq,htk,Eaj,Step.cells,hel,hfd])|(exfalso;omega)));refine ⟨by simp,omg,omg,(i+(Ee s i).2,g,p ++ [(Ee s i).1]),⟨?_,?_,?_,?_,h4⟩,?_,?_⟩
   ·simp only;omega
   ·simp only;omega
   ·simp only[Eac,Ebv];omega
   ·simp only[Eac,Ebv];constructor
    ·intro h;omega
    ·intro h;omega
   ·simp only;omega
   simp only[Eac,Ebv];exact Jqc
 ·have hst:Fl s f i p=(p,i):=Gv fun h=>hc h.2.1
  have hb:=hbeg hst;have hw:=hfd;have hel:=hfd;(refine lws ?_;simp only[go_sem,simprocAttr,Aq,htk,Eaj,hel]);(repeat'(first|(apply iteI<;>intro h)|refine Jqj ?_|((refine Jqa hstep ?_);simp only[go_sem,simprocAttr,Aq,htk,Eaj,Step.cells,hel])|(exfalso;omega)));rw[hb,if_neg omg];exact ⟨rfl,rfl⟩
theorem Ke6:begS [46]=([],1):=by
 have e:Mp [46]=([],0):=rfl;unfold begS;rw[e];rfl
theorem J5e {s:List UInt8}:∀ (f i:Nat) (p:List Step),i<=(Fl s f i p).2/\p.length<=(Fl s f i p).1.length/\((Fl s f i p).1.length=p.length->Fl s f i p=(p,i))
 | 0,i,p=>⟨Eaj _,Eaj _,fun _=>rfl⟩
 | f+1,i,p=>by
  rw[Fl];split
  ·have:=J5e (s:=s) f (i+(Ee s i).2) (p ++ [(Ee s i).1]);rw[Eac,Ebv] at this;exact ⟨omg,omg,fun h=>by omega⟩
  ·exact ⟨Eaj _,Eaj _,fun _=>rfl⟩
theorem J4g (s:List UInt8) (hs:s.length<=1000000):Det cx 112 [.p (.str s)] [] (.tup [.sl (Bb (Je s).1),.int .i64 (Je s).2.1,.int .i64 (Je s).2.2]) []:=by
 refine Det.weak ?_;by_cases hd:s=[46]
 ·subst hd;have hB:=J7g [46] de;rw[Ke6] at hB;(refine bgo func112 ?_;simp only[go_sem,simprocAttr]);(repeat'(first|((refine Jqa hB ?_);simp only[go_sem,simprocAttr])|fail));exact .inl rfl
 ·have hd':(s=[46])=False:=eq_false hd;have hB:=J7g s hs;have hnil:=(J5e (s:=s) (s.length+1) 0 []).2.2;have hR0:(Mp s).1.length=0->Mp s=([],0):=hnil;have hb0:(begS s).1.length=0->(Mp s).1.length=0:=fun h=>by
   unfold begS at h;split at h
   ·exact h
   ·exact h
  have hb1:¬ (begS s).1.length=0->begS s=Mp s:=fun h=>by
   unfold begS at h ⊢;split
   ·rename_i hc;rw[if_pos hc] at h;exact absurd hc.1 h
   ·rfl
  (refine bgo func112 ?_;simp only[go_sem,simprocAttr]);(repeat'(first|(apply iteI<;>intro h)|((refine Jqa hB ?_);simp only[go_sem,simprocAttr,hd',Aq])|fail))
  ·have h0:=hR0 (hb0 omg);have e:Je s=([],0,1):=by
    unfold Je;rw[if_neg hd,h0];rw[if_pos (.inr rfl)]
   rw[e];exact Jsf ⟨.nil,.refl _,.refl _,trivial⟩
  ·have hb:=hb1 omg;have hq:(begS s).2<s.length:=by omega
   rw[hb] at hq ⊢;have e:Je s=([],(Mp s).2,1):=by
    unfold Je;rw[if_neg hd,if_pos (.inl omg)]
   rw[e];exact Jsf ⟨.nil,.refl _,.refl _,trivial⟩
  ·have hb:=hb1 omg;have hq:¬ (begS s).2<s.length:=by omega
   have hq2:¬ (begS s).1.length=0:=by omega
   rw[hb] at hq hq2 ⊢;have e:Je s=((Mp s).1,0,0):=by
    unfold Je;rw[if_neg hd,if_neg omg]
   rw[e];exact .inl rfl
end Go.LX
namespace Go.LX
open Go Go.RowKit Go.Proofs
attribute [local irreducible] Al SWP Bi
def F8 (x y:Step):Prop:=x.part=y.part/\x.name=y.name/\x.n=y.n
instance (x y:Step):Decidable (F8 x y):=inferInstanceAs (Decidable (_/\_))
theorem Dc {x y:Step}:F8 x y ↔ x=y:=by
 unfold F8;constructor
 ·rintro ⟨h1,h2,h3⟩;cases x;cases y;simp_all
 ·rintro rfl;exact ⟨rfl,rfl,rfl⟩
def B7:List Step->List Step->Bool
 | x :: p,y :: q=>!decide (F8 x y) || B7 p q
 | _,_=>false
instance:DecidableEq Step:=fun x y=>decidable_of_iff _ (Dc (x:=x) (y:=y))
theorem Bp (p:List Step):∀ x∈Bb p,x.length=3:=by
 intro x hx;obtain ⟨y,-,rfl⟩:=Eav.1 hx;rfl
end Go.LX
namespace Go.LX
open Go Go.RowKit Go.Proofs Go.Proofs.Tryz
attribute [local irreducible] Al SWP Bi
def inT:Tree->Step->Except Nat Tree
 | .mk k _ _ _ kids,x =>
  if x.part=true then (if k≠5 then .error 5 else match kids.list[x.n.toNat]? with
   | some p=>.ok p.2
   | none=>.error 6)
  else (if k≠6 then .error 5 else match Ch x.name kids.list with
   | some t=>.ok t
   | none=>.error 6)
theorem Iz {k:Int} {s:List UInt8} {g:Bool} {e:Int} {kids:Forest} {x:Step} (hp:x.part=true) (hk:¬ k=5):inT (.mk k s g e kids) x=.error 5:=by
 show (if x.part=true then (if k≠5 then Except.error 5 else _) else _)=_;rw[if_pos hp,if_pos hk]
theorem Iw {k:Int} {s:List UInt8} {g:Bool} {e:Int} {kids:Forest} {x:Step} (hp:x.part=false) (hk:¬ k=6):inT (.mk k s g e kids) x=.error 5:=by
 show (if x.part=true then _ else (if k≠6 then Except.error 5 else _))=_;rw[if_neg (by simp[hp]),if_pos hk]
theorem Tm {s:List UInt8} {g:Bool} {e:Int} {kids:Forest} {x:Step} (hp:x.part=true):inT (.mk 5 s g e kids) x=match kids.list[x.n.toNat]? with
   | some p=>.ok p.2
   | none=>.error 6:=by
 show (if x.part=true then _ else _)=_;rw[if_pos hp];rfl
theorem Tp {s:List UInt8} {g:Bool} {e:Int} {kids:Forest} {x:Step} (hp:x.part=false):inT (.mk 6 s g e kids) x=match Ch x.name kids.list with
   | some t=>.ok t
   | none=>.error 6:=by
 show (if x.part=true then _ else _)=_;rw[if_neg (by simp[hp])];rfl
def getR:Except Nat Tree->L
 | .ok t=>.tup [.sl (valL (t.enc [])),.int .i64 0]
 | .error e=>.tup [.snil,.int .i64 e]
theorem Hx {l:List (List UInt8×Tree)} {i:Nat} {p:List UInt8×Tree} (h:l[i]? = some p):(A4 l)[i]? = some [.sl (valL (p.2.enc []))]:=by simp[A4,h]
theorem d_in (t:Tree) (x:Step) (hv:(t.enc []).length<=1500000000000) (hx:Bc x):Det cx 124 [.p (.sl (valL (t.enc []))),.p (.agg [.bool x.part,.str x.name,.int .i64 x.n])] [] (getR (inT t x)) []:=by
 cases t with
 | mk k s g e kids =>
 have hkv:kids.enc.length<=1499999999999:=by rw[A6] at hv;simp at hv;omega
 have hll:=Jqi kids;have hkl:=Jqh kids;unfold Bc at hx;cases hp:x.part
 ·by_cases hk:k=6
  ·subst hk;rw[Tp hp];cases hf:Ch x.name kids.list with
   | none =>
    have hF:=Jdk [] s g e kids x.name hkv;rw[hf] at hF;unfold Oo at hF;(refine bgo func124 ?_;simp only[go_sem,simprocAttr,Cc]);(repeat'(first|((refine Jqa hF ?_);simp only[go_sem,simprocAttr])|fail))
    all_goals rfl
   | some t =>
    have hF:=Jdk [] s g e kids x.name hkv;rw[hf] at hF;unfold Oo at hF;(refine bgo func124 ?_;simp only[go_sem,simprocAttr,Cc]);(repeat'(first|((refine Jqa hF ?_);simp only[go_sem,simprocAttr])|fail))
    all_goals rfl
  ·rw[Iw hp hk];(refine bgo func124 ?_;simp only[go_sem,simprocAttr,Cc]);(repeat'(first|(apply iteI<;>intro h)|(exfalso;omega)))
   all_goals rfl
 ·rw[if_pos hp] at hx;obtain ⟨n,hn⟩:∃ n:Nat,x.n=n:=⟨x.n.toNat,omg⟩
  by_cases hk:k=5
  ·subst hk;rw[Tm hp,hn];have hpt:((n:Int)).toNat=n:=rfl;rw[hpt];by_cases hlt:n<kids.len
   ·obtain ⟨p,hpk⟩:∃ p,kids.list[n]? = some p:=⟨_,Eaa omg⟩
    have hpg:=Hx hpk;rw[hpk];(refine bgo func124 ?_;simp only[go_sem,simprocAttr,Cc]);(repeat'(first|(apply iteI<;>intro h)|((first|refine Jqm ?_|(refine Jqb (Px [] 5 s g e kids hkv) ?_));simp only[go_sem,simprocAttr,Cc,hpg])|(exfalso;omega)))
    all_goals rfl
   ·rw[Ece omg];have hpg:=hn;(refine bgo func124 ?_;simp only[go_sem,simprocAttr,Cc]);(repeat'(first|(exfalso;omega)|(apply iteI<;>intro h)|((refine Jqm ?_);simp only[go_sem,simprocAttr,Cc])|fail))
    all_goals rfl
  ·rw[Iz hp hk,hn];have hpg:=hn;(refine bgo func124 ?_;simp only[go_sem,simprocAttr,Cc]);(repeat'(first|(apply iteI<;>intro h)|((refine Jqm ?_);simp only[go_sem,simprocAttr,Cc])|(exfalso;omega)))
   all_goals rfl
def getT:List Step->Tree->Except Nat Tree
 | [],t=>.ok t
 | x :: p,t=>match inT t x with
  | .ok u=>getT p u
  | .error e=>.error e
theorem Jd7:∀ {f:Forest} {p:List UInt8×Tree},p∈f.list->(p.2.enc []).length<=f.enc.length
 | .nil,p,h=>by cases h
 | .cons nm t r,p,h=>by
  rw[A0,Eac];rcases Eam.1 h with rfl | h
  ·simp only;rw[G7 t nm];omega
  ·have:=Jd7 h;omega
theorem Kj7 {name:List UInt8}:∀ {l:List (List UInt8×Tree)} {t:Tree},Ch name l=some t->∃ p∈l,p.2=t/\p.1=name
 | [],t,h=>by cases h
 | p :: l,t,h=>by
  rw[Ch] at h;split at h
  ·cases h;exact ⟨p,Eag,rfl,by assumption⟩
  ·obtain ⟨q,h1,h2⟩:=Kj7 h;exact ⟨q,Eah _ h1,h2⟩
theorem Jd5 {k:Int} {s:List UInt8} {g:Bool} {e:Int} {kids:Forest} {x:Step} {u:Tree} (h:inT (.mk k s g e kids) x=.ok u):∃ p∈kids.list,p.2=u:=by
 cases hp:x.part
 ·by_cases hk:k=6
  ·subst hk;rw[Tp hp] at h;cases hf:Ch x.name kids.list with
   | none=>rw[hf] at h;cases h
   | some t =>
    rw[hf] at h;cases h;obtain ⟨p,h1,h2,_⟩:=Kj7 hf;exact ⟨p,h1,h2⟩
  ·rw[Iw hp hk] at h;cases h
 ·by_cases hk:k=5
  ·subst hk;rw[Tm hp] at h;cases hf:kids.list[x.n.toNat]? with
   | none=>rw[hf] at h;cases h
   | some p =>
    rw[hf] at h;cases h;exact ⟨p,Eae hf,rfl⟩
  ·rw[Iz hp hk] at h;cases h
theorem M2 {t:Tree} {x:Step} {er:Nat} (h:inT t x=.error er):er=5\/er=6:=by
 cases t with
 | mk k s g e kids =>
  cases hp:x.part
  ·by_cases hk:k=6
   ·subst hk;rw[Tp hp] at h;cases hf:Ch x.name kids.list with
    | none=>rw[hf] at h;cases h;exact .inr rfl
    | some t=>rw[hf] at h;cases h
   ·rw[Iw hp hk] at h;cases h;exact .inl rfl
  ·by_cases hk:k=5
   ·subst hk;rw[Tm hp] at h;cases hf:kids.list[x.n.toNat]? with
    | none=>rw[hf] at h;cases h;exact .inr rfl
    | some p=>rw[hf] at h;cases h
   ·rw[Iz hp hk] at h;cases h;exact .inl rfl
theorem Q7 {t u:Tree} {x:Step} (h:inT t x=.ok u):(u.enc []).length+1<=(t.enc []).length:=by
 cases t with
 | mk k s g e kids =>
  obtain ⟨p,h1,rfl⟩:=Jd5 h;have:=Jd7 h1;rw[A6,Eaf];omega
theorem M1 (p:List Step) (t:Tree) (hp:p.length<=1000000) (hok:∀ x∈p,Bc x) (hv:(t.enc []).length<=1500000000000):Det cx 66 [.p (.sl (Bb p)),.p (.sl (valL (t.enc [])))] [] (getR (getT p t)) []:=by
 (refine bgo func66 ?_;simp only[go_sem,simprocAttr,Aq]);refine SWP.loop (fun x:Nat×Tree=>⟨Ba 28 [(0,.p (.sl (Bb p))),(1,.p (.sl (valL (x.2.enc [])))),(10,.p (.sl (Bb p))),(11,.p (.int .i64 p.length)),(12,.p (.int .i64 x.1))],[]⟩) (fun x=>x.1<=p.length/\(x.2.enc []).length<=1500000000000/\getT (p.drop x.1) x.2=getT p t) (fun x=>p.length - x.1) (0,t) Jqc ⟨Eat _,hv,rfl⟩ ?_;rintro ⟨i,u⟩ ⟨h1,h2,h3⟩;simp only at h1 h2 h3;by_cases hi:¬ i<p.length
 ·have c1:((i:Int)<(p.length:Int))=False:=eq_false omg;rw[show p.drop i=[] from Ea0 omg,getT] at h3;(refine lws ?_;simp only[go_sem,simprocAttr,c1]);rw[<- h3];rfl
 ·have hi:=Eaw.1 hi;obtain ⟨x,hx⟩:∃ x,p[i]? = some x:=⟨_,Eaa hi⟩
  have hgx:=Dk hx;have hdx:p.drop i=x :: p.drop (i+1):=by rw[Eax hi];congr 1;rw[Eaa hi] at hx;exact Ea9 hx
  have hok':=hok x (Eae hx);rw[hdx,getT] at h3;have hin:=d_in u x h2 hok';have c1:((i:Int)<(p.length:Int))=True:=eq_true omg;cases hu:inT u x with
  | error er =>
   rw[hu] at hin h3;unfold getR at hin;(refine lws ?_;simp only[go_sem,simprocAttr,c1,hgx,wi1 (i:=i) omg]);(repeat'(first|(apply iteI<;>intro h)|((refine Jqa hin ?_);simp only[go_sem,simprocAttr,wi1 (i:=i) omg])|fail))
   ·rw[<- h3];rfl
   ·have:=M2 hu;omega
  | ok w =>
   rw[hu] at hin h3;unfold getR at hin;have hle:=Q7 hu;(refine lws ?_;simp only[go_sem,simprocAttr,c1,hgx,wi1 (i:=i) omg]);(repeat'(first|((refine Jqa hin ?_);simp only[go_sem,simprocAttr,wi1 (i:=i) omg])|fail));exact ⟨(i+1,w),⟨by simp only;omega,by simp only;omega,h3⟩,by simp only;omega,Jqc⟩
theorem Jcm {name:List UInt8} {l:List (List UInt8×Tree)} {k:Nat} {p:List UInt8×Tree} (h:l[k]? = some p) (hn:p.1≠name) (ht:∀ q∈l.take k,q.1≠name):∀ q∈l.take (k+1),q.1≠name:=by
 intro q hq;rw[Ebh,h] at hq;rcases Eau.1 hq with hq | hq
 ·exact ht q hq
 ·simp at hq;subst hq;exact hn
theorem Re (nm:List UInt8) (s:List UInt8) (g:Bool) (e:Int) (kids:Forest) (name:List UInt8) (hv:kids.enc.length<=1499999999999):Det cx 74 [.p (.sl (valL ((Tree.mk 6 s g e kids).enc nm))),.p (.str name)] [] (Oo (Ch name kids.list)) []:=by
 have hll:=Jqi kids;have hkl:=Jqh kids;(refine bgo func74 ?_;simp only[go_sem,simprocAttr]);(repeat'(first|((refine Jqa (Ir nm s g e kids hv) ?_);simp only[go_sem,simprocAttr])|fail));refine SWP.loop (fun i:Nat=>⟨Ba 27 [(0,.p (.sl (valL ((Tree.mk 6 s g e kids).enc nm)))),(1,.p (.str name)),(6,.p (.sl (Bd kids.list))),(7,.p (.int .i64 i))],[]⟩) (fun i=>i<=kids.list.length/\∀ q∈kids.list.take i,q.1≠name) (fun i=>kids.list.length - i) 0 Jqc ⟨Eat _,by simp⟩ ?_;rintro i ⟨h1,h2⟩;by_cases hi:¬ i<kids.list.length
 ·have c1:((i:Int)<(kids.list.length:Int))=False:=eq_false omg;rw[Ead omg] at h2;rw[Ls h2];(refine lws ?_;simp only[go_sem,simprocAttr,A9,c1]);rfl
 ·have hi:=Eaw.1 hi;obtain ⟨p,hp⟩:∃ p,kids.list[i]? = some p:=⟨_,Eaa hi⟩
  have hgn:(Bd kids.list)[i]? = some [.str p.1]:=by simp[Bd,hp]
  have hgp:=Hx hp;have c1:((i:Int)<(kids.list.length:Int))=True:=eq_true omg;by_cases hn:p.1=name
  ·rw[Li hp hn h2];have hw:=hn;(refine lws ?_;simp only[go_sem,simprocAttr,A9,c1,hgn,hw,wi1 (i:=i) omg]);(repeat'(first|((refine Jqa (Dy nm 6 s g e kids hv) ?_);simp only[go_sem,simprocAttr,hgp,wi1 (i:=i) omg])|fail))
   all_goals rfl
  ·have hw:(p.1=name)=False:=eq_false hn;(refine lws ?_;simp only[go_sem,simprocAttr,A9,c1,hgn,hw,wi1 (i:=i) omg]);exact ⟨i+1,⟨omg,Jcm hp hn h2⟩,omg,Jqc⟩
theorem P2 (t:Tree) (x:Step) (hv:(t.enc []).length<=1500000000000) (hx:Bc x):Det cx 128 [.p (.sl (valL (t.enc []))),.p (.agg [.bool x.part,.str x.name,.int .i64 x.n])] [] (getR (inT t x)) []:=by
 cases t with
 | mk k s g e kids =>
 have hkv:kids.enc.length<=1499999999999:=by rw[A6] at hv;simp at hv;omega
 have hll:=Jqi kids;have hkl:=Jqh kids;unfold Bc at hx;cases hp:x.part
 ·by_cases hk:k=6
  ·subst hk;rw[Tp hp];cases hf:Ch x.name kids.list with
   | none =>
    have hF:=Re [] s g e kids x.name hkv;rw[hf] at hF;unfold Oo at hF;(refine bgo func128 ?_;simp only[go_sem,simprocAttr,Cc]);(repeat'(first|((refine Jqa hF ?_);simp only[go_sem,simprocAttr])|fail))
    all_goals rfl
   | some t =>
    have hF:=Re [] s g e kids x.name hkv;rw[hf] at hF;unfold Oo at hF;(refine bgo func128 ?_;simp only[go_sem,simprocAttr,Cc]);(repeat'(first|((refine Jqa hF ?_);simp only[go_sem,simprocAttr])|fail))
    all_goals rfl
  ·rw[Iw hp hk];(refine bgo func128 ?_;simp only[go_sem,simprocAttr,Cc]);(repeat'(first|(apply iteI<;>intro h)|(exfalso;omega)))
   all_goals rfl
 ·rw[if_pos hp] at hx;obtain ⟨n,hn⟩:∃ n:Nat,x.n=n:=⟨x.n.toNat,omg⟩
  by_cases hk:k=5
  ·subst hk;rw[Tm hp,hn];have hpt:((n:Int)).toNat=n:=rfl;rw[hpt];have hPl:=A5 kids.list;by_cases hlt:n<kids.len
   ·obtain ⟨p,hpk⟩:∃ p,kids.list[n]? = some p:=⟨_,Eaa omg⟩
    have hpg:=Hx hpk;rw[hpk];(refine bgo func128 ?_;simp only[go_sem,simprocAttr,Cc]);(repeat'(first|(apply iteI<;>intro h)|((refine Jqa (Dy [] 5 s g e kids hkv) ?_);simp only[go_sem,simprocAttr,hpg,hPl])|(exfalso;omega)))
    all_goals rfl
   ·rw[Ece omg];have hpg:=hn;(refine bgo func128 ?_;simp only[go_sem,simprocAttr,Cc]);(repeat'(first|(exfalso;omega)|(apply iteI<;>intro h)|((refine Jqa (Dy [] 5 s g e kids hkv) ?_);simp only[go_sem,simprocAttr,hPl])|fail))
    all_goals rfl
  ·rw[Iz hp hk,hn];have hpg:=hn;have hPl:=hn;(refine bgo func128 ?_;simp only[go_sem,simprocAttr,Cc]);(repeat'(first|(apply iteI<;>intro h)|(exfalso;omega)))
   all_goals rfl
end Go.LX
namespace Go.LX
open Go Go.RowKit Go.Proofs
section
variable {X:Cx} {ro:Option Nat} {c:Code} {Q:Ex->St->Prop}
theorem J10 {s:St} {d:Nat} {T:TypeId} {es:List (List PV)} (hd:Am d s.regs=some (.row T 1 es)) (h0:0<es.length)
  (h:∀ k,SWP X ro c Q { s with regs:=Bs d (.lrow T 1 true (es.map (List.map L.p) ++ List.replicate k [L.junk])) s.regs }):SWP X ro c Q s:=by
 intro Γ a w hG ⟨ms,hdef,β,Im,hx⟩;have hmem:=Ax hd;rcases hx.fit.regs d _ hmem with ⟨_,rfl⟩ | ⟨loc,cur,hβ,hlz,hbk,hcl,hle,hml,hel,hcell⟩
 ·simp at h0
 refine h (loc.tot - es.length) Γ a w hG ⟨ms,hdef,β,Im,hx.store hmem hβ rfl rfl rfl rfl (fun _ _=>rfl) (.inr ?_)⟩;have hll:(es.map (List.map L.p) ++ List.replicate (loc.tot - es.length) [L.junk]).length=loc.tot:=by simp;omega
 refine ⟨loc,cur,hβ,hlz,hbk,hcl,by rw[hll];exact Eaj _,fun _=>hll,hml,fun e he=>?_,fun i e j l hi hj=>?_⟩
 ·rcases Eau.1 he with he | he
  ·obtain ⟨q,hq,rfl⟩:=Eav.1 he;rw[Ebg];exact (hel q hq).1
  ·rw[List.eq_of_mem_replicate he];rfl
 ·by_cases hlt:i<es.length
  ·rw[Ear (by simpa using hlt),Eal] at hi;obtain ⟨q,hq,rfl⟩:=Eak.1 hi;rw[Eal] at hj;obtain ⟨p,hp,rfl⟩:=Eak.1 hj;obtain ⟨v,hv,hr⟩:=hcell i q j p hq hp;exact ⟨v,hv,hr,.inl ((hel q (Eae hq)).2 p (Eae hp))⟩
  ·rw[Eaq (by simpa using hlt)] at hi;simp only[Ebg] at hi;obtain ⟨hi1,rfl⟩:=Eab.1 hi;simp only[Eb1] at hi1;simp only[List.getElem_replicate] at hj;have hj0:j=0:=by have:=(Eab.1 hj).1;simp at this;exact this
   subst hj0;simp at hj;subst hj;have hc:i * 1+0<cur.length:=by rw[hcl];omega
   exact ⟨_,Eaa hc,trivial,.inr rfl⟩
theorem Jq:∀ es:List (List PV),Cb (es.map (List.map L.p))=some es
 | []=>rfl
 | e :: es=>by
  have h:∀ e:List PV,Bg L.pure? (e.map L.p)=some e:=by
   intro e
   induction e with
   | nil=>rfl
   | cons p e ih=>simp only[Eay,Bg,L.pure?,ih]
  simp only[Eay,Cb,h,Jq es]
theorem Gd {es:List (List PV)} {r:List (List L)} {n:Nat} (h:n<=es.length):Cb ((es.map (List.map L.p) ++ r).take n)=some (es.take n):=by
 rw[Ebs (by simpa using h),<- Ec2,Jq]
theorem Me {es:List (List PV)} {r:List (List L)} {o n:Nat} (h:o+n<=es.length):Cb (((es.map (List.map L.p) ++ r).drop o).take n)=some ((es.drop o).take n):=by
 rw[List.drop_append_of_le_length (by simp;omega),Ebs (by simp;omega),<- Edh,<- Ec2,Jq]
end
theorem W9 {X:Cx} {f:FuncId} {fn:Func} {tS tR e:TypeId} (hf:X.P.funcs[f]? = some fn) (hname:(fn.name == "runtime.NumGoroutine")=false) (hb:fn.body.isNone=true) (hn:Extern.findNext fn=none)
  (he:Extern.find fn=some (Extern.SlicesOverlaps.overlaps #[tS,tS] #[tR])) (ht:slE X.P tS=some (e,1)) {rs:Regs} {d1 o1 n1 d2 o2 n2:Nat} {T1 T2:TypeId} {es1:List (List PV)} {f2:Bool} {es2:List (List L)}
  (h1:Am d1 rs=some (.row T1 1 es1)) (h2:Am d2 rs=some (.lrow T2 1 f2 es2)) (hne:d1≠d2) (hp1:0<es1.length) (hp2:0<es2.length):Ad X f [.own d1 o1 n1,.own d2 o2 n2] rs (.p (.bool false)):=by
 intro β Im w vs hfit;obtain ⟨v,u,rfl,r1,r2⟩:=fit2 hfit;have m1:=Ax h1;have m2:=Ax h2;obtain ⟨ht0,hcs,h0⟩:=Dw ht;rcases hfit.regs d1 _ m1 with ⟨_,rfl⟩ | ⟨l1,c1,b1,z1,k1,q1,y1,-⟩
 ·simp at hp1
 rcases hfit.regs d2 _ m2 with ⟨_,rfl⟩ | ⟨l2,c2,b2,z2,k2,q2,y2,-⟩
 ·simp at hp2
 rcases r1 with ⟨l1',cap1,a1,b1',_,_,_,rfl⟩ | ⟨hn1,_⟩
 rotate_left
 ·rw[b1] at hn1;cases hn1
 rcases r2 with ⟨l2',cap2,a2,b2',_,_,_,rfl⟩ | ⟨hn2,_⟩
 rotate_left
 ·rw[b2] at hn2;cases hn2
 rw[b1] at b1';cases b1';rw[b2] at b2';cases b2';have hap:=hfit.apart d1 _ d2 _ l1 l2 m1 m2 hne b1 b2;refine ⟨.bool false,?_,PRep.bool _⟩;rw[run_callFunc_extern hf hname hb hn he,
  Lib.run_overlaps_apart w tS tR e ht0 1 (fun w=>Bk (P:=X.P) hcs de w) ⟨l1.blk,a1,none⟩ ⟨l2.blk,a2,none⟩ n1 cap1 n2 cap2 hap T1 T2 c1.length c2.length (by simp[World.shape?,k1]) (by simp[World.shape?,k2]) omg (by simp[World.frozen?,k1]) (by simp[World.frozen?,k1])]
 rfl
theorem Jxz {X:Cx} {f:FuncId} {args:List L} {rs rest:Regs} {l:L} {T:TypeId} {es:List (List PV)} (n:Nat)
  (h:Al X f args rs fun m q=>m=l/\(q=(900,.row T 1 es) :: rest\/∃ b ls,q=(900,.lrow T 1 b ls) :: rest/\Cb (ls.take n)=some es)):Det X f args rs l ((900,.row T 1 es) :: rest):=by
 refine ⟨h.1,fun β Im w vs hg hf=>(h.2 β Im w vs hg hf).mono fun e w' ⟨v,m,rs',β',Im',he,⟨hm,hq⟩,hr,hc⟩=>?_⟩;rcases hq with rfl | ⟨b,ls,rfl,hp⟩
 ·exact ⟨v,m,_,β',Im',he,⟨hm,rfl⟩,hr,hc⟩
 ·refine ⟨v,m,_,β',Im',he,⟨hm,rfl⟩,hr,?_⟩;obtain ⟨pl,pp⟩:=Dh hp;have hf':=hc.fit;have key:∀ d r,(d,r)∈(900,Reg.row T 1 es) :: rest->∃ r',(d,r')∈(900,Reg.lrow T 1 b ls) :: rest:=by
   intro d r hd;rcases Eam.1 hd with hd | hd
   ·cases hd;exact ⟨_,Eag⟩
   ·exact ⟨r,Eah _ hd⟩
  have hreg:Ci β' w' Im' 900 (.row T 1 es):=by
   rcases hf'.regs 900 _ Eag with ⟨hn,rfl⟩ | ⟨loc,cur,hβ,hlz,hbk,hcl,hle,hfu,hml,hel,hcell⟩
   ·refine .inl ⟨hn,Ean (by simpa using pl.symm)⟩
   ·have key:∀ (i:Nat) (q:List PV),es[i]? = some q->∃ e,ls[i]? = some e/\e.length=q.length/\∀ (j:Nat) (p:PV),q[j]? = some p->e[j]? = some (.p p):=by
     intro i q hq;obtain ⟨e,he,ha⟩:=pp i q hq;have he':ls[i]? = some e:=by
      rw[Eao] at he;split at he
      ·exact he
      ·cases he
     obtain ⟨al,ag⟩:=Bh ha;refine ⟨e,he',al,fun j p hj=>?_⟩;obtain ⟨l,hl'⟩:=getElem?_of_length al hj;have h1:=ag j l p hl' hj;cases l<;>simp[L.pure?] at h1;subst h1;exact hl'
    refine .inr ⟨loc,cur,hβ,hlz,hbk,hcl,by rw[<- pl,Eas];omega,hml,fun q hq=>?_,fun i q j p hi hj=>?_⟩
    ·obtain ⟨i,hi,rfl⟩:=Ebc hq;obtain ⟨e,he,h1,h2⟩:=key i _ (Eaa hi);refine ⟨by rw[<- h1];exact hel e (Eae he),fun p hp=>?_⟩;obtain ⟨j,hj,rfl⟩:=Ebc hp;obtain ⟨v,_,_,hco⟩:=hcell i e j _ he (h2 j _ (Eaa hj));rcases hco with hco | hco
     ·exact hco
     ·cases hco
    ·obtain ⟨e,he,h1,h2⟩:=key i q hi;obtain ⟨v,hv,hr,_⟩:=hcell i e j _ he (h2 j p hj);exact ⟨v,hv,hr⟩
  refine { hc with keys:=fun d r hd=>(key d r hd).elim fun r' h'=>hc.keys d r' h',regnew:=fun d r loc hd hl=>(key d r hd).elim fun r' h'=>hc.regnew d r' loc h' hl,fit:={ size:=hf'.size,tmps:=hf'.tmps,im:=hf'.im,regs:=fun d r hd=>?_,nodup:=hf'.nodup,live:=fun d r loc hd hl=>(key d r hd).elim fun r' h'=>hf'.live d r' loc h' hl,apart:=fun d r d' r' l1 l2 hd hd' hne h1 h2=>(key d r hd).elim fun r1 h1'=>(key d' r' hd').elim fun r2 h2'=>hf'.apart d r1 d' r2 l1 l2 h1' h2' hne h1 h2 } };rcases Eam.1 hd with hd | hd
  ·cases hd;exact hreg
  ·exact hf'.regs d r (Eah _ hd)
theorem Al.sub {X:Cx} {f:FuncId} {args:List L} {rs:Regs} {Post Post':L->Regs->Prop} (h:Al X f args rs Post) (hp:∀ m q,Post m q->∃ q0,q0.Sublist q/\Post' m q0):Al X f args rs Post':=by
 refine ⟨h.1,fun β Im w vs hg hf=>(h.2 β Im w vs hg hf).mono fun e w' ⟨v,m,rs',β',Im',he,hP,hr,hc⟩=>?_⟩;obtain ⟨q0,hs,hP'⟩:=hp m rs' hP;have hf':=hc.fit;have key:∀ d r,(d,r)∈q0->(d,r)∈rs':=fun d r hd=>hs.subset hd
 exact ⟨v,m,q0,β',Im',he,hP',hr,{ hc with keys:=fun d r hd=>hc.keys d r (key d r hd),regnew:=fun d r loc hd hl=>hc.regnew d r loc (key d r hd) hl,fit:={ size:=hf'.size,tmps:=hf'.tmps,im:=hf'.im,regs:=fun d r hd=>hf'.regs d r (key d r hd),nodup:=hf'.nodup.sublist (hs.map _),live:=fun d r loc hd hl=>hf'.live d r loc (key d r hd) hl,apart:=fun d r d' r' l1 l2 hd hd' hne h1 h2=>hf'.apart d r d' r' l1 l2 (key d r hd) (key d' r' hd') hne h1 h2 } }⟩
theorem Kj {f:L->L} (hp:∀ p,f (.p p)=.p p) (hj:f .junk=.junk) (es:List (List PV)) (k:Nat):List.map (fun e=>List.map f e) (es.map (List.map L.p) ++ List.replicate k [L.junk])=es.map (List.map L.p) ++ List.replicate k [L.junk]:=by
 rw[Eb9,Eck,List.map_replicate];have h1:(fun e=>List.map f e) ∘ List.map L.p=List.map L.p:=by
  funext e;simp only[Function.comp,Eck];congr 1;funext p;exact hp p
 rw[h1];simp[hj]
theorem Z8 {es:List (List PV)} {i k:Nat} (hi:i<es.length) (hk:k≠0) :
  (es.map (List.map L.p) ++ List.replicate k [L.junk]).take (i+1) ++ (es.drop i).map (List.map L.p) ++ (es.map (List.map L.p) ++ List.replicate k [L.junk]).drop (i+1+(es.length - i))=(es.take (i+1) ++ es.drop i).map (List.map L.p) ++ List.replicate (k - 1) [L.junk]:=by
 rw[Ebs (by simp;omega),show i+1+(es.length - i)=(es.map (List.map L.p)).length+1 by simp;omega,List.drop_append,Ea0 (show (es.map (List.map L.p)).length<=(es.map (List.map L.p)).length+1 by omega),List.nil_append,List.drop_replicate,Eb9,Ec2];congr 2;simp
theorem Xp {es:List (List PV)} {i k:Nat} {q:List PV} (hi:i<es.length) :
  ((es.take (i+1) ++ es.drop i).map (List.map L.p) ++ List.replicate k [L.junk]).take i ++ [q.map L.p] ++ ((es.take (i+1) ++ es.drop i).map (List.map L.p) ++ List.replicate k [L.junk]).drop (i+1)=(es.take i ++ [q] ++ es.drop i).map (List.map L.p) ++ List.replicate k [L.junk]:=by
 rw[Ebs (by simp;omega),List.drop_append_of_le_length (by simp;omega),<- Ec2,<- Edh,Ebs (by simp;omega),List.drop_append_of_le_length (by simp;omega),List.take_take,Ea0 (show (es.take (i+1)).length<=i+1 by simp;omega),Ec9 omg];simp
def isSl:Option TypeDesc->Prop
 | some (.slice _)=>True
 | _=>False
theorem Hi {e:TypeId}:isSl (some (.slice e))=True:=(rfl)
def capR (off:Nat) (K:L->Prop):Option Reg->Prop
 | some (.lrow _ _ true es)=>K (.p (.int .i64 (es.length - off:Nat)))
 | _=>False
def capV (regs:Regs) (K:L->Prop):L->Prop
 | .p .snil=>K (.p (.int .i64 0))
 | .own d off _=>capR off K (Am d regs)
 | _=>False
theorem K9 {P:Program} {r:Regs} {t:List L} {o:Operand} {ty:TypeId} {K:L->Prop}:lqvK P r ⟨t,r⟩ (.call { callee:=.builtin .cap,args:=#[o],argTypes:=#[ty] }) K=(isSl (P.underlying ty)/\capV r K ((St.mk t r).get o)):=by
 have h1:(∃ e,P.underlying ty=some (.slice e)) ↔ isSl (P.underlying ty):=by
  unfold isSl;split
  ·rename_i e h;exact ⟨fun _=>trivial,fun _=>⟨e,h⟩⟩
  ·rename_i h;exact ⟨fun ⟨k,hk⟩=>h k hk,fun h=>h.elim⟩
 unfold lqvK lqv;simp only[h1];apply pe;constructor
 ·rintro ⟨l,⟨h,h'⟩,hK⟩;refine ⟨h,?_⟩;split at h'
  ·rename_i hg;rw[hg];subst h';exact hK
  ·rename_i d off n hg;rw[hg];show capR off K (Am d r);split at h'
   ·rename_i T sz es hr;rw[hr];subst h';exact hK
   ·exact h'.elim
  ·exact h'.elim
 ·rintro ⟨h,hK⟩;unfold capV at hK;split at hK
  ·rename_i hg;rw[hg];exact ⟨_,⟨h,rfl⟩,hK⟩
  ·rename_i d off n hg;rw[hg];unfold capR at hK;split at hK
   ·rename_i T sz es hr;simp only[hr];exact ⟨_,⟨h,rfl⟩,hK⟩
   ·exact hK.elim
  ·exact hK.elim
theorem Hf {r:Regs} {K:L->Prop} {d off n:Nat}:capV r K (.own d off n)=capR off K (Am d r):=(rfl)
theorem Kc {off:Nat} {K:L->Prop} {T sz:Nat} {es:List (List L)}:capR off K (some (.lrow T sz true es))=K (.p (.int .i64 (es.length - off:Nat))):=(rfl)
end Go.LX
namespace Go.LX
open Go Go.RowKit Go.Proofs Go.Proofs.Tryz
attribute [local irreducible] Al SWP Bi
def Cq (x:List UInt8):List (List UInt8)->Nat
 | []=>0
 | s :: l=>if Op.bytesLess s x=true then Cq x l+1 else 0
theorem Qt (x:List UInt8):∀ l,Cq x l<=l.length
 | []=>Eaj _
 | s :: l=>by have:=Qt x l;simp only[Cq,Eaf];split<;>omega
theorem Zr {x:List UInt8}:∀ {l:List (List UInt8)} {k:Nat} {s:List UInt8},k<Cq x l->l[k]? = some s->Op.bytesLess s x=true
 | [],_,_,h,_=>by simp[Cq] at h
 | t :: l,k,s,h,hk=>by
  simp only[Cq] at h;split at h
  ·cases k with
   | zero=>simp at hk;subst hk;assumption
   | succ k=>exact Zr (l:=l) (k:=k) omg (by simpa using hk)
  ·omega
theorem Wz {x:List UInt8}:∀ {l:List (List UInt8)} {s:List UInt8},l[Cq x l]? = some s->Op.bytesLess s x=false
 | [],_,h=>by simp at h
 | t :: l,s,h=>by
  simp only[Cq] at h;split at h
  ·exact Wz (l:=l) (by simpa using h)
  ·rename_i h1;simp only[List.getElem?_cons_zero,Option.some.injEq] at h;subst h;exact Bool.not_eq_true _ ▸ h1
def Mono (x:List UInt8) (l:List (List UInt8)):Prop:=∀ (i j:Nat) (s t:List UInt8),i<=j->l[i]? = some s->l[j]? = some t->Op.bytesLess t x=true->Op.bytesLess s x=true
theorem Jel {x:List UInt8} {l:List (List UInt8)} (hmo:Mono x l) {k:Nat} {s:List UInt8} (hk:l[k]? = some s):(Op.bytesLess s x=true ↔ k<Cq x l):=by
 constructor
 ·intro h;by_cases hlt:k<Cq x l
  ·exact hlt
  ·have hkl:=(Eab.1 hk).1;obtain ⟨t,ht⟩:∃ t,l[Cq x l]? = some t:=⟨_,Eaa (show Cq x l<l.length from Nat.lt_of_le_of_lt (Nat.le_of_not_lt hlt) hkl)⟩
   have:=hmo (Cq x l) k t s omg ht hk h;rw[Wz ht] at this;cases this
 ·exact fun h=>Zr h hk
def strL (l:List (List UInt8)):List (List PV):=l.map fun s=>[.str s]
theorem Jum (l:List (List UInt8)):(strL l).length=l.length:=by simp[strL]
def Mo (x:List UInt8) (l:List (List UInt8)):Bool:=match l[Cq x l]? with
 | some s=>s == x
 | none=>false
theorem half {i j:Nat} (h:i+j<=4000000000000):IntKind.i64.wrap ((IntKind.u64.wrap (IntKind.i64.wrap ((i:Int)+(j:Int)))).fdiv (2 ^ min 1 (B0 .u64)))=(((i+j) / 2:Nat):Int):=by
 have e:(((i+j:Nat):Int)).fdiv (2 ^ min 1 (B0 .u64))=(((i+j) / 2:Nat):Int):=by
  rw[show min 1 (B0 .u64)=1 by decide,Ecl _ de];simp
 rw[Aa (n:=(i:Int)+j) omg omg,show ((i:Int)+(j:Int))=((i+j:Nat):Int) by omega,Mf (n:=((i+j:Nat):Int)) omg omg];rw[e,Aa omg omg]
theorem Jdr (a:List UInt8):Det cx 155 [.p (.str a)] [] (.p (.bool false)) []:=by
 (refine bgo func155 ?_;simp only[go_sem,simprocAttr])
theorem Mt (a:List UInt8):Det cx 179 [.p (.str a)] [] (.p (.bool false)) []:=by
 (refine bgo func179 ?_;simp only[go_sem,simprocAttr])
theorem Jh8 (a b:List UInt8):Det cx 178 [.p (.str a),.p (.str b)] [] (.p (.bool (Op.bytesLess a b))) []:=by
 (refine bgo func178 ?_;simp only[go_sem,simprocAttr]);(repeat'(first|((refine Jqa (Jdr a) ?_);simp only[go_sem,simprocAttr])|fail))
theorem Jmd (x:List UInt8) (l:List (List UInt8)) (hmo:Mono x l) (hn:l.length<=1500000000000):Det cx 142 [.own 1000 0 l.length,.p (.str x)] [(1000,.row 9 1 (strL l))] (.tup [.int .i64 (Cq x l),.bool (Mo x l)]) [(1000,.row 9 1 (strL l))]:=by
 have hpl:=Qt x l;(refine bgo func142 ?_;simp only[go_sem,simprocAttr]);refine SWP.loop (fun p:Nat×Nat=>⟨Ba 54 [(0,.own 1000 0 l.length),(1,.p (.str x)),(5,.p (.bool false)),(6,.p (.int .i64 l.length)),(7,.p (.int .i64 p.1)),(8,.p (.int .i64 p.2))],[(1000,.row 9 1 (strL l))]⟩) (fun p=>p.1<=Cq x l/\Cq x l<=p.2/\p.2<=l.length) (fun p=>p.2 - p.1) (0,l.length) Jqc ⟨Eat _,hpl,Eaj _⟩ ?_;rintro ⟨i,j⟩ ⟨h1,h2,h3⟩;simp only at h1 h2 h3;by_cases hi:i<j
 ·have hh:=half (i:=i) (j:=j) omg;obtain ⟨s,hs⟩:∃ s,l[(i+j) / 2]? = some s:=⟨_,Eaa (show (i+j) / 2<l.length by omega)⟩
  have hg:(strL l)[(i+j) / 2]? = some [.str s]:=by simp[strL,hs]
  have hiff:=Jel hmo hs;have c1:((i:Int)<(j:Int))=True:=eq_true omg;have c2:=c1;(refine lws ?_;simp only[go_sem,simprocAttr,hh,hg,c1]);(repeat'(first|(apply iteI<;>intro h)|refine Jqj ?_|((refine Jqa (Jh8 s x) ?_);simp only[go_sem,simprocAttr])|fail))
  ·have hlt:=hiff.1 (by assumption);exact ⟨((i+j) / 2+1,j),⟨by simp only;omega,by simp only;omega,by simp only;omega⟩,by simp only;omega,Jqc⟩
  ·have hlt:¬ (i+j) / 2<Cq x l:=fun h=>by have:=hiff.2 h;simp_all
   exact ⟨(i,(i+j) / 2),⟨by simp only;omega,by simp only;omega,by simp only;omega⟩,by simp only;omega,Jqc⟩
 ·have c1:((i:Int)<(j:Int))=False:=eq_false omg;have hij:i=Cq x l:=by omega
  subst hij;have hh:=c1;by_cases hl:Cq x l<l.length
  ·have c2:((Cq x l:Int)<(l.length:Int))=True:=eq_true omg;obtain ⟨s,hs⟩:∃ s,l[Cq x l]? = some s:=⟨_,Eaa hl⟩
   have hg:(strL l)[Cq x l]? = some [.str s]:=by simp[strL,hs]
   have hf:Mo x l=(s == x):=by unfold Mo;rw[hs]
   (refine lws ?_;simp only[go_sem,simprocAttr,hh,hg,c2]);(repeat'(first|(apply iteI<;>intro h)|((refine Jqa (Mt s) ?_);simp only[go_sem,simprocAttr])|fail))
   all_goals simp[hf, *]
  ·have hg:=c1;have c2:((Cq x l:Int)<(l.length:Int))=False:=eq_false omg;have hf:Mo x l=false:=by unfold Mo;rw[Ece omg]
   (refine lws ?_;simp only[go_sem,simprocAttr,hh,c2])
   all_goals exact hf.symm
theorem Jbo {rs:Regs} {d1 o1 n1 d2 o2 n2:Nat} {T1 T2:TypeId} {es1:List (List PV)} {f2:Bool} {es2:List (List L)} (h1:Am d1 rs=some (.row T1 1 es1)) (h2:Am d2 rs=some (.lrow T2 1 f2 es2)) (hne:d1≠d2) (hp1:0<es1.length) (hp2:0<es2.length) :
  Ad cx 180 [.own d1 o1 n1,.own d2 o2 n2] rs (.p (.bool false)) :=
 W9 (X:=cx) func180 kr kr kr (tS:=61) (tR:=4) (e:=9) kr f_s61 h1 h2 hne hp1 hp2
theorem Yh (es:List (List PV)) (n i:Nat) (x:List UInt8) (h:es.length=n) (hi:i<n) (hn:n<=1500000000000) (h1:∀ q∈es,q.length=1):Det cx 143 [.own 1000 0 n,.p (.int .i64 i),.own 1001 0 1] [(1001,.row 9 1 [[.str x]]),(1000,.row 9 1 es)] (.own 900 0 (n+1)) [(900,.row 9 1 (es.take i ++ [[.str x]] ++ es.drop i)),(1001,.row 9 1 [[.str x]])]:=by
 refine Jxz (n+1) ?_;refine Al.sub (Post:=fun m q=>m=.own 900 0 (n+1)/\((∃ r,q=[(900,.row 9 1 (es.take i ++ [[.str x]] ++ es.drop i)),(1001,.row 9 1 [[.str x]]),(1000,r)])\/∃ b ls,q=[(900,.lrow 9 1 b ls),(1001,.row 9 1 [[.str x]])]/\Cb (ls.take (n+1))=some (es.take i ++ [[.str x]] ++ es.drop i))) ?_ (by
  rintro m q ⟨rfl,⟨r,rfl⟩ | ⟨b,ls,rfl,hp⟩⟩
  ·exact ⟨_,((List.nil_sublist _).cons_cons _).cons_cons _,rfl,.inl rfl⟩
  ·exact ⟨_,List.Sublist.refl _,rfl,.inr ⟨b,ls,rfl,hp⟩⟩)
 refine Jua (X:=cx) true [(40,900)] sm func143 kr rfl (by simp only[Eaf,Ebe,ntmps143];decide) sm ?_;refine J10 (d:=1000) (T:=9) (es:=es) rfl omg fun k=>?_
 generalize hls:es.map (List.map L.p) ++ List.replicate k [L.junk]=ls;have hll:ls.length=n+k:=by rw[<- hls];simp[h]
 have c1:((i:Int)=(n:Int))=False:=eq_false omg;have hp0:(0<ls.length)=True:=eq_true omg;have hr1:Cb (ls.take i)=some (es.take i):=by rw[<- hls];exact Gd omg
 have w1:IntKind.i64.wrap ((n:Int)+((1:Nat):Int))=((n+1:Nat):Int):=by rw[Aa omg omg];omega
 have w3:IntKind.i64.wrap ((i:Int)+((1:Nat):Int))=((i+1:Nat):Int):=by rw[Aa omg omg];omega
 have c4:(((1:Nat):Int)=0)=False:=by simp
 have c7:((1:Nat)=0)=False:=by simp
 have c6:(n - i=0)=False:=eq_false omg;have e2:List.take (n+1 - i) [[PV.str x]]=[[PV.str x]]:=Ead (by simp;omega);have e3:n+1 - (i+1)=n - i:=by omega
 have e5:(es.drop i).length=n - i:=by simp[h]
 have hr2:Cb ((ls.drop i).take (n - i))=some (es.drop i):=by rw[<- hls,Me omg,Ead (by simp;omega)]
 by_cases hk:k=0
 ·subst hk;have c2:((ls.length:Int)<((n+1:Nat):Int))=True:=eq_true omg;have c3:((n:Int)<((n+1:Nat):Int))=True:=eq_true omg;have w2:IntKind.i64.wrap (((n+1:Nat):Int) - (i:Int))=((n+1 - i:Nat):Int):=by rw[Aa omg omg];omega
  simp only[Nat.add_zero] at hll;have e1:i+(n+1 - i)=n+1:=by omega
  have hT:(es.take i ++ List.replicate (n+1 - i) [PV.str []]).take i=es.take i:=by rw[Ebs (by simp;omega),List.take_take,Nat.min_self]
  have hD:(es.take i ++ List.replicate (n+1 - i) [PV.str []]).drop (i+1)=List.replicate (n - i) [PV.str []]:=by
   rw[List.drop_append,Ea0 (by simp;omega),List.nil_append,List.drop_replicate];congr 1;simp;omega
  have hF:List.map (fun e=>List.map (L.forget 40) e) ls=ls:=by rw[<- hls];exact Kj (fun _=>rfl) rfl _ _
  have c5:(i+(n - i)<=n)=True:=eq_true omg;have e4:min (n - i) (n - i)=n - i:=Nat.min_self _;have hB:(es.take i ++ [[PV.str x]] ++ List.replicate (n - i) [PV.str []]).take (i+1) ++ es.drop i ++ (es.take i ++ [[PV.str x]] ++ List.replicate (n - i) [PV.str []]).drop (i+1+(n - i))=es.take i ++ [[PV.str x]] ++ es.drop i:=by
   have l1:(es.take i ++ [[PV.str x]]).length=i+1:=by simp;omega
   rw[Ebs omg,Ead (l:=es.take i ++ [[PV.str x]]) omg,Ea0 (show (es.take i ++ [[PV.str x]] ++ List.replicate (n - i) [PV.str []]).length<=i+1+(n - i) by simp;omega),Ea5]
  have hC:=hB;simp only[ntmps143,results143,go_sem,Nat.reduceLT,Nat.reduceLeDiff,Nat.reduceEqDiff,Nat.reduceAdd,Nat.reduceSub,Nat.reduceMul,Nat.reduceBEq,Int.reduceToNat,Int.reduceLT,Int.reduceLE,Int.reduceEq,Int.reduceAdd,Int.reduceSub,Int.reduceNeg,↓reduceIte,reduceCtorEq,K9,Hf,Kc,Hi,hll,c1,c2,c3,c4,c5,c6,c7,w1,w2,w3,hr1,hr2,hp0,if_true,if_false,Nat.sub_zero,Eb1,e1,e2,e3,e4,e5,hT,hD,hF,hB,hC];(refine lws ?_;simp only[go_sem,Nat.reduceLT,Nat.reduceLeDiff,Nat.reduceEqDiff,↓reduceIte,reduceCtorEq,K9,Hf,Kc,Hi,hll,c1,c3,c4,c7,w1,w2,hr1,Nat.sub_zero,Eb1,e1,e2,hT,hD,hF]);(repeat'(first|(refine And.intro (by first|omega | (simp;done)|(simp;omega)|(intro q hq;exact h1 q (Ea3 hq))|(intro q hq;exact h1 q hq)|(intro q hq;simp at hq;subst hq;rfl)) ?_)|fail));(refine Gi 8 hm kr kr ?_;simp only[go_sem,Nat.reduceLT,Nat.reduceEqDiff,Nat.reduceAdd,↓reduceIte,reduceCtorEq,hll,c5,c6,w3,hr2,e3,e4,e5,hB]);(repeat'(first|(refine And.intro (by first|omega | (simp;done)|(simp;omega)|(intro q hq;exact h1 q (Ea3 hq))|(intro q hq;exact h1 q hq)|(intro q hq;simp at hq;subst hq;rfl)) ?_)|fail));exact .inl ⟨_,rfl⟩
 ·have c2:((ls.length:Int)<((n+1:Nat):Int))=False:=eq_false omg;have c3:(((n+k:Nat):Int)<((n+1:Nat):Int))=False:=eq_false omg;have w2:=c4;have e1:=c4;have hT:=c4;have hD:=c4;have hF:List.map (fun e=>List.map (L.map (Fb 1000 40)) e) ls=ls:=by rw[<- hls];exact Kj (fun _=>rfl) rfl _ _
  have c5:(i+(n+1 - i)<=n+k)=True:=eq_true omg;have e4:min (n+1 - i) (n - i)=n - i:=by omega
  have hB:ls.take (i+1) ++ (es.drop i).map (List.map L.p) ++ ls.drop (i+1+(n - i))=(es.take (i+1) ++ es.drop i).map (List.map L.p) ++ List.replicate (k - 1) [L.junk]:=by
   have:=Z8 (es:=es) (i:=i) (k:=k) omg hk;rw[hls,h] at this;exact this
  have hC:((es.take (i+1) ++ es.drop i).map (List.map L.p) ++ List.replicate (k - 1) [L.junk]).take i ++ [[L.p (.str x)]] ++ ((es.take (i+1) ++ es.drop i).map (List.map L.p) ++ List.replicate (k - 1) [L.junk]).drop (i+1)=(es.take i ++ [[PV.str x]] ++ es.drop i).map (List.map L.p) ++ List.replicate (k - 1) [L.junk]:=Xp (q:=[PV.str x]) omg;simp only[ntmps143,results143,go_sem,Nat.reduceLT,Nat.reduceLeDiff,Nat.reduceEqDiff,Nat.reduceAdd,Nat.reduceSub,Nat.reduceMul,Nat.reduceBEq,Int.reduceToNat,Int.reduceLT,Int.reduceLE,Int.reduceEq,Int.reduceAdd,Int.reduceSub,Int.reduceNeg,↓reduceIte,reduceCtorEq,K9,Hf,Kc,Hi,hll,c1,c2,c3,c4,c5,c6,c7,w1,w2,w3,hr1,hr2,hp0,if_true,if_false,Nat.sub_zero,Eb1,e1,e2,e3,e4,e5,hT,hD,hF,hB,hC];(refine lws ?_;simp only[go_sem,Nat.reduceLT,Nat.reduceEqDiff,↓reduceIte,reduceCtorEq,K9,Hf,Kc,Hi,hll,c1,c3,c4,w1,w3,Nat.sub_zero,e3]);(repeat'(first|(refine And.intro (by first|omega | (simp;done)|(simp;omega)|(intro q hq;exact h1 q (Ea3 hq))|(intro q hq;exact h1 q hq)|(intro q hq;simp at hq;subst hq;rfl)) ?_)|fail));refine Jyr (l:=.p (.bool false)) ?_ ?_
  ·exact Jbo rfl rfl de sm omg
  simp only[go_sem,Nat.reduceLT,↓reduceIte];refine Jqg (B1 [(1000,40)] _ sm) ?_;simp only[go_sem,Nat.reduceEqDiff,↓reduceIte,hF];(refine Gi 8 hm kr kr ?_;simp only[go_sem,Nat.reduceLT,Nat.reduceLeDiff,Nat.reduceEqDiff,Nat.reduceAdd,↓reduceIte,reduceCtorEq,hll,c5,c6,c7,w3,hr2,e2,e3,e4,e5,hB,hC]);(repeat'(first|(refine And.intro (by first|omega | (simp;done)|(simp;omega)|(intro q hq;exact h1 q (Ea3 hq))|(intro q hq;exact h1 q hq)|(intro q hq;simp at hq;subst hq;rfl)) ?_)|fail));rw[Kj (fun _=>rfl) rfl];exact .inr ⟨_,_,rfl,by rw[Gd (by simp;omega),Ead (by simp;omega)]⟩
theorem Jod {rs:Regs} {d1 o1 n1 d2 o2 n2:Nat} {T1 T2:TypeId} {es1:List (List PV)} {f2:Bool} {es2:List (List L)} (h1:Am d1 rs=some (.row T1 1 es1)) (h2:Am d2 rs=some (.lrow T2 1 f2 es2)) (hne:d1≠d2) (hp1:0<es1.length) (hp2:0<es2.length) :
  Ad cx 182 [.own d1 o1 n1,.own d2 o2 n2] rs (.p (.bool false)) :=
 W9 (X:=cx) func182 kr kr kr (tS:=53) (tR:=4) (e:=25) kr f_s53 h1 h2 hne hp1 hp2
theorem Jba (es:List (List PV)) (n i:Nat) (x:PV) (hx:x.scalar=true) (h:es.length=n) (hi:i<n) (hn:n<=1500000000000) (h1:∀ q∈es,q.length=1):Det cx 144 [.own 1000 0 n,.p (.int .i64 i),.own 1001 0 1] [(1001,.row 25 1 [[x]]),(1000,.row 25 1 es)] (.own 900 0 (n+1)) [(900,.row 25 1 (es.take i ++ [[x]] ++ es.drop i)),(1001,.row 25 1 [[x]])]:=by
 refine Jxz (n+1) ?_;refine Al.sub (Post:=fun m q=>m=.own 900 0 (n+1)/\((∃ r,q=[(900,.row 25 1 (es.take i ++ [[x]] ++ es.drop i)),(1001,.row 25 1 [[x]]),(1000,r)])\/∃ b ls,q=[(900,.lrow 25 1 b ls),(1001,.row 25 1 [[x]])]/\Cb (ls.take (n+1))=some (es.take i ++ [[x]] ++ es.drop i))) ?_ (by
  rintro m q ⟨rfl,⟨r,rfl⟩ | ⟨b,ls,rfl,hp⟩⟩
  ·exact ⟨_,((List.nil_sublist _).cons_cons _).cons_cons _,rfl,.inl rfl⟩
  ·exact ⟨_,List.Sublist.refl _,rfl,.inr ⟨b,ls,rfl,hp⟩⟩)
 refine Jua (X:=cx) true [(40,900)] sm func144 kr rfl (by simp only[Eaf,Ebe,ntmps144];decide) sm ?_;refine J10 (d:=1000) (T:=25) (es:=es) rfl omg fun k=>?_
 generalize hls:es.map (List.map L.p) ++ List.replicate k [L.junk]=ls;have hll:ls.length=n+k:=by rw[<- hls];simp[h]
 have c1:((i:Int)=(n:Int))=False:=eq_false omg;have hp0:(0<ls.length)=True:=eq_true omg;have hr1:Cb (ls.take i)=some (es.take i):=by rw[<- hls];exact Gd omg
 have w1:IntKind.i64.wrap ((n:Int)+((1:Nat):Int))=((n+1:Nat):Int):=by rw[Aa omg omg];omega
 have w3:IntKind.i64.wrap ((i:Int)+((1:Nat):Int))=((i+1:Nat):Int):=by rw[Aa omg omg];omega
 have c4:(((1:Nat):Int)=0)=False:=by simp
 have c7:((1:Nat)=0)=False:=by simp
 have c6:(n - i=0)=False:=eq_false omg;have e2:List.take (n+1 - i) [[x]]=[[x]]:=Ead (by simp;omega);have e3:n+1 - (i+1)=n - i:=by omega
 have e5:(es.drop i).length=n - i:=by simp[h]
 have hr2:Cb ((ls.drop i).take (n - i))=some (es.drop i):=by rw[<- hls,Me omg,Ead (by simp;omega)]
 by_cases hk:k=0
 ·subst hk;have c2:((ls.length:Int)<((n+1:Nat):Int))=True:=eq_true omg;have c3:((n:Int)<((n+1:Nat):Int))=True:=eq_true omg;have w2:IntKind.i64.wrap (((n+1:Nat):Int) - (i:Int))=((n+1 - i:Nat):Int):=by rw[Aa omg omg];omega
  simp only[Nat.add_zero] at hll;have e1:i+(n+1 - i)=n+1:=by omega
  have hT:(es.take i ++ List.replicate (n+1 - i) [PV.snil]).take i=es.take i:=by rw[Ebs (by simp;omega),List.take_take,Nat.min_self]
  have hD:(es.take i ++ List.replicate (n+1 - i) [PV.snil]).drop (i+1)=List.replicate (n - i) [PV.snil]:=by
   rw[List.drop_append,Ea0 (by simp;omega),List.nil_append,List.drop_replicate];congr 1;simp;omega
  have hF:List.map (fun e=>List.map (L.forget 40) e) ls=ls:=by rw[<- hls];exact Kj (fun _=>rfl) rfl _ _
  have c5:(i+(n - i)<=n)=True:=eq_true omg;have e4:min (n - i) (n - i)=n - i:=Nat.min_self _;have hB:(es.take i ++ [[x]] ++ List.replicate (n - i) [PV.snil]).take (i+1) ++ es.drop i ++ (es.take i ++ [[x]] ++ List.replicate (n - i) [PV.snil]).drop (i+1+(n - i))=es.take i ++ [[x]] ++ es.drop i:=by
   have l1:(es.take i ++ [[x]]).length=i+1:=by simp;omega
   rw[Ebs omg,Ead (l:=es.take i ++ [[x]]) omg,Ea0 (show (es.take i ++ [[x]] ++ List.replicate (n - i) [PV.snil]).length<=i+1+(n - i) by simp;omega),Ea5]
  have hC:=hB;simp only[ntmps144,results144,go_sem,Nat.reduceLT,Nat.reduceLeDiff,Nat.reduceEqDiff,Nat.reduceAdd,Nat.reduceSub,Nat.reduceMul,Nat.reduceBEq,Int.reduceToNat,Int.reduceLT,Int.reduceLE,Int.reduceEq,Int.reduceAdd,Int.reduceSub,Int.reduceNeg,↓reduceIte,reduceCtorEq,K9,Hf,Kc,Hi,hll,c1,c2,c3,c4,c5,c6,c7,w1,w2,w3,hr1,hr2,hp0,if_true,if_false,Nat.sub_zero,Eb1,e1,e2,e3,e4,e5,hT,hD,hF,hB,hC];(refine lws ?_;simp only[go_sem,Nat.reduceLT,Nat.reduceLeDiff,Nat.reduceEqDiff,↓reduceIte,reduceCtorEq,K9,Hf,Kc,Hi,hll,c1,c3,c4,c7,w1,w2,hr1,Nat.sub_zero,Eb1,e1,e2,hT,hD,hF]);(repeat'(first|(refine And.intro (by first|omega | (simp;done)|(simp;omega)|(intro q hq;exact h1 q (Ea3 hq))|(intro q hq;exact h1 q hq)|(intro q hq;simp at hq;subst hq;rfl)) ?_)|fail));(refine Gi 8 hm kr kr ?_;simp only[go_sem,Nat.reduceLT,Nat.reduceEqDiff,Nat.reduceAdd,↓reduceIte,reduceCtorEq,hll,c5,c6,w3,hr2,e3,e4,e5,hB]);(repeat'(first|(refine And.intro (by first|omega | (simp;done)|(simp;omega)|(intro q hq;exact h1 q (Ea3 hq))|(intro q hq;exact h1 q hq)|(intro q hq;simp at hq;subst hq;rfl)) ?_)|fail));exact .inl ⟨_,rfl⟩
 ·have c2:((ls.length:Int)<((n+1:Nat):Int))=False:=eq_false omg;have c3:(((n+k:Nat):Int)<((n+1:Nat):Int))=False:=eq_false omg;have w2:=c4;have e1:=c4;have hT:=c4;have hD:=c4;have hF:List.map (fun e=>List.map (L.map (Fb 1000 40)) e) ls=ls:=by rw[<- hls];exact Kj (fun _=>rfl) rfl _ _
  have c5:(i+(n+1 - i)<=n+k)=True:=eq_true omg;have e4:min (n+1 - i) (n - i)=n - i:=by omega
  have hB:ls.take (i+1) ++ (es.drop i).map (List.map L.p) ++ ls.drop (i+1+(n - i))=(es.take (i+1) ++ es.drop i).map (List.map L.p) ++ List.replicate (k - 1) [L.junk]:=by
   have:=Z8 (es:=es) (i:=i) (k:=k) omg hk;rw[hls,h] at this;exact this
  have hC:((es.take (i+1) ++ es.drop i).map (List.map L.p) ++ List.replicate (k - 1) [L.junk]).take i ++ [[L.p x]] ++ ((es.take (i+1) ++ es.drop i).map (List.map L.p) ++ List.replicate (k - 1) [L.junk]).drop (i+1)=(es.take i ++ [[x]] ++ es.drop i).map (List.map L.p) ++ List.replicate (k - 1) [L.junk]:=Xp (q:=[x]) omg;simp only[ntmps144,results144,go_sem,Nat.reduceLT,Nat.reduceLeDiff,Nat.reduceEqDiff,Nat.reduceAdd,Nat.reduceSub,Nat.reduceMul,Nat.reduceBEq,Int.reduceToNat,Int.reduceLT,Int.reduceLE,Int.reduceEq,Int.reduceAdd,Int.reduceSub,Int.reduceNeg,↓reduceIte,reduceCtorEq,K9,Hf,Kc,Hi,hll,c1,c2,c3,c4,c5,c6,c7,w1,w2,w3,hr1,hr2,hp0,if_true,if_false,Nat.sub_zero,Eb1,e1,e2,e3,e4,e5,hT,hD,hF,hB,hC];(refine lws ?_;simp only[go_sem,Nat.reduceLT,Nat.reduceEqDiff,↓reduceIte,reduceCtorEq,K9,Hf,Kc,Hi,hll,c1,c3,c4,w1,w3,Nat.sub_zero,e3]);(repeat'(first|(refine And.intro (by first|omega | (simp;done)|(simp;omega)|(intro q hq;exact h1 q (Ea3 hq))|(intro q hq;exact h1 q hq)|(intro q hq;simp at hq;subst hq;rfl)) ?_)|fail));refine Jyr (l:=.p (.bool false)) ?_ ?_
  ·exact Jod rfl rfl de sm omg
  simp only[go_sem,Nat.reduceLT,↓reduceIte];refine Jqg (B1 [(1000,40)] _ sm) ?_;simp only[go_sem,Nat.reduceEqDiff,↓reduceIte,hF];(refine Gi 8 hm kr kr ?_;simp only[go_sem,Nat.reduceLT,Nat.reduceLeDiff,Nat.reduceEqDiff,Nat.reduceAdd,↓reduceIte,reduceCtorEq,hll,c5,c6,c7,w3,hr2,e2,e3,e4,e5,hB,hC]);(repeat'(first|(refine And.intro (by first|omega | (simp;done)|(simp;omega)|(intro q hq;exact h1 q (Ea3 hq))|(intro q hq;exact h1 q hq)|(intro q hq;simp at hq;subst hq;rfl)) ?_)|fail));rw[Kj (fun _=>rfl) rfl];exact .inr ⟨_,_,rfl,by rw[Gd (by simp;omega),Ead (by simp;omega)]⟩
end Go.LX
namespace Go.LX
open Go
theorem E0:∀ a:List UInt8,Op.bytesLess a a=false
 | []=>rfl
 | x :: a=>by simp[Op.bytesLess,E0 a]
theorem H8:∀ {a b c:List UInt8},Op.bytesLess a b=true->Op.bytesLess b c=true->Op.bytesLess a c=true
 | _,[],_,h,_=>by simp[Op.bytesLess] at h
 | _,_ :: _,[],_,h=>by simp[Op.bytesLess] at h
 | [],_ :: _,_ :: _,_,_=>rfl
 | x :: a,y :: b,z :: c,h1,h2=>by
  simp only[Op.bytesLess,Eb5,decide_eq_true_eq,Ea6,beq_iff_eq] at h1 h2 ⊢;rcases h1 with h1 | ⟨rfl,h1⟩
  ·rcases h2 with h2 | ⟨rfl,h2⟩
   ·exact .inl (UInt8.lt_trans h1 h2)
   ·exact .inl h1
  ·rcases h2 with h2 | ⟨rfl,h2⟩
   ·exact .inl h2
   ·exact .inr ⟨rfl,H8 h1 h2⟩
theorem L3 {a b:List UInt8} (h:Op.bytesLess a b=true):Op.bytesLess b a=false:=by
 cases h':Op.bytesLess b a with
 | false=>rfl
 | true=>have:=H8 h h';rw[E0] at this;cases this
theorem bl_ne {a b:List UInt8} (h:Op.bytesLess a b=true):a≠b:=by
 rintro rfl;rw[E0] at h;cases h
theorem Qf:∀ {a b:List UInt8},Op.bytesLess a b=false->a≠b->Op.bytesLess b a=true
 | [],[],_,h=>absurd rfl h
 | [],_ :: _,h,_=>by simp[Op.bytesLess] at h
 | _ :: _,[],_,_=>rfl
 | x :: a,y :: b,h1,h2=>by
  simp only[Op.bytesLess,Bool.or_eq_false_iff,decide_eq_false_iff_not,Bool.and_eq_false_imp,beq_iff_eq] at h1;simp only[Op.bytesLess,Eb5,decide_eq_true_eq,Ea6,beq_iff_eq];obtain ⟨h3,h4⟩:=h1;by_cases hxy:x=y
  ·subst hxy;exact .inr ⟨rfl,Qf (h4 rfl) (by rintro rfl;exact h2 rfl)⟩
  ·left;rcases UInt8.lt_or_lt_of_ne hxy with h | h
   ·exact absurd h h3
   ·exact h
def nle (a b:List UInt8):Prop:=Op.bytesLess b a=false
theorem Jg7 {a b c:List UInt8} (h1:nle a b) (h2:nle b c):nle a c:=by
 unfold nle at *
 cases h:Op.bytesLess c a with
 | false=>rfl
 | true =>
  by_cases e:b=c
  ·subst e;rw[h1] at h;cases h
  ·have h3:=Qf h2 (Ne.symm e);have:=H8 h3 h;rw[h1] at this;cases this
abbrev KT:=List UInt8×Tree
def Rise (l:List KT):Prop:=l.Pairwise fun a b=>Op.bytesLess a.1 b.1=true
theorem Rise.tail {p:KT} {l:List KT} (h:Rise (p :: l)):Rise l:=(Eb6.1 h).2
theorem Rise.nodup {l:List KT} (h:Rise l):(l.map (·.1)).Nodup:=by
 unfold List.Nodup;rw[List.pairwise_map];exact List.Pairwise.imp (fun h=>bl_ne h) h
def putL (name:List UInt8) (t:Tree):List KT->List KT
 | []=>[(name,t)]
 | p :: l=>if Op.bytesLess p.1 name=true then p :: putL name t l else (name,t) :: p :: l
theorem Hv (name:List UInt8) (t:Tree):∀ l,(putL name t l).Perm ((name,t) :: l)
 | []=>.refl _
 | p :: l=>by
  unfold putL;split
  ·exact ((Hv name t l).cons p).trans (.swap _ _ _)
  ·exact .refl _
theorem Jjz {name:List UInt8} {t:Tree} {l:List KT} {q:KT}:q∈putL name t l ↔ q=(name,t)\/q∈l:=by
 rw[(Hv name t l).mem_iff,Eam]
theorem Lz (name:List UInt8) (t:Tree) (l:List KT):(putL name t l).length=l.length+1:=by
 rw[(Hv name t l).length_eq];rfl
theorem Kh {name:List UInt8} {t:Tree}:∀ {l:List KT},Rise l->(∀ p∈l,p.1≠name)->Rise (putL name t l)
 | [],_,_=>List.pairwise_singleton _ _
 | p :: l,h,hn=>by
  unfold putL;obtain ⟨h1,h2⟩:=Eb6.1 h;split
  ·rename_i hlt;refine Eb6.2 ⟨fun q hq=>?_,Kh h2 fun q hq=>hn q (Eah _ hq)⟩;rcases Jjz.1 hq with rfl | hq
   ·exact hlt
   ·exact h1 q hq
  ·rename_i hlt;have h3:=Qf (a:=p.1) (b:=name) (by simpa using hlt) (hn p Eag);refine Eb6.2 ⟨fun q hq=>?_,h⟩;rcases Eam.1 hq with rfl | hq
   ·exact h3
   ·exact H8 h3 (h1 q hq)
theorem Jy:∀ {a b:List KT},Rise a->Rise b->a.Perm b->a=b
 | [],b,_,_,h=>(List.nil_perm.1 h).symm
 | p :: a,[],_,_,h=>by simp at h
 | p :: a,q :: b,h1,h2,h=>by
  obtain ⟨g1,g2⟩:=Eb6.1 h1;obtain ⟨k1,k2⟩:=Eb6.1 h2;have e:p=q:=by
   have m1:p∈q :: b:=h.mem_iff.1 Eag;have m2:q∈p :: a:=h.mem_iff.2 Eag;rcases Eam.1 m1 with e | m1
   ·exact e
   ·rcases Eam.1 m2 with e | m2
    ·exact e.symm
    ·have:=L3 (g1 q m2);rw[k1 p m1] at this;cases this
  subst e;rw[Jy g2 k2 (List.Perm.cons_inv h)]
def Lp:List KT->List KT
 | []=>[]
 | p :: l=>putL p.1 p.2 (Lp l)
theorem E3:∀ l,(Lp l).Perm l
 | []=>.refl _
 | p :: l=>(Hv _ _ _).trans ((E3 l).cons p)
theorem Jj:∀ {l:List KT},(l.map (·.1)).Nodup->Rise (Lp l)
 | [],_=>.nil
 | p :: l,h=>by
  rw[Eay,Ebz] at h;refine Kh (Jj h.2) fun q hq e=>h.1 ?_
  rw[<- e];exact List.mem_map_of_mem ((E3 l).mem_iff.1 hq)
theorem Jay {l:List KT} {name:List UInt8} {t:Tree} (h:Rise l) (hn:∀ p∈l,p.1≠name):Lp (l ++ [(name,t)])=putL name t l:=by
 refine Jy (Jj ?_) (Kh h hn) ((E3 _).trans ?_)
 ·rw[Eb9,Ecd];refine ⟨h.nodup,by simp,fun a ha b hb=>?_⟩;obtain ⟨p,hp,rfl⟩:=Eav.1 ha;simp at hb;subst hb;exact hn p hp
 ·exact (List.perm_append_comm (l₁:=l) (l₂:=[(name,t)])).trans (Hv name t l).symm
def Kj9:List Bool->List KT->List KT
 | b :: D,p :: l=>if b=true then Kj9 D l else p :: Kj9 D l
 | _,_=>[]
def cntT:List Bool->Nat
 | []=>0
 | b :: D=>if b=true then cntT D+1 else cntT D
theorem Jdj:∀ D,cntT D<=D.length
 | []=>Eaj _
 | b :: D=>by have:=Jdj D;simp only[cntT,Eaf];split<;>omega
theorem Ya:∀ {D:List Bool} {b:Nat},D[b]? = some false->cntT (D.set b true)=cntT D+1
 | [],b,h=>by simp at h
 | x :: D,0,h=>by simp at h;subst h;simp[cntT]
 | x :: D,b+1,h=>by
  simp only[List.set_cons_succ,cntT,Ya (D:=D) (b:=b) (by simpa using h)];split<;>rfl
theorem Y8:∀ {D:List Bool},(∀ j,j<D.length->D[j]? = some true)->cntT D=D.length
 | [],_=>rfl
 | x :: D,h=>by
  have h0:=h 0 sm;simp at h0;subst h0;simp only[cntT,if_true,Eaf];rw[Y8 fun j hj=>by simpa using h (j+1) (by simp;omega)]
theorem Rn:∀ {D:List Bool} {l:List KT},cntT D=D.length->Kj9 D l=[]
 | [],_,_=>rfl
 | x :: D,[],_=>rfl
 | x :: D,p :: l,h=>by
  have:=Jdj D;cases x
  ·simp[cntT] at h;omega
  ·simp[cntT] at h;simp only[Kj9,if_true];exact Rn h
theorem R1:∀ l:List KT,Kj9 (List.replicate l.length false) l=l
 | []=>rfl
 | p :: l=>by simp only[Eaf,List.replicate_succ,Kj9,Ebq,if_false,R1 l]
theorem Tn:∀ n,cntT (List.replicate n false)=0
 | 0=>rfl
 | n+1=>by simp[List.replicate_succ,cntT,Tn n]
theorem Nf:∀ {D:List Bool} {l:List KT} {p:KT},p∈Kj9 D l->∃ j:Nat,l[j]? = some p/\D[j]? = some false
 | [],_,p,h=>by simp[Kj9] at h
 | x :: D,[],p,h=>by simp[Kj9] at h
 | x :: D,q :: l,p,h=>by
  unfold Kj9 at h;split at h
  ·obtain ⟨j,h1,h2⟩:=Nf h;exact ⟨j+1,by simpa using h1,by simpa using h2⟩
  ·rename_i hx;rcases Eam.1 h with rfl | h
   ·exact ⟨0,rfl,by simpa using hx⟩
   ·obtain ⟨j,h1,h2⟩:=Nf h;exact ⟨j+1,by simpa using h1,by simpa using h2⟩
theorem Ol:∀ {D:List Bool} {l:List KT} {p:KT} {j:Nat},l[j]? = some p->D[j]? = some false->p∈Kj9 D l
 | [],_,_,_,_,h=>by simp at h
 | _ :: _,[],_,_,h,_=>by simp at h
 | x :: D,q :: l,p,0,h,h'=>by
  simp at h h';subst h;subst h';simp[Kj9]
 | x :: D,q :: l,p,j+1,h,h'=>by
  have:=Ol (D:=D) (l:=l) (j:=j) (by simpa using h) (by simpa using h');unfold Kj9;split
  ·exact this
  ·exact Eah _ this
theorem Qi:∀ {D:List Bool} {l:List KT} {p:KT} {j:Nat},l[j]? = some p->D[j]? = some false->(Kj9 D l).Perm (p :: Kj9 (D.set j true) l)
 | [],_,_,_,_,h=>by simp at h
 | _ :: _,[],_,_,h,_=>by simp at h
 | x :: D,q :: l,p,0,h,h'=>by
  simp at h h';subst h;subst h';simp[Kj9]
 | x :: D,q :: l,p,j+1,h,h'=>by
  have:=Qi (D:=D) (l:=l) (j:=j) (by simpa using h) (by simpa using h');simp only[List.set_cons_succ,Kj9];split
  ·exact this
  ·exact (this.cons q).trans (.swap _ _ _)
structure Picks (l S:List KT) (D:List Bool):Prop where
 len:D.length=l.length
 cnt:cntT D=S.length
 perm:(S ++ Kj9 D l).Perm l
 rise:Rise S
 low:∀ s∈S,∀ p∈Kj9 D l,nle s.1 p.1
theorem J6n (l:List KT):Picks l [] (List.replicate l.length false) :=
 ⟨by simp,Tn _,by rw[List.nil_append,R1],.nil,by simp⟩
theorem Picks.done {l S:List KT} {D:List Bool} (h:Picks l S D) (hn:S.length=l.length):S.Perm l:=by
 have:=h.perm;rw[Rn (by rw[h.cnt,hn,h.len]),Ea5] at this;exact this
theorem Picks.next {l S:List KT} {D:List Bool} (h:Picks l S D) {b:Nat} {p:KT} (hp:l[b]? = some p) (hb:D[b]? = some false) (hm:∀ (j:Nat) (q:KT),l[j]? = some q->D[j]? = some false->nle p.1 q.1) (hl:∀ q,S.getLast? = some q->q.1≠p.1):Picks l (S ++ [p]) (D.set b true):=by
 have hpr:=Ol hp hb;have ht:=Qi hp hb;refine ⟨by simp[h.len],by rw[Ya hb,h.cnt];simp,?_,?_,?_⟩
 ·rw[Ea2];exact ((List.Perm.append_left S ht.symm)).trans h.perm
 ·refine List.pairwise_append.2 ⟨h.rise,List.pairwise_singleton _ _,fun s hs q hq=>?_⟩;rw[Eba] at hq;subst hq;have h1:=h.low s hs q hpr;by_cases e:s.1=q.1
  ·exfalso;obtain ⟨S',z,rfl⟩:∃ S' z,S=S' ++ [z]:=by
    rcases List.eq_nil_or_concat S with rfl | ⟨S',z,rfl⟩
    ·cases hs
    ·exact ⟨S',z,by simp⟩
   have hz:=hl z sm;have h2:=h.low z sm q hpr;have h3:=Qf (a:=q.1) (b:=z.1) h2 (Ne.symm hz);rcases Eau.1 hs with hs | hs
   ·have h4:=(List.pairwise_append.1 h.rise).2.2 s hs z sm;rw[e] at h4;have:=L3 h4;rw[h3] at this;cases this
   ·rw[Eba] at hs;subst hs;exact hz e
  ·exact Qf (a:=q.1) (b:=s.1) h1 (Ne.symm e)
 ·intro s hs q hq;have hq':q∈Kj9 D l:=ht.mem_iff.2 (Eah _ hq);rcases Eau.1 hs with hs | hs
  ·exact h.low s hs q hq'
  ·rw[Eba] at hs;subst hs;obtain ⟨j,h1,h2⟩:=Nf hq';exact hm j q h1 h2
theorem Picks.twice {l S:List KT} {D:List Bool} (h:Picks l S D) {b:Nat} {p q:KT} (hp:l[b]? = some p) (hb:D[b]? = some false) (hl:S.getLast? = some q) (he:q.1=p.1):¬ (l.map (·.1)).Nodup:=by
 intro hn;have h1:=(h.perm.map (·.1)).nodup_iff.2 hn;rw[Eb9,Ecd] at h1;exact h1.2.2 q.1 (List.mem_map_of_mem (List.mem_of_getLast? hl)) p.1 (List.mem_map_of_mem (Ol hp hb)) he
end Go.LX
namespace Go.LX
open Go Go.RowKit Go.Proofs Go.Proofs.Tryz
attribute [local irreducible] Al SWP Bi
theorem Se (es:List (List PV)) (n i:Nat) (x:List UInt8) (h:es.length=n) (hi:i<=n) (hn:n<=1500000000000) (h1:∀ q∈es,q.length=1):Det cx 143 [.own 1000 0 n,.p (.int .i64 i),.own 1001 0 1] [(1001,.row 9 1 [[.str x]]),(1000,.row 9 1 es)] (.own 900 0 (n+1)) [(900,.row 9 1 (es.take i ++ [[.str x]] ++ es.drop i)),(1001,.row 9 1 [[.str x]])]:=by
 by_cases h2:i<n
 ·exact Yh es n i x h h2 hn h1
 ·obtain rfl:i=n:=by omega
  have:=Qn es i x h hn;rw[Ead omg,Ea0 omg,Ea5];exact this
theorem Ss (es:List (List PV)) (n i:Nat) (x:PV) (hx:x.scalar=true) (h:es.length=n) (hi:i<=n) (hn:n<=1500000000000) (h1:∀ q∈es,q.length=1):Det cx 144 [.own 1000 0 n,.p (.int .i64 i),.own 1001 0 1] [(1001,.row 25 1 [[x]]),(1000,.row 25 1 es)] (.own 900 0 (n+1)) [(900,.row 25 1 (es.take i ++ [[x]] ++ es.drop i)),(1001,.row 25 1 [[x]])]:=by
 by_cases h2:i<n
 ·exact Jba es n i x hx h h2 hn h1
 ·obtain rfl:i=n:=by omega
  have:=S0 es i x hx h hn;rw[Ead omg,Ea0 omg,Ea5];exact this
theorem Vn (name:List UInt8) (t:Tree):∀ l:List KT,putL name t l=l.take (Cq name (l.map (·.1))) ++ [(name,t)] ++ l.drop (Cq name (l.map (·.1)))
 | []=>rfl
 | p :: l=>by
  simp only[putL,Eay,Cq];split
  ·rw[Vn name t l];rfl
  ·rfl
theorem U8 {name:List UInt8} {l:List KT} (h:Rise l):Mono name (l.map (·.1)):=by
 intro i j s t hij hi hj hlt;rw[Eal] at hi hj;obtain ⟨p,hp,rfl⟩:=Eak.1 hi;obtain ⟨q,hq,rfl⟩:=Eak.1 hj;rcases Nat.lt_or_eq_of_le hij with h2 | rfl
 ·obtain ⟨hp1,rfl⟩:=Eab.1 hp;obtain ⟨hq1,rfl⟩:=Eab.1 hq;exact H8 (List.pairwise_iff_getElem.1 h i j hp1 hq1 h2) hlt
 ·rw[hp] at hq;cases hq;exact hlt
theorem Jco (l:List KT):Bd l=strL (l.map (·.1)):=by simp[Bd,strL]
theorem Om {name:List UInt8}:∀ {l:List KT} {p:KT},p∈A8 name l ↔ p∈l/\p.1≠name
 | [],p=>by simp[A8]
 | q :: l,p=>by
  simp only[A8];split
  ·rename_i h;rw[Om];constructor
   ·exact fun ⟨h1,h2⟩=>⟨Eah _ h1,h2⟩
   ·rintro ⟨h1,h2⟩;rcases Eam.1 h1 with rfl | h1
    ·exact absurd h h2
    ·exact ⟨h1,h2⟩
  ·rename_i h;rw[Eam,Om,Eam];constructor
   ·rintro (rfl | ⟨h1,h2⟩)
    ·exact ⟨.inl rfl,h⟩
    ·exact ⟨.inr h1,h2⟩
   ·rintro ⟨rfl | h1,h2⟩
    ·exact .inl rfl
    ·exact .inr ⟨h1,h2⟩
theorem N8 (name:List UInt8):∀ l:List KT,(A8 name l).Sublist l
 | []=>.slnil
 | p :: l=>by
  simp only[A8];split
  ·exact (N8 name l).cons _
  ·exact (N8 name l).cons_cons _
theorem Rise.kept {l:List KT} (h:Rise l) (name:List UInt8):Rise (A8 name l):=List.Pairwise.sublist (N8 name l) h
theorem Iv (name:List UInt8) (t:Tree):∀ l:List KT,(A1 (putL name t l)).enc.length=(A1 l).enc.length+(t.enc []).length
 | []=>by simp only[putL,A1,A0,Bl,Eac,Ebe,G7 t name];omega
 | p :: l=>by
  unfold putL;split
  ·simp only[A1,A0,Eac,Iv name t l];omega
  ·simp only[A1,A0,Eac,G7 t name];omega
theorem Kel (nm:List UInt8) (s:List UInt8) (g:Bool) (e:Int) (kids:Forest) (name:List UInt8) (t:Tree) (hv:kids.enc.length<=600000000000) (ht:(t.enc []).length<=600000000000) (hr:Rise (A8 name kids.list)):Det cx 93 [.p (.sl (valL ((Tree.mk 6 s g e kids).enc nm))),.p (.str name),.p (.sl (valL (t.enc [])))] [] (.p (.sl (valL ((Tree.mk 6 [] false 0 (A1 (putL name t (A8 name kids.list)))).enc [])))) []:=by
 have hw:=Jfw nm s g e kids name omg;have hkl:=El name kids;have hfl:=Jqi (A1 (A8 name kids.list));rw[Ca] at hfl;generalize hK:A8 name kids.list=K at *
 have hp:=Jc9 [] 6 [] false 0 (A1 K) omg;have hnm:=Jnc [] [] false 0 (A1 K) omg;rw[Hd,Ca] at hp hnm;have hb:=Jmd name (K.map (·.1)) (U8 hr) (by simp;omega);rw[<- Jco,Ebg] at hb;have hbl:=Qt name (K.map (·.1));rw[Ebg] at hbl;have i1:=Se (Bd K) K.length (Cq name (K.map (·.1))) name (A9 K) hbl omg (by intro q hq;obtain ⟨p,_,rfl⟩:=Eav.1 hq;rfl);have i2:=Ss (A4 K) K.length (Cq name (K.map (·.1))) (.sl (valL (t.enc []))) rfl (A5 K) hbl omg (by intro q hq;obtain ⟨p,_,rfl⟩:=Eav.1 hq;rfl);have e1:(Bd K).take (Cq name (K.map (·.1))) ++ [[PV.str name]] ++ (Bd K).drop (Cq name (K.map (·.1)))=Bd (putL name t K):=by
  rw[Vn];simp[Bd,Ec2,Edh]
 have e2:(A4 K).take (Cq name (K.map (·.1))) ++ [[PV.sl (valL (t.enc []))]] ++ (A4 K).drop (Cq name (K.map (·.1)))=A4 (putL name t K):=by
  rw[Vn];simp[A4,Ec2,Edh]
 rw[e1] at i1;rw[e2] at i2;have hla:=Jkg (putL name t K) (by rw[Iv];omega);have l1:(K.length+1<=(Bd (putL name t K)).length)=True:=eq_true (by rw[A9,Lz];omega);have l2:(K.length+1<=(A4 (putL name t K)).length)=True:=eq_true (by rw[A5,Lz];omega);have t1:(Bd (putL name t K)).take (K.length+1)=Bd (putL name t K):=Ead (by rw[A9,Lz];omega);have t2:(A4 (putL name t K)).take (K.length+1)=A4 (putL name t K):=Ead (by rw[A5,Lz];omega);(refine bgo func93 ?_;simp only[go_sem,simprocAttr]);(repeat'(first|((first|refine Jqa hw ?_|refine Jqa hp ?_|refine Jqa hnm ?_|refine Jqa hb ?_|refine Jqa i1 ?_|refine Jqa i2 ?_|refine Jqa hla ?_);simp only[go_sem,simprocAttr,l1,l2,t1,t2])|fail))
open Classical in
noncomputable def M3 (l:List KT):Bool:=decide ((∀ p∈l,valid p.1=true)/\(l.map (·.1)).Nodup)
noncomputable def objR (l:List KT):L:=if M3 l=true then .tup [.sl (valL ((Tree.mk 6 [] false 0 (A1 (Lp l))).enc [])),.int .i64 0] else .tup [.snil,.int .i64 4]
def J7 (D:List Bool):List (List PV):=D.map fun b=>[.bool b]
theorem Hm {a b:List KT} (h:a.Perm b):(A1 a).enc.length=(A1 b).enc.length:=by
 induction h with
 | nil=>rfl
 | cons x _ ih=>simp only[A1,A0,Eac,ih]
 | swap x y l=>simp only[A1,A0,Eac];omega
 | trans _ _ h1 h2=>exact h1.trans h2
theorem Zc (l:List KT) (hv:(A1 l).enc.length<=1350000000000) (hs:∀ p∈l,p.1.length<=1000000):Det cx 34 [.p (.sl (Bd l)),.p (.sl (A4 l))] [] (objR l) []:=by
 have hll:=Jqi (A1 l);rw[Ca] at hll;have rep:List.replicate l.length [PV.bool false]=J7 (List.replicate l.length false):=by simp[J7]
 have cz:((0:Int)<=(l.length:Int))=True:=eq_true omg;(refine bgo func34 ?_;simp only[go_sem,simprocAttr,A9,A5,rep,cz]);(repeat'(first|refine Jqj ?_|fail));refine Jqg (B1 [(16,86),(17,93)] _ sm) ?_;simp only[go_sem,simprocAttr];refine SWP.loop (fun x:List KT×List Bool=>⟨Ba 97 [(0,.p (.sl (Bd l))),(1,.p (.sl (A4 l))),(6,.own 86 0 x.1.length),(7,.own 93 0 x.1.length),(8,.own 20 0 l.length)],[(20,.row 4 1 (J7 x.2)),(93,.row 25 1 (A4 x.1)),(86,.row 9 1 (Bd x.1))]⟩) (fun x=>Picks l x.1 x.2/\(∀ p∈x.1,valid p.1=true)/\x.1.length<=l.length) (fun x=>l.length - x.1.length) ([],List.replicate l.length false) Jqc ⟨J6n l,by simp,Eat _⟩ ?_;rintro ⟨S,D⟩ ⟨hP,hV,hS⟩;simp only at hP hV hS;have hDl:=hP.len;by_cases hlt:¬ S.length<l.length
 ·have c1:((S.length:Int)<(l.length:Int))=False:=eq_false omg;have hSl:S.length=l.length:=by omega
  have hPm:=hP.done hSl;have hOK:M3 l=true:=by
   unfold M3;rw[decide_eq_true_eq];exact ⟨fun p hp=>hV p (hPm.mem_iff.2 hp),(hPm.map (·.1)).nodup_iff.1 hP.rise.nodup⟩
  have hso:Lp l=S:=Jy (Jj ((hPm.map (·.1)).nodup_iff.1 hP.rise.nodup)) hP.rise ((E3 l).trans hPm.symm);have tn:(Bd S).take S.length=Bd S:=Ead (by rw[A9];omega);have tp:(A4 S).take S.length=A4 S:=Ead (by rw[A5];omega);have ln:(S.length<=S.length)=True:=eq_true (Eaj _);have lp:=ln;(refine lws ?_;simp only[go_sem,simprocAttr,A9,A5,c1,tn,tp,ln]);(repeat'(first|((refine Jqa (Iy S (by rw[Hm hPm];omega)) ?_);simp only[go_sem,simprocAttr])|fail));unfold objR;rw[if_pos hOK,hso]
 ·have hlt:=Eaw.1 hlt;have c1:((S.length:Int)<(l.length:Int))=True:=eq_true omg;have tn:=c1;have tp:=c1;have ln:=c1;have lp:=c1;(refine lws ?_;simp only[go_sem,simprocAttr,A9,c1]);refine SWP.loop (fun x:Nat×Int=>⟨Ba 97 [(0,.p (.sl (Bd l))),(1,.p (.sl (A4 l))),(6,.own 86 0 S.length),(7,.own 93 0 S.length),(8,.own 20 0 l.length),(9,.p (.int .i64 x.2)),(10,.p (.int .i64 x.1))],[(20,.row 4 1 (J7 D)),(93,.row 25 1 (A4 S)),(86,.row 9 1 (Bd S))]⟩) (fun x=>x.1<=l.length/\((x.2 = -1/\∀ j,j<x.1->D[j]? = some true)\/∃ b:Nat,x.2=b/\b<x.1/\D[b]? = some false/\∃ p,l[b]? = some p/\∀ (j:Nat) (q:KT),j<x.1->l[j]? = some q->D[j]? = some false->nle p.1 q.1)) (fun x=>l.length - x.1) (0,-1) Jqc ⟨Eat _,.inl ⟨rfl,fun j h=>by omega⟩⟩ ?_;rintro ⟨i,z⟩ ⟨hi,hz⟩;simp only at hi hz;by_cases hin:¬ i<l.length
  ·have c2:((i:Int)<(l.length:Int))=False:=eq_false omg;obtain rfl:i=l.length:=by omega
   rcases hz with ⟨_,hz⟩ | ⟨b,rfl,hb,hDb,p,hp,hm'⟩
   ·have:=Y8 (D:=D) (fun j hj=>hz j omg);have:=hP.cnt;omega
   ·have hgn:(Bd l)[b]? = some [.str p.1]:=by simp[Bd,hp]
    have hgp:(A4 l)[b]? = some [.sl (valL (p.2.enc []))]:=by simp[A4,hp]
    have hgD:(J7 D)[b]? = some [.bool false]:=by simp[J7,hDb]
    have hmm:∀ (j:Nat) (q:KT),l[j]? = some q->D[j]? = some false->nle p.1 q.1:=fun j q h1 h2=>hm' j q (Eab.1 h1).1 h1 h2
    have hpm:=Eae hp;have hbs:(J7 D).set b [.bool true]=J7 (D.set b true):=by simp[J7,Edj]
    have hpn:∀ (S:List KT),Bd S ++ [[.str p.1]]=Bd (S ++ [p]):=fun S=>by simp[Bd]
    have hpp:∀ (S:List KT),A4 S ++ [[.sl (valL (p.2.enc []))]]=A4 (S ++ [p]):=fun S=>by simp[A4]
    have w1:IntKind.i64.wrap ((S.length:Int) - 1)=(S.length:Int) - 1:=Aa omg omg;cases hvp:valid p.1 with
    | false =>
     have hOK:M3 l=false:=by
      unfold M3;rw[decide_eq_false_iff_not];rintro ⟨h,_⟩;rw[h p hpm] at hvp;cases hvp
     have hgl:=c2;have hgl2:=c2;have c8:=c2;have hbq:=c2;(refine lws ?_;simp only[go_sem,simprocAttr,A9,c2]);refine Ah hm (by rfl) kr ?_;simp only[go_sem,simprocAttr,hgn];refine Jqb (Cn p.1 (hs p hpm)) ?_;simp only[go_sem,simprocAttr,hvp];unfold objR;rw[hOK];simp
    | true =>
     cases hg:S.getLast? with
     | none =>
      have hS0:S=[]:=List.getLast?_eq_none_iff.1 hg;subst hS0;have hgl:=c2;have hgl2:=c2;have c8:((0:Int)<((0:Nat):Int))=False:=by simp
      have hbq:=c2;have hN:=hP.next hp hDb hmm (fun q hq=>by simp at hq);(refine lws ?_;simp only[go_sem,simprocAttr,A9,c2]);refine Ah hm (by rfl) kr ?_;simp only[go_sem,simprocAttr,hgn];refine Jqb (Cn p.1 (hs p hpm)) ?_;simp only[go_sem,simprocAttr,A9,A5,hgn,hgp,hgD,hbs,hpn,hpp,hvp];(repeat'(first|(refine And.intro (by first|omega | (simp;done)|(simp;omega)) ?_)|fail));exact ⟨([p],D.set b true),⟨hN,by simp[hvp],by simp;omega⟩,by simp;omega,Jqc⟩
     | some q =>
      have hgl:(Bd S)[S.length - 1]? = some [.str q.1]:=by
       rw[List.getLast?_eq_getElem?] at hg;simp[Bd,hg]
      have hgl2:((S.length:Int) - 1).toNat=S.length - 1:=by omega
      have hSp:0<S.length:=by cases S with
       | nil=>simp at hg
       | cons a S=>simp
      have c8:((0:Int)<(S.length:Int))=True:=eq_true omg;by_cases hqp:q.1=p.1
      ·have hbq:(q.1 == p.1)=true:=by rw[hqp];simp
       have hOK:M3 l=false:=by
        unfold M3;rw[decide_eq_false_iff_not];exact fun h=>hP.twice hp hDb hg hqp h.2
       (refine lws ?_;simp only[go_sem,simprocAttr,A9,c2]);refine Ah hm (by rfl) kr ?_;simp only[go_sem,simprocAttr,hgn];refine Jqb (Cn p.1 (hs p hpm)) ?_;simp only[go_sem,simprocAttr,hgn,w1,hgl,hgl2,hvp,c8,hbq];(repeat'(first|(refine And.intro (by first|omega | (simp;done)|(simp;omega)) ?_)|fail));unfold objR;rw[hOK];simp
      ·have hbq:(q.1 == p.1)=false:=by simpa using hqp
       have hN:=hP.next hp hDb hmm (fun q' hq=>by rw[hg] at hq;cases hq;exact hqp);(refine lws ?_;simp only[go_sem,simprocAttr,A9,c2]);refine Ah hm (by rfl) kr ?_;simp only[go_sem,simprocAttr,hgn];refine Jqb (Cn p.1 (hs p hpm)) ?_;simp only[go_sem,simprocAttr,A9,A5,hgn,hgp,hgD,hbs,hpn,hpp,w1,hgl,hgl2,hvp,c8,hbq];(repeat'(first|(refine And.intro (by first|omega | (simp;done)|(simp;omega)) ?_)|fail));refine ⟨(S ++ [p],D.set b true),⟨hN,fun x hx=>?_,by simp;omega⟩,by simp;omega,Jqc⟩;rcases Eau.1 hx with hx | hx
       ·exact hV x hx
       ·rw[Eba] at hx;subst hx;exact hvp
  ·have hin:=Eaw.1 hin;have c2:((i:Int)<(l.length:Int))=True:=eq_true omg;obtain ⟨q,hq⟩:∃ q,l[i]? = some q:=⟨_,Eaa hin⟩
   obtain ⟨f,hf⟩:∃ f,D[i]? = some f:=⟨_,Eaa omg⟩
   have hgn:(Bd l)[i]? = some [.str q.1]:=by simp[Bd,hq]
   have hgD:(J7 D)[i]? = some [.bool f]:=by simp[J7,hf]
   have w1:IntKind.i64.wrap ((i:Int)+((1:Nat):Int))=((i+1:Nat):Int):=by rw[Aa omg omg];omega
   have w1':IntKind.i64.wrap ((i:Int)+1)=((i+1:Nat):Int):=by rw[Aa omg omg];omega
   have hgp:=w1;have hbs:=w1;have hpn:=w1;have hpp:=w1;have hgl2:=w1';have hvp:=w1;cases f with
   | true =>
    have hgl:=w1;have c8:=w1;have hbq:=w1;(refine lws ?_;simp only[go_sem,simprocAttr,A9,c2]);refine Ah hm (by rfl) kr ?_;simp only[go_sem,simprocAttr,c2,hgD,hgl2];refine ⟨(i+1,z),⟨by simp only;omega,?_⟩,by simp only;omega,Jqc⟩;simp only;rcases hz with ⟨h1,h2⟩ | ⟨b,h1,h2,h3,p,h4,h5⟩
    ·refine .inl ⟨h1,fun j hj=>?_⟩;by_cases hji:j=i
     ·subst hji;exact hf
     ·exact h2 j omg
    ·refine .inr ⟨b,h1,omg,h3,p,h4,fun j r hj hr hd=>?_⟩;by_cases hji:j=i
     ·subst hji;rw[hf] at hd;cases hd
     ·exact h5 j r omg hr hd
   | false =>
    rcases hz with ⟨rfl,h2⟩ | ⟨b,rfl,h2,h3,p,h4,h5⟩
    ·have hgl:=w1;have c8:((-1:Int)<0)=True:=by simp
     have hbq:=w1;(refine lws ?_;simp only[go_sem,simprocAttr,A9,c2]);refine Ah hm (by rfl) kr ?_;simp only[go_sem,simprocAttr,c2,hgD,hgl2,c8];refine ⟨(i+1,i),⟨by simp only;omega,.inr ⟨i,rfl,by simp only;omega,hf,q,hq,fun j r hj hr hd=>?_⟩⟩,by simp only;omega,Jqc⟩;simp only at hj;by_cases hji:j=i
     ·subst hji;rw[hq] at hr;cases hr;exact E0 _
     ·rw[h2 j omg] at hd;cases hd
    ·have hgl:(Bd l)[b]? = some [.str p.1]:=by simp[Bd,h4]
     have c8:((b:Int)<0)=False:=eq_false omg;cases hlt2:Op.bytesLess q.1 p.1 with
     | true =>
      have hbq:=hlt2;(refine lws ?_;simp only[go_sem,simprocAttr,A9,c2]);refine Ah hm (by rfl) kr ?_;simp only[go_sem,simprocAttr,c2,hgn,hgD,hgl,hgl2,c8,hbq];refine ⟨(i+1,i),⟨by simp only;omega,.inr ⟨i,rfl,by simp only;omega,hf,q,hq,fun j r hj hr hd=>?_⟩⟩,by simp only;omega,Jqc⟩;simp only at hj;by_cases hji:j=i
      ·subst hji;rw[hq] at hr;cases hr;exact E0 _
      ·exact Jg7 (L3 hlt2) (h5 j r omg hr hd)
     | false =>
      have hbq:=hlt2;(refine lws ?_;simp only[go_sem,simprocAttr,A9,c2]);refine Ah hm (by rfl) kr ?_;simp only[go_sem,simprocAttr,c2,hgn,hgD,hgl,hgl2,c8,hbq];refine ⟨(i+1,b),⟨by simp only;omega,.inr ⟨b,rfl,by simp only;omega,h3,p,h4,fun j r hj hr hd=>?_⟩⟩,by simp only;omega,Jqc⟩;simp only at hj;by_cases hji:j=i
      ·subst hji;rw[hq] at hr;cases hr;exact hlt2
      ·exact h5 j r omg hr hd
theorem Jyl (nm:List UInt8) (s:List UInt8) (g:Bool) (e:Int) (kids:Forest) (name:List UInt8) (hv:kids.enc.length<=1350000000000):Det cx 76 [.p (.sl (valL ((Tree.mk 6 s g e kids).enc nm))),.p (.str name)] [] (.p (.sl (valL ((Tree.mk 6 [] false 0 (A1 (A8 name kids.list))).enc [])))) []:=by
 have hll:=Jqi kids;have hkl:=Jqh kids;(refine bgo func76 ?_;simp only[go_sem,simprocAttr]);(repeat'(first|((first|(refine Jqa (Ir nm s g e kids omg) ?_)|(refine Jqa (Dy nm 6 s g e kids omg) ?_));simp only[go_sem,simprocAttr])|fail));refine Jqg (B1 [(14,34),(15,41)] _ sm) ?_;simp only[go_sem,simprocAttr];refine SWP.loop (fun k:Nat=>⟨Ba 45 [(0,.p (.sl (valL ((Tree.mk 6 s g e kids).enc nm)))),(1,.p (.str name)),(5,.p (.sl (Bd kids.list))),(6,.p (.sl (A4 kids.list))),(7,.own 34 0 (A8 name (kids.list.take k)).length),(8,.own 41 0 (A8 name (kids.list.take k)).length),(9,.p (.int .i64 k))],[(41,.row 25 1 (A4 (A8 name (kids.list.take k)))),(34,.row 9 1 (Bd (A8 name (kids.list.take k))))]⟩) (fun k=>k<=kids.list.length) (fun k=>kids.list.length - k) 0 (by simp only[Eb4,A8,Jen,Jet,Ebe];exact Jqc) (Eat _) ?_;intro k hk;have hkk:=Rg name (kids.list.take k);rw[Eas] at hkk;by_cases hlt:¬ k<kids.list.length
 ·have c1:((k:Int)<(kids.list.length:Int))=False:=eq_false omg;have tk:kids.list.take k=kids.list:=Ead omg;rw[tk];have tn:(Bd (A8 name kids.list)).take (A8 name kids.list).length=Bd (A8 name kids.list):=Ead (by rw[A9];omega);have tp:(A4 (A8 name kids.list)).take (A8 name kids.list).length=A4 (A8 name kids.list):=Ead (by rw[A5];omega);have ln:((A8 name kids.list).length<=(Bd (A8 name kids.list)).length)=True:=eq_true (by rw[A9];omega);have lp:((A8 name kids.list).length<=(A4 (A8 name kids.list)).length)=True:=eq_true (by rw[A5];omega);have ll:((A8 name kids.list).length<=(A8 name kids.list).length)=True:=eq_true (Eaj _);have hkle:=El name kids;have hgn:=c1;have hgp:=c1;have hne:=c1;have w1:=c1;have e1:=c1;have e2:=c1;have e3:=c1;(refine lws ?_;simp only[go_sem,simprocAttr,A9,c1,tn,tp,lp,ll]);(repeat'(first|((refine Jqa (Iy (A8 name kids.list) omg) ?_);simp only[go_sem,simprocAttr])|fail))
 ·have hlt:=Eaw.1 hlt;have c1:((k:Int)<(kids.list.length:Int))=True:=eq_true omg;obtain ⟨p,hp⟩:∃ p,kids.list[k]? = some p:=⟨_,Eaa hlt⟩
  have hgn:(Bd kids.list)[k]? = some [.str p.1]:=by simp[Bd,hp]
  have hgp:(A4 kids.list)[k]? = some [.sl (valL (p.2.enc []))]:=by simp[A4,hp]
  have w1:=wi1 (i:=k) omg;have tn:=c1;have tp:=c1;have lp:=c1;by_cases hn:p.1=name
  ·have hne:(p.1=name)=True:=eq_true hn;have ln:=c1;have ll:=c1;have e1:=c1;have e2:=c1;have e3:=c1;(refine lws ?_;simp only[go_sem,simprocAttr,A9,c1,hgn,hne,w1]);refine ⟨k+1,hlt,omg,?_⟩;rw[Ld hp hn];exact Jqc
  ·have hne:(p.1=name)=False:=eq_false hn;have e1:(Bd (A8 name (kids.list.take k))).length=(A8 name (kids.list.take k)).length:=A9 _;have e2:(A4 (A8 name (kids.list.take k))).length=(A8 name (kids.list.take k)).length:=A5 _;have e3:=c1;have ln:=c1;have ll:=c1;have t1:A4 (A8 name (kids.list.take (k+1)))=A4 (A8 name (kids.list.take k)) ++ [[.sl (valL (p.2.enc []))]]:=by rw[C8 hp hn,Tj];rfl
   have t2:Bd (A8 name (kids.list.take (k+1)))=Bd (A8 name (kids.list.take k)) ++ [[.str p.1]]:=by rw[C8 hp hn,T6];rfl
   have t3:(A8 name (kids.list.take (k+1))).length=(A8 name (kids.list.take k)).length+1:=by rw[C8 hp hn,Eac];rfl
   (refine lws ?_;simp only[go_sem,simprocAttr,A9,c1,hgn,hgp,hne,w1,e1,e2]);(repeat'(first|(refine And.intro (by first|omega | (simp;done)|(simp;omega)) ?_)|fail));refine ⟨k+1,hlt,omg,?_⟩;rw[t1,t2,t3];exact Jqc
theorem Tl (nm:List UInt8) (s:List UInt8) (g:Bool) (e:Int) (kids:Forest) (name:List UInt8) (t:Tree) (hv:kids.enc.length<=600000000000) (ht:(t.enc []).length<=600000000000) (hr:Rise (A8 name kids.list)) (hs:∀ p∈kids.list,p.1.length<=1000000) (hvs:∀ p∈kids.list,valid p.1=true) (hn:name.length<=1000000) (hvn:valid name=true):Det cx 106 [.p (.sl (valL ((Tree.mk 6 s g e kids).enc nm))),.p (.str name),.p (.sl (valL (t.enc [])))] [] (.p (.sl (valL ((Tree.mk 6 [] false 0 (A1 (putL name t (A8 name kids.list)))).enc [])))) []:=by
 have hw:=Jyl nm s g e kids name omg;have hkl:=El name kids;have hfl:=Jqi (A1 (A8 name kids.list));rw[Ca] at hfl;have hKm:∀ p∈A8 name kids.list,p∈kids.list/\p.1≠name:=fun p hp=>Om.1 hp
 generalize hK:A8 name kids.list=K at *
 have hp:=Qx [] 6 [] false 0 (A1 K) omg;have hnm:=Jau [] [] false 0 (A1 K) omg;rw[Hd,Ca] at hp hnm;have e1:Bd K ++ [[PV.str name]]=Bd (K ++ [(name,t)]):=by simp[Bd]
 have e2:A4 K ++ [[PV.sl (valL (t.enc []))]]=A4 (K ++ [(name,t)]):=by simp[A4]
 have hio:Lp (K ++ [(name,t)])=putL name t K:=Jay hr fun p hp=>(hKm p hp).2
 have hok:M3 (K ++ [(name,t)])=true:=by
  unfold M3;rw[decide_eq_true_eq];refine ⟨fun p hp=>?_,?_⟩
  ·rcases Eau.1 hp with hp | hp
   ·exact hvs p (hKm p hp).1
   ·rw[Eba] at hp;subst hp;exact hvn
  ·have:=(E3 (K ++ [(name,t)])).map (·.1);rw[hio] at this;exact this.nodup_iff.1 (Kh hr fun p hp=>(hKm p hp).2).nodup
 have hO:=Zc (K ++ [(name,t)]) (by
  have:=Hm (E3 (K ++ [(name,t)]));rw[hio,Iv] at this;omega) (fun p hp=>by
  rcases Eau.1 hp with hp | hp
  ·exact hs p (hKm p hp).1
  ·rw[Eba] at hp;subst hp;exact hn)
 unfold objR at hO;rw[if_pos hok,hio] at hO;have l1:(K.length+1<=(Bd (K ++ [(name,t)])).length)=True:=eq_true (by rw[A9];simp);have l2:(K.length+1<=(A4 (K ++ [(name,t)])).length)=True:=eq_true (by rw[A5];simp);have t1:(Bd (K ++ [(name,t)])).take (K.length+1)=Bd (K ++ [(name,t)]):=Ead (by rw[A9];simp);have t2:(A4 (K ++ [(name,t)])).take (K.length+1)=A4 (K ++ [(name,t)]):=Ead (by rw[A5];simp);have n1:(Bd K).length=K.length:=A9 _;have n2:(A4 K).length=K.length:=A5 _;(refine bgo func106 ?_;simp only[go_sem,simprocAttr]);(repeat'(first|((first|refine Jqa hw ?_|refine Jqa hnm ?_);simp only[go_sem,simprocAttr,e1,n1])|fail));(repeat'(first|(refine And.intro (by first|omega | (simp;done)|(simp;omega)) ?_)|fail));(repeat'(first|((refine Jqa hp ?_);simp only[go_sem,simprocAttr,l1,l2,t1,t2,e2,n2])|fail));(repeat'(first|(refine And.intro (by first|omega | (simp;done)|(simp;omega)) ?_)|fail));(repeat'(first|((refine Jqa hO ?_);simp only[go_sem,simprocAttr])|fail))
end Go.LX
namespace Go.LX
open Go
def Ja8 (c:UInt8):Bool:=decide (48<=c.toNat) && decide (c.toNat<=57)
def Pk (s:List UInt8):Bool:=s.all Ja8
def Yz (s:List UInt8) (g:Bool) (e:Int):Prop :=
 Pk s=true/\s.length<=100/\-1000<=e/\e<=1000/\(s.length:Int)+e<=1000/\(if s=[] then g=false/\e=0 else at_ s 0≠48/\at_ s (s.length - 1)≠48)
instance (s:List UInt8) (g:Bool) (e:Int):Decidable (Yz s g e):=by unfold Yz;infer_instance
def G3 (k:Int) (s:List UInt8) (g:Bool) (e:Int) (m:Int):Prop :=
 if k=0\/k=1\/k=2 then m=0/\s=[]/\g=false/\e=0 else if k=3 then m=0/\Yz s g e else if k=4 then valid s=true/\m=0/\g=false/\e=0 else if k=5\/k=6 then 0<=m/\s=[]/\g=false/\e=0 else False
instance (k:Int) (s:List UInt8) (g:Bool) (e m:Int):Decidable (G3 k s g e m):=by unfold G3;infer_instance
def Eh (k:Int) (l:List KT):Prop:=(k=5->∀ p∈l,p.1=[])/\(∀ p∈l,valid p.1=true)/\(k=6->Rise l)
mutual
def okT:Tree->Prop
 | .mk k s g e kids=>G3 k s g e kids.len/\Eh k kids.list/\okF kids
def okF:Forest->Prop
 | .nil=>True
 | .cons _ t r=>okT t/\okF r
end
theorem Lu {k:Int} {s:List UInt8} {g:Bool} {e:Int} {kids:Forest}:okT (.mk k s g e kids) ↔ G3 k s g e kids.len/\Eh k kids.list/\okF kids:=by rw[okT]
theorem Fs {nm:List UInt8} {t:Tree} {r:Forest}:okF (.cons nm t r) ↔ okT t/\okF r:=by rw[okF]
theorem I6:okF .nil:=by rw[okF];trivial
theorem Jdq:∀ {a b:Forest},okF (a.app b) ↔ okF a/\okF b
 | .nil,b=>by simp[Forest.app,I6]
 | .cons nm t r,b=>by rw[Forest.app,Fs,Fs,Jdq (a:=r)];exact and_assoc.symm
theorem Jjp {nm:List UInt8} {k:Int} {s:List UInt8} {g:Bool} {e:Int} {kids r:Forest}:okF (.cons nm (.mk k s g e kids) r) ↔ G3 k s g e kids.len/\Eh k kids.list/\okF (kids.app r):=by
 rw[Fs,Lu,Jdq];constructor
 ·rintro ⟨⟨h1,h2,h3⟩,h4⟩;exact ⟨h1,h2,h3,h4⟩
 ·rintro ⟨h1,h2,h3,h4⟩;exact ⟨⟨h1,h2,h3⟩,h4⟩
theorem Jdo:∀ {f:Forest},okF f ↔ ∀ p∈f.list,okT p.2
 | .nil=>by simp[Forest.list,I6]
 | .cons nm t r=>by rw[Fs,Jdo (f:=r),Forest.list,List.forall_mem_cons]
theorem Sb (k:Int):Eh k []:=⟨by simp,by simp,fun _=>.nil⟩
theorem Jaa {k:Int} {p:KT} {l:List KT}:Eh k (p :: l) ↔ (k=5->p.1=[])/\valid p.1=true/\(k=6->∀ q,l.head? = some q->Op.bytesLess p.1 q.1=true)/\Eh k l:=by
 unfold Eh;constructor
 ·rintro ⟨h1,h2,h3⟩;refine ⟨fun hk=>h1 hk p Eag,h2 p Eag,fun hk q hq=>?_,fun hk q hq=>h1 hk q (Eah _ hq),fun q hq=>h2 q (Eah _ hq),fun hk=>(h3 hk).tail⟩;exact (Eb6.1 (h3 hk)).1 q (List.mem_of_head? hq)
 ·rintro ⟨h1,h2,h3,h4,h5,h6⟩;refine ⟨fun hk q hq=>?_,fun q hq=>?_,fun hk=>Eb6.2 ⟨fun q hq=>?_,h6 hk⟩⟩
  ·rcases Eam.1 hq with rfl | hq
   ·exact h1 hk
   ·exact h4 hk q hq
  ·rcases Eam.1 hq with rfl | hq
   ·exact h2
   ·exact h5 q hq
  ·cases l with
   | nil=>cases hq
   | cons r l =>
    have h7:=h3 hk r rfl;rcases Eam.1 hq with rfl | hq
    ·exact h7
    ·exact H8 h7 ((Eb6.1 (h6 hk)).1 q hq)
def nxt (L:Nat):List Node->Nat->Option Nat
 | _,0=>some 0
 | [],_+1=>none
 | n :: r,o+1=>if n.many<0\/(L:Int)<n.many then none else (nxt L r (o+n.many.toNat)).map (· + 1)
theorem Jxp:∀ (m:Nat) (F:Forest),m<=F.len->∃ A B:Forest,F=A.app B/\A.len=m
 | 0,F,_=>⟨.nil,F,rfl,rfl⟩
 | m+1,.nil,h=>by simp[Forest.len] at h
 | m+1,.cons nm t r,h=>by
  obtain ⟨A,B,h1,h2⟩:=Jxp m r (by simp only[Forest.len] at h;omega);exact ⟨.cons nm t A,B,by rw[Forest.app,<- h1],by simp only[Forest.len,h2]⟩
theorem Qg {L:Nat}:∀ {v:List Node} {o k:Nat},nxt L v o=some k->∃ F:Forest,F.len=o/\v=F.enc ++ v.drop k/\F.enc.length=k
 | v,0,k,h=>by
  simp[nxt] at h;subst h;exact ⟨.nil,rfl,by simp[Bl],by simp[Bl]⟩
 | [],o+1,k,h=>by simp[nxt] at h
 | n :: r,o+1,k,h=>by
  simp only[nxt] at h;split at h
  ·cases h
  ·rename_i hn;obtain ⟨k',h',rfl⟩:=Eak.1 h;obtain ⟨F,h1,h2,h3⟩:=Qg h';obtain ⟨A,B,rfl,hA⟩:=Jxp n.many.toNat F omg;rw[Jrz] at h1;rw[Jqk] at h2 h3;refine ⟨.cons n.name (.mk n.kind n.s n.neg n.e A) B,by simp only[Forest.len];omega,?_,?_⟩
   ·rw[A0,A6,Eb7];have e:(⟨n.kind,A.len,n.name,n.s,n.neg,n.e⟩:Node)=n:=by
     have:(A.len:Int)=n.many:=by omega
     rw[this]
    rw[e];simp only[Ea8,Ea2];congr 1;rw[<- Ea2];exact h2
   ·rw[A0,A6,Eac,Eaf];rw[Eac] at h3;omega
theorem Q3 {L:Nat}:∀ (n:Nat) (F:Forest) (r:List Node),F.enc.length<=n->F.enc.length<=L->nxt L (F.enc ++ r) F.len=some F.enc.length
 | _,.nil,r,_,_=>by simp[Forest.len,nxt,Bl]
 | 0,.cons nm t rest,r,h,_=>by
  have:=Et t nm;rw[A0,Eac] at h;omega
 | n+1,.cons nm (.mk k s g e kids) rest,r,h,hL=>by
  rw[A0,A6,Eac,Eaf] at h hL;have hk:=Jqi kids;have ih:=Q3 (L:=L) n (kids.app rest) r (by rw[Jqk,Eac];omega) (by rw[Jqk,Eac];omega);rw[Jqk,Jrz,Ea2,Eac] at ih;simp only[A0,A6,Ea8,Ea2,Forest.len,nxt];rw[if_neg omg];simp only[Int.toNat_natCast];rw[Ecu rest.len,ih];simp only[Option.map_some,Eaf,Eac]
theorem Jcx {v:List Node}:nxt v.length v 1=some v.length ↔ ∃ nm t,v=Tree.enc nm t:=by
 constructor
 ·intro h;obtain ⟨F,h1,h2,h3⟩:=Qg h;rw[List.drop_length,Ea5] at h2
  match F,h1,h2 with
  | .cons nm t .nil,_,h2=>exact ⟨nm,t,by rw[h2,A0,Bl,Ea5]⟩
 ·rintro ⟨nm,t,rfl⟩;have:=Q3 (L:=(t.enc nm).length) (t.enc nm).length (.cons nm t .nil) [] (by rw[A0,Bl];simp) (by rw[A0,Bl];simp);simpa[A0,Bl,Forest.len] using this
def R0 (v:List Node):Prop:=∃ t,okT t/\v=t.enc []
open Classical in
noncomputable def Jw (v:List Node):Bool:=decide (R0 v)
theorem Iq {v:List Node}:Jw v=true ↔ R0 v:=by unfold Jw;exact @decide_eq_true_iff _ (Classical.propDecidable _)
end Go.LX
namespace Go.LX
open Go Go.RowKit Go.Proofs
attribute [local irreducible] Al SWP Bi
def nd (k:Int) (l:List KT):Tree:=.mk k [] false 0 (A1 l)
theorem Ea (l:List KT):(A1 l).list=l:=Hd l
theorem Jdh {k:Int} {l:List KT}:okT (nd k l) ↔ G3 k [] false 0 l.length/\Eh k l/\∀ p∈l,okT p.2:=by
 unfold nd;rw[Lu,Jdo,Ea,Ca]
def Ck (name:List UInt8) (t:Tree) (l:List KT):List KT:=l.map fun p=>if p.1=name then (name,t) else p
theorem Jhx (name:List UInt8) (t:Tree) (l:List KT):(Ck name t l).map (·.1)=l.map (·.1):=by
 unfold Ck;rw[Eck];apply Ebk;intro p _;simp only[Function.comp];split<;>simp_all
theorem Jkq {l m:List KT} (h:l.map (·.1)=m.map (·.1)):Rise l ↔ Rise m:=by
 have e:∀ l:List KT,Rise l ↔ (l.map (·.1)).Pairwise fun a b=>Op.bytesLess a b=true:=fun l=>by unfold Rise;rw[List.pairwise_map]
 rw[e,e,h]
theorem Ii {name:List UInt8} {t:Tree} {l:List KT} (h:Rise l):Rise (Ck name t l):=(Jkq (Jhx name t l)).2 h
theorem Mh {name:List UInt8} {t:Tree}:∀ {l:List KT},(∀ p∈l,p.1≠name)->Ck name t l=l
 | [],_=>rfl
 | p :: l,h=>by
  have:=Mh (t:=t) fun q hq=>h q (Eah p hq)
  unfold Ck at this ⊢;rw[Eay,if_neg (h p Eag),this]
theorem Y2 {name:List UInt8}:∀ {l:List KT},(∀ p∈l,p.1≠name)->A8 name l=l
 | [],_=>rfl
 | p :: l,h=>by rw[A8,if_neg (h p Eag),Y2 fun q hq=>h q (Eah p hq)]
theorem Zx {name:List UInt8} {y:Tree}:∀ {l:List KT},Rise l->(∃ p∈l,p.1=name)->putL name y (A8 name l)=Ck name y l
 | [],_,h=>by obtain ⟨p,hp,_⟩:=h;cases hp
 | p :: l,hr,h=>by
  obtain ⟨h1,h2⟩:=Eb6.1 hr;by_cases hp:p.1=name
  ·have hno:∀ q∈l,q.1≠name:=fun q hq e=>by
    have:=h1 q hq;rw[hp,e,E0] at this;cases this
   rw[A8,if_pos hp,Y2 hno];unfold Ck;rw[Eay,if_pos hp];have:=Mh (t:=y) hno;unfold Ck at this;rw[this];cases l with
   | nil=>rfl
   | cons q l =>
    have:=h1 q Eag;rw[hp] at this;rw[putL,if_neg (by rw[L3 this];simp)]
  ·obtain ⟨q,hq,hqn⟩:=h;have hq':q∈l:=by
    rcases Eam.1 hq with rfl | hq
    ·exact absurd hqn hp
    ·exact hq
   have hlt:=h1 q hq';rw[hqn] at hlt;rw[A8,if_neg hp,putL,if_pos hlt,Zx h2 ⟨q,hq',hqn⟩];unfold Ck;rw[Eay,if_neg hp]
theorem Lf {name:List UInt8} {y:Tree}:∀ {l:List KT},(∃ p∈l,p.1=name)->Ch name (Ck name y l)=some y
 | [],h=>by obtain ⟨p,hp,_⟩:=h;cases hp
 | p :: l,h=>by
  unfold Ck;rw[Eay];by_cases hp:p.1=name
  ·rw[if_pos hp,Ch,if_pos rfl]
  ·rw[if_neg hp,Ch,if_neg hp];obtain ⟨q,hq,hqn⟩:=h;refine Lf ⟨q,?_,hqn⟩;rcases Eam.1 hq with rfl | hq
   ·exact absurd hqn hp
   ·exact hq
theorem Xa (name:List UInt8) (y z:Tree) (l:List KT):Ck name z (Ck name y l)=Ck name z l:=by
 unfold Ck;rw[Eck];apply Ebk;intro p _;simp only[Function.comp];by_cases h:p.1=name<;>simp[h]
theorem Qw {name:List UInt8} {w:Tree}:∀ {l:List KT},Rise l->Ch name l=some w->Ck name w l=l
 | [],_,h=>by cases h
 | p :: l,hr,h=>by
  obtain ⟨h1,h2⟩:=Eb6.1 hr;rw[Ch] at h;by_cases hp:p.1=name
  ·rw[if_pos hp] at h;have hno:∀ q∈l,q.1≠name:=fun q hq e=>by
    have:=h1 q hq;rw[hp,e,E0] at this;cases this
   have e:=Mh (t:=w) hno;unfold Ck at e ⊢;rw[Eay,if_pos hp,e];cases h;obtain ⟨a,b⟩:=p;simp only at hp;subst hp;rfl
  ·rw[if_neg hp] at h;have e:=Qw h2 h;unfold Ck at e ⊢;rw[Eay,if_neg hp,e]
theorem Jip {name:List UInt8} {y:Tree} {l:List KT} (h:∀ p∈l,okT p.2) (hy:okT y):∀ p∈Ck name y l,okT p.2:=by
 intro p hp;obtain ⟨q,hq,rfl⟩:=Eav.1 hp;split
 ·exact hy
 ·exact h q hq
theorem Jct {name:List UInt8} {y:Tree} {l:List KT} (h:Eh 6 l):Eh 6 (Ck name y l):=by
 obtain ⟨_,h2,h3⟩:=h;refine ⟨by simp,fun p hp=>?_,fun _=>Ii (h3 rfl)⟩;obtain ⟨q,hq,rfl⟩:=Eav.1 hp;split
 ·rename_i e;simp only;rw[<- e];exact h2 q hq
 ·exact h2 q hq
theorem Jdu {name:List UInt8} {y w:Tree}:∀ {l:List KT},Rise l->Ch name l=some w->(A1 (Ck name y l)).enc.length+(w.enc []).length=(A1 l).enc.length+(y.enc []).length
 | [],_,h=>by cases h
 | p :: l,hr,h=>by
  obtain ⟨h1,h2⟩:=Eb6.1 hr;rw[Ch] at h;by_cases hp:p.1=name
  ·rw[if_pos hp] at h;cases h;have hno:∀ q∈l,q.1≠name:=fun q hq e=>by
    have:=h1 q hq;rw[hp,e,E0] at this;cases this
   have e:=Mh (t:=y) hno;have e2:Ck name y (p :: l)=(name,y) :: l:=by
    unfold Ck at e ⊢;rw[Eay,if_pos hp,e]
   rw[e2];simp only[A1,A0,Eac,G7 _ name,G7 _ p.1];omega
  ·rw[if_neg hp] at h;have ih:=Jdu (y:=y) h2 h;have e2:Ck name y (p :: l)=p :: Ck name y l:=by
    unfold Ck;rw[Eay,if_neg hp]
   rw[e2];simp only[A1,A0,Eac];omega
theorem Jcy {y w:Tree} {nm:List UInt8}:∀ {l:List KT} {i:Nat},l[i]? = some (nm,w)->(A1 (l.set i (nm,y))).enc.length+(w.enc []).length=(A1 l).enc.length+(y.enc []).length
 | [],i,h=>by simp at h
 | p :: l,0,h=>by
  simp at h;subst h;simp only[List.set_cons_zero,A1,A0,Eac,G7 _ nm];omega
 | p :: l,i+1,h=>by
  have:=Jcy (y:=y) (l:=l) (i:=i) (by simpa using h);simp only[List.set_cons_succ,A1,A0,Eac];omega
def putT:Tree->Step->Tree->Tree
 | .mk _ _ _ _ kids,x,y=>if x.part=true then nd 5 (unn (kids.list.set x.n.toNat ([],y))) else nd 6 (putL x.name y (A8 x.name kids.list))
inductive Way (t:Tree) (x:Step) (w:Tree):Prop
 | list (l:List KT) (h:t=nd 5 l) (hp:x.part=true) (hn:∀ p∈l,p.1=[]) (hi:l[x.n.toNat]? = some ([],w))
 | obj (l:List KT) (h:t=nd 6 l) (hp:x.part=false) (hr:Rise l) (hi:Ch x.name l=some w)
theorem Jl3:∀ {l:List KT},(∀ p∈l,p.1=[])->unn l=l
 | [],_=>rfl
 | p :: l,h=>by
  have:=Jl3 fun q hq=>h q (Eah p hq)
  unfold unn at this ⊢;rw[Eay,this,<- h p Eag]
theorem Jv {t:Tree} {x:Step} {w:Tree} (ht:okT t) (h:inT t x=.ok w):Way t x w:=by
 cases t with
 | mk k s g e kids =>
 rw[Lu] at ht;obtain ⟨h1,h2,h3⟩:=ht;unfold G3 at h1;cases hp:x.part
 ·by_cases hk:k=6
  ·subst hk;simp at h1;obtain ⟨rfl,rfl,rfl⟩:=h1;rw[Tp hp] at h;cases hf:Ch x.name kids.list with
   | none=>rw[hf] at h;cases h
   | some u =>
    rw[hf] at h;cases h;exact .obj kids.list (by unfold nd;rw[G1]) hp (h2.2.2 rfl) hf
  ·rw[Iw hp hk] at h;cases h
 ·by_cases hk:k=5
  ·subst hk;simp at h1;obtain ⟨rfl,rfl,rfl⟩:=h1;rw[Tm hp] at h;cases hf:kids.list[x.n.toNat]? with
   | none=>rw[hf] at h;cases h
   | some q =>
    rw[hf] at h;cases h;have hq:=h2.1 rfl q (Eae hf);refine .list kids.list (by unfold nd;rw[G1]) hp (h2.1 rfl) ?_;rw[hf];obtain ⟨a,b⟩:=q;simp only at hq;subst hq;rfl
  ·rw[Iz hp hk] at h;cases h
theorem Va {l:List KT} {x:Step} (hp:x.part=true):inT (nd 5 l) x=match l[x.n.toNat]? with
   | some p=>.ok p.2
   | none=>.error 6:=by unfold nd;rw[Tm hp,Ea]<;>rfl
theorem Vv {l:List KT} {x:Step} (hp:x.part=false):inT (nd 6 l) x=match Ch x.name l with
   | some t=>.ok t
   | none=>.error 6:=by unfold nd;rw[Tp hp,Ea]<;>rfl
theorem Gf {l:List KT} {i:Nat} {y:Tree} (h:∀ p∈l,p.1=[]):∀ p∈l.set i ([],y),p.1=[]:=by
 intro p hp;rcases Eb2 hp with hp | rfl
 ·exact h p hp
 ·rfl
theorem Cr {l:List KT} {x:Step} {y:Tree} (hp:x.part=true) (hn:∀ p∈l,p.1=[]):putT (nd 5 l) x y=nd 5 (l.set x.n.toNat ([],y)):=by
 show (if x.part=true then nd 5 (unn ((A1 l).list.set x.n.toNat ([],y))) else _)=_;rw[if_pos hp,Ea,Jl3 (Gf hn)]
theorem C7 {l:List KT} {x:Step} {y w:Tree} (hp:x.part=false) (hr:Rise l) (hi:Ch x.name l=some w):putT (nd 6 l) x y=nd 6 (Ck x.name y l):=by
 show (if x.part=true then _ else nd 6 (putL x.name y (A8 x.name (A1 l).list)))=_;rw[if_neg (by simp[hp]),Ea,Zx hr];obtain ⟨p,h1,_,h2⟩:=Kj7 hi;exact ⟨p,h1,h2⟩
theorem Qq {name:List UInt8} {l:List KT} {w:Tree} (h:Ch name l=some w):∃ p∈l,p.1=name:=by
 obtain ⟨p,h1,_,h2⟩:=Kj7 h;exact ⟨p,h1,h2⟩
theorem L7 {t:Tree} {x:Step} {w y:Tree} (h:Way t x w):inT (putT t x y) x=.ok y:=by
 cases h with
 | list l h hp hn hi =>
  subst h;rw[Cr hp hn,Va hp,List.getElem?_set_self (Eab.1 hi).1]
 | obj l h hp hr hi =>
  subst h;rw[C7 hp hr hi,Vv hp,Lf (Qq hi)]
theorem Jjf {t:Tree} {x:Step} {w:Tree} (h:Way t x w):putT t x w=t:=by
 cases h with
 | list l h hp hn hi =>
  subst h;rw[Cr hp hn];congr 1;apply Ecb;intro i;rw[Ebn];split
  ·subst_vars
   first
    | (split<;>simp_all)
    | simp_all
  ·rfl
 | obj l h hp hr hi =>
  subst h;rw[C7 hp hr hi,Qw hr hi]
theorem Ot {t:Tree} {x:Step} {w y z:Tree} (h:Way t x w):putT (putT t x y) x z=putT t x z:=by
 cases h with
 | list l h hp hn hi =>
  subst h;rw[Cr hp hn,Cr hp (Gf hn),Cr hp hn,List.set_set]
 | obj l h hp hr hi =>
  subst h;rw[C7 hp hr hi,C7 hp (Ii hr) (Lf (Qq hi)),C7 hp hr hi,Xa]
theorem put_ok {t:Tree} {x:Step} {w y:Tree} (ht:okT t) (h:Way t x w) (hy:okT y):okT (putT t x y):=by
 cases h with
 | list l h hp hn hi =>
  subst h;rw[Cr hp hn];rw[Jdh] at ht ⊢;obtain ⟨h1,h2,h3⟩:=ht;refine ⟨by rw[Edf];exact h1,⟨fun _=>Gf hn,fun p hp'=>?_,by simp⟩,fun p hp'=>?_⟩
  ·rw[Gf hn p hp'];rfl
  ·rcases Eb2 hp' with hp' | rfl
   ·exact h3 p hp'
   ·exact hy
 | obj l h hp hr hi =>
  subst h;rw[C7 hp hr hi];rw[Jdh] at ht ⊢;obtain ⟨h1,h2,h3⟩:=ht;exact ⟨by unfold Ck;rw[Ebg];exact h1,Jct h2,Jip h3 hy⟩
theorem Ig {t:Tree} {x:Step} {w:Tree} (ht:okT t) (h:Way t x w):okT w:=by
 cases h with
 | list l h hp hn hi=>subst h;exact (Jdh.1 ht).2.2 _ (Eae hi)
 | obj l h hp hr hi =>
  subst h;obtain ⟨p,h1,h2,_⟩:=Kj7 hi;rw[<- h2];exact (Jdh.1 ht).2.2 p h1
theorem Wn (k:Int) (l:List KT):((nd k l).enc []).length=(A1 l).enc.length+1:=by unfold nd;rw[A6];rfl
theorem Jot {t:Tree} {x:Step} {w y:Tree} (h:Way t x w):((putT t x y).enc []).length+(w.enc []).length=(t.enc []).length+(y.enc []).length:=by
 cases h with
 | list l h hp hn hi =>
  subst h;rw[Cr hp hn,Wn,Wn];have:=Jcy (y:=y) hi;omega
 | obj l h hp hr hi =>
  subst h;rw[C7 hp hr hi,Wn,Wn];have:=Jdu (y:=y) hr hi;omega
def setT:List Step->Tree->Tree->Except Nat Tree
 | [],_,u=>.ok u
 | x :: p,t,u=>match inT t x with
  | .error e=>.error e
  | .ok w=>match setT p w u with
   | .error e=>.error e
   | .ok y=>.ok (putT t x y)
theorem Km:∀ {p:List Step} {t u:Tree} {e:Nat},setT p t u=.error e ↔ getT p t=.error e
 | [],t,u,e=>by simp[setT,getT]
 | x :: p,t,u,e=>by
  rw[setT,getT];cases inT t x with
  | error e'=>simp
  | ok w =>
   simp only;rw[<- Km (p:=p) (t:=w) (u:=u)];cases setT p w u with
   | error e'=>simp
   | ok y=>simp
theorem Kg:∀ {p:List Step} {t u y:Tree},okT t->okT u->setT p t u=.ok y->∃ w,getT p t=.ok w/\getT p y=.ok u/\setT p y w=.ok t/\okT y/\okT w/\(y.enc []).length+(w.enc []).length=(t.enc []).length+(u.enc []).length
 | [],t,u,y,ht,hu,h=>by
  cases h;exact ⟨t,rfl,rfl,rfl,hu,ht,omg⟩
 | x :: p,t,u,y,ht,hu,h=>by
  rw[setT] at h;cases hi:inT t x with
  | error e=>rw[hi] at h;cases h
  | ok v =>
   rw[hi] at h;have hw:=Jv ht hi;have hv:=Ig ht hw;simp only at h;cases hs:setT p v u with
   | error e=>rw[hs] at h;cases h
   | ok z =>
    rw[hs] at h;simp only at h;cases h;obtain ⟨w,g1,g2,g3,g4,g5,g6⟩:=Kg hv hu hs;refine ⟨w,by rw[getT,hi];exact g1,by rw[getT,L7 hw];exact g2,?_,put_ok ht hw g4,g5,?_⟩
    ·rw[setT,L7 hw];simp only;rw[g3];simp only;rw[Ot hw,Jjf hw]
    ·have:=Jot (y:=z) hw;omega
end Go.LX
