/- Paths: numbers of parts, as both read them. -/
import Derived.Test.YtmejkfclabmijaaGreatDoorPathBackLxV
set_option linter.unusedSimpArgs false
set_option linter.unusedVariables false
set_option linter.unusedSectionVars false
set_option linter.unnecessarySimpa false
set_option maxRecDepth 100000
set_option maxHeartbeats 2000000
namespace Go.LX
open Go Go.RowKit Go.Proofs
attribute [local irreducible] Bz SWP Gm
theorem Pv (m:Nat):Lib.decDigits m=if m<10 then [UInt8.ofNat (48+m)] else Lib.decDigits (m / 10) ++ [UInt8.ofNat (48+m % 10)]:=by
 rw [Lib.decDigits]
 split <;> rfl
theorem Jb2 {m:Nat} (h:m<10):(UInt8.ofNat (48+m)).toNat=48+m:=by
 rw [UInt8.toNat_ofNat'];omega
theorem Jjx:∀ m:Nat,∀ c∈Lib.decDigits m,isDg c.toNat:=by
 intro m
 induction m using Nat.strongRecOn with
 | _ m ih =>
  intro c hc
  rw [Pv] at hc
  split at hc
  ·rw [List.mem_singleton] at hc;subst hc
   rw [Jb2 (by assumption)];unfold isDg;omega
  ·rcases List.mem_append.1 hc with hc | hc
   ·exact ih (m / 10) (by omega) c hc
   ·rw [List.mem_singleton] at hc;subst hc
    rw [Jb2 (by omega)];unfold isDg;omega
theorem Jcz:∀ m:Nat,valD (Lib.decDigits m)=m:=by
 intro m
 induction m using Nat.strongRecOn with
 | _ m ih =>
  rw [Pv]
  split
  ·show 0 * 10+((UInt8.ofNat (48+m)).toNat - 48)=m
   rw [Jb2 (by assumption)];omega
  ·rw [Jkb,ih (m / 10) (by omega),Jb2 (by omega)];omega
theorem X5 (m:Nat):Lib.decDigits m≠[]:=by
 rw [Pv];split <;> simp
theorem Jfu:∀ m:Nat,∀ c r,Lib.decDigits m=c :: r→c.toNat=48→r=[]∧m=0:=by
 intro m
 induction m using Nat.strongRecOn with
 | _ m ih =>
  intro c r h hc
  rw [Pv] at h
  split at h
  ·cases h
   rw [Jb2 (by assumption)] at hc
   exact ⟨rfl,by omega⟩
  ·cases hd:Lib.decDigits (m / 10) with
   | nil=>exact absurd hd (X5 _)
   | cons d q =>
    rw [hd] at h
    cases h
    have:=(ih (m / 10) (by omega) _ _ hd hc).2
    omega
theorem W3:∀ (n:Nat) (t:List UInt8),t.length=n+1→(∀ c∈t,isDg c.toNat)→(n=0∨at_ t 0≠48)→Lib.decDigits (valD t)=t∧(at_ t 0≠48→0<valD t)
 | 0,t,hl,hd,_=>by
  match t,hl with
  | [c],_ =>
   have hc:=hd c (by simp)
   unfold isDg at hc
   have e:valD [c]=c.toNat - 48:=by show 0 * 10+(c.toNat - 48)=_;omega
   rw [e,Pv,if_pos (by omega)]
   refine ⟨?_,fun h=>?_⟩
   ·congr 1
    apply UInt8.toNat_inj.1
    rw [Jb2 (by omega)];omega
   ·have:at_ [c] 0=c.toNat:=rfl
    omega
 | n+1,t,hl,hd,h0=>by
  have hne:t≠[]:=fun e=>by subst e;simp at hl
  have ht:=List.dropLast_concat_getLast hne
  have hdl:t.dropLast.length=n+1:=by rw [List.length_dropLast];omega
  have ha0:at_ t.dropLast 0=at_ t 0:=by
   rw [← ht]
   have:0<t.dropLast.length:=by omega
   simp only [at_,List.getD_eq_getElem?_getD,List.dropLast_concat]
   rw [List.getElem?_append_left this]
  have h1:=W3 n t.dropLast hdl (fun c hc=>hd c (List.dropLast_subset _ hc)) (.inr (by rw [ha0];omega))
  rw [ha0] at h1
  have h2:=h1.2 (by omega)
  have h3:=hd _ (List.getLast_mem hne)
  unfold isDg at h3
  have hv:valD t=valD t.dropLast * 10+((t.getLast hne).toNat - 48):=by
   conv=>lhs;rw [← ht]
   rw [Jkb]
  refine ⟨?_,fun _=>by omega⟩
  rw [Pv,if_neg (by omega)]
  have e1:valD t / 10=valD t.dropLast:=by omega
  have e2:UInt8.ofNat (48+valD t % 10)=t.getLast hne:=by
   apply UInt8.toNat_inj.1
   rw [Jb2 (by omega)];omega
  rw [e1,e2,h1.1,ht]
theorem Jal:∀ (l:List UInt8) (a:Nat),(∀ c∈l,isDg c.toNat)→Lib.decFrom a l=some (l.foldl (fun a c=>a * 10+(c.toNat - 48)) a)
 | [],a,_=>rfl
 | c :: r,a,h=>by
  have hc:=h c List.mem_cons_self
  unfold isDg at hc
  rw [Lib.decFrom,Lib.digitVal,if_pos hc]
  exact Jal r _ fun d hd=>h d (List.mem_cons_of_mem _ hd)
theorem Jl8 {t:List UInt8} (hne:t≠[]) (hl:t.length≤7) (hd:∀ c∈t,isDg c.toNat):Lib.atoiAll t=.ok (valD t:Int):=by
 rw [Lib.atoiAll_short t (by omega)]
 cases t with
 | nil=>exact absurd rfl hne
 | cons c r =>
  have hc:=hd c List.mem_cons_self
  unfold isDg at hc
  have h45:¬ (c == 45)=true:=fun h=>by have:=beq_iff_eq.1 h;subst this;simp at hc
  have h43:¬ (c == 43)=true:=fun h=>by have:=beq_iff_eq.1 h;subst this;simp at hc
  rw [Lib.atoi,if_neg h45,if_neg h43,Lib.decNat,if_neg (by simp),Jal _ _ hd]
  rfl
theorem Jmc:∀ (T rest:List UInt8) (k:Nat),(∀ c∈T,isDg c.toNat)→T.length≤k→(∀ c q,rest=c :: q→¬ isDg c.toNat)→dgR k (T ++ rest)=T
 | [],rest,k,_,_,h=>by
  cases k with
  | zero=>rfl
  | succ k=>cases rest with
   | nil=>rfl
   | cons c q=>rw [List.nil_append,dgR,if_neg (h c q rfl)]
 | c :: T,rest,k,hd,hl,h=>by
  cases k with
  | zero=>simp at hl
  | succ k =>
   rw [List.cons_append,dgR,if_pos (hd c List.mem_cons_self),Jmc T rest k (fun d hm=>hd d (List.mem_cons_of_mem _ hm)) (by simp at hl;omega) h]
theorem eI_of {u:List UInt8} {e:Nat} (h:u[e]? = some 93) (hb:∀ j,j<e→u[j]? ≠ some 93):eI u=e:=by
 have hge:=Lib.indexByte_ge u ((93:Int).toNat.toUInt8)
 have hc:(93:Int).toNat.toUInt8=93:=rfl
 by_cases hlt:eI u<0
 ·have:Lib.indexByte u ((93:Int).toNat.toUInt8) = -1:=by unfold eI at hlt;omega
  exact absurd h (Lib.indexByte_none this e)
 ·obtain ⟨o,ho⟩:∃ o:Nat,eI u=o:=⟨(eI u).toNat,by omega⟩
  obtain ⟨h1,h2⟩:=Lib.indexByte_some (show Lib.indexByte u ((93:Int).toNat.toUInt8)=o from ho)
  rw [hc] at h1 h2
  rw [ho]
  rcases Nat.lt_trichotomy o e with hl | hl | hl
  ·exact absurd h1 (hb o hl)
  ·omega
  ·exact absurd h (h2 e hl)
theorem Jju {r:List UInt8} (h0:dgR 7 r≠[]) (h1:¬ (at_ r 0=48∧1<(dgR 7 r).length)) (h2:valD (dgR 7 r)≤1000000) (h3:r[(dgR 7 r).length]? = some 93) :
  Ip (91 :: r)=(⟨true,[],(valD (dgR 7 r):Nat)⟩,(dgR 7 r).length+2):=by
 have hl:=Jh7 7 r
 have hp:=Jh4 7 r
 have hall:=Jhi 7 r
 generalize dgR 7 r=t at *
 have hlt:0<t.length:=List.length_pos_iff.2 h0
 have he:eI (91 :: r)=((t.length+1:Nat):Int):=by
  refine eI_of (by simpa using h3) fun j hj hjs=>?_
  cases j with
  | zero=>simp at hjs
  | succ j =>
   rw [List.getElem?_cons_succ] at hjs
   have hjt:t[j]? = some 93:=by rw [hp,List.getElem?_take_of_lt (by omega)];exact hjs
   have:=hall 93 (List.mem_of_getElem? hjt)
   unfold isDg at this
   simp at this
 have hT:pT (91 :: r)=t:=by
  unfold pT;rw [he,List.drop_succ_cons,List.drop_zero]
  rw [show ((t.length+1:Nat):Int).toNat - 1=t.length by omega]
  exact hp.symm
 have ha0:at_ t 0=at_ r 0:=by
  rw [hp];simp only [at_,List.getD_eq_getElem?_getD]
  rw [List.getElem?_take_of_lt (by omega)]
 have hcan:=W3 (t.length - 1) t (by omega) hall (by rw [ha0];omega)
 unfold Ip
 rw [if_pos ⟨rfl,by omega,by omega⟩,hT,Jl8 h0 hl.1 hall]
 simp only
 rw [if_pos ⟨by omega,by omega,by rw [Lib.itoa_nonneg,hcan.1]⟩,he]
 rfl
theorem Jrd {r:List UInt8} (h:(Ip (91 :: r)).2≠0):dgR 7 r≠[]∧¬ (at_ r 0=48∧1<(dgR 7 r).length)∧valD (dgR 7 r)≤1000000∧r[(dgR 7 r).length]? = some 93:=by
 unfold Ip at h
 split at h
 case isFalse=>exact absurd rfl h
 rename_i hc
 obtain ⟨-,hc1,hc2⟩:=hc
 obtain ⟨e,he⟩:∃ e:Nat,eI (91 :: r)=e:=⟨(eI (91 :: r)).toNat,by omega⟩
 have hlt:=Jiy he
 have h93:=(Lib.indexByte_some (show Lib.indexByte (91 :: r) ((93:Int).toNat.toUInt8)=e from he)).1
 rw [show (93:Int).toNat.toUInt8=93 from rfl] at h93
 obtain ⟨k,rfl⟩:∃ k,e=k+1:=⟨e - 1,by omega⟩
 rw [List.getElem?_cons_succ] at h93
 have hT:pT (91 :: r)=r.take k:=by
  unfold pT;rw [he,List.drop_succ_cons,List.drop_zero]
  rw [show ((k+1:Nat):Int).toNat - 1=k by omega]
 rw [hT] at h
 split at h
 case h_2=>exact absurd rfl h
 rename_i n _
 split at h
 case isFalse=>exact absurd rfl h
 rename_i hn
 obtain ⟨hn0,hn1,hn2⟩:=hn
 obtain ⟨m,rfl⟩:∃ m:Nat,n=m:=⟨n.toNat,by omega⟩
 rw [Lib.itoa_nonneg] at hn2
 have hkl:k<r.length:=(List.getElem?_eq_some_iff.1 h93).1
 have hlen:(Lib.decDigits m).length=k:=by rw [hn2,List.length_take];omega
 have hrun:dgR 7 r=Lib.decDigits m:=by
  have:=Jmc (Lib.decDigits m) (r.drop k) 7 (Jjx m) (by omega) (fun c q hcq=>by
   rw [List.drop_eq_getElem_cons hkl] at hcq
   cases hcq
   have:=(List.getElem?_eq_some_iff.1 h93).2
   rw [this];unfold isDg;simp)
  rw [hn2,List.take_append_drop] at this
  rw [this,hn2]
 rw [hrun,hlen,Jcz]
 refine ⟨X5 m,fun ⟨g1,g2⟩=>?_,by omega,h93⟩
 cases hd:Lib.decDigits m with
 | nil=>exact X5 m hd
 | cons c q =>
  have hr0:at_ r 0=c.toNat:=by
   have:(r.take k)[0]? = some c:=by rw [← hn2,hd];rfl
   rw [List.getElem?_take_of_lt (by omega)] at this
   exact at_of this
  have:=(Jfu m c q hd (by omega)).1
  subst this
  rw [hd] at hlen
  simp at hlen;omega
end Go.LX
set_option maxRecDepth 100000
set_option maxHeartbeats 2000000
namespace Go.LX
open Go Go.RowKit Go.Proofs
attribute [local irreducible] Bz SWP Gm
def P9 (s:List UInt8) (j:Nat):Prop:=letP (at_ s j)∨(0<j∧figP (at_ s j))
instance (s:List UInt8) (j:Nat):Decidable (P9 s j):=inferInstanceAs (Decidable (_∨_))
theorem Jhe (s:List UInt8):∀ f i,i≤s.length→s.length+1≤i+f→(∀ j,i≤j→j<wF s f i→P9 s j)∧(wF s f i<s.length→¬ P9 s (wF s f i))
 | 0,i,h,h2=>by omega
 | f+1,i,h,h2=>by
  rw [wF]
  split
  ·rename_i hc
   obtain ⟨g1,g2⟩:=Jhe s f (i+1) (by omega) (by omega)
   refine ⟨fun j h3 h4=>?_,g2⟩
   by_cases hj:j=i
   ·subst hj;exact hc.2
   ·exact g1 j (by omega) h4
  ·rename_i hc
   exact ⟨fun j h3 h4=>by omega,fun hl hg=>hc ⟨hl,hg⟩⟩
theorem S3 {s:List UInt8} {j:Nat} (h:j<L7 s):P9 s j:=(Jhe s (s.length+1) 0 (Nat.zero_le _) (by omega)).1 j (Nat.zero_le _) h
theorem Jlg {s:List UInt8} (h:L7 s<s.length):¬ P9 s (L7 s):=(Jhe s (s.length+1) 0 (Nat.zero_le _) (by omega)).2 h
theorem at_take {s:List UInt8} {m j:Nat} (h:j<m):at_ (s.take m) j=at_ s j:=by
 simp only [at_,List.getD_eq_getElem?_getD]
 rw [List.getElem?_take_of_lt h]
end Go.LX
set_option maxRecDepth 100000
set_option maxHeartbeats 2000000
namespace Go.LX
open Go Go.RowKit Go.Proofs
attribute [local irreducible] Bz SWP Gm
end Go.LX
set_option maxRecDepth 100000
set_option maxHeartbeats 2000000
namespace Go.LX
open Go Go.RowKit Go.Proofs
attribute [local irreducible] Bz SWP Gm
def Re (x y:Step):Prop:=x.part=y.part∧x.name=y.name∧x.n=y.n
instance (x y:Step):Decidable (Re x y):=inferInstanceAs (Decidable (_∧_))
theorem Mw {x y:Step}:Re x y ↔ x=y:=by
 unfold Re
 constructor
 ·rintro ⟨h1,h2,h3⟩
  cases x;cases y
  simp_all
 ·rintro rfl;exact ⟨rfl,rfl,rfl⟩
theorem Jbh {x y:Step}:(x.part == y.part && (x.name == y.name && x.n == y.n))=decide (Re x y):=by
 rw [Bool.eq_iff_iff,decide_eq_true_eq];simp [Re]
def Mf:List Step→List Step→Bool
 | x :: p,y :: q=>!decide (Re x y) || Mf p q
 | _,_=>false
theorem Jlj (p:List Step):Mf p []=false:=by cases p <;> rfl
theorem Jdm (p q:List Step) (hp:p.length≤1000000) (hq:q.length≤1000000) (hn:∀ x∈p,x.name.length≤1000000) (hnq:∀ x∈q,x.name.length≤1000000):Det cx 30 [.p (.sl (Gp p)),.p (.sl (Gp q))] [] (.p (.bool (Mf p q))) []:=by
 skip
 (refine Bz.of_code (X:=cx) false [] (by simp) Tryz.func30 (by kernel_rfl) rfl (by simp only [List.length_cons,List.length_nil,Tryz.ntmps30];decide) (by simp) ?_;refine Ax hm _ _ _ ?_;simp only [Tryz.ntmps30,Tryz.results30,Ah,Bn,Ci,H9,Ab,Bd,A0,Bb,Az,C0,Cb,Ai,Ad,argW,List.map_cons,List.map_nil,Ca,Nat.zero_add])
 refine SWP.loop (fun i:Nat=>⟨Fo 27 [(0,.p (.sl (Gp p))),(1,.p (.sl (Gp q))),(5,.p (.int .i64 i))],[]⟩) (fun i=>i≤p.length∧i≤q.length∧Mf (p.drop i) (q.drop i)=Mf p q) (fun i=>p.length - i) 0 (St.le_slots (by simp only [Ck,Cm,Ac,Bj,Au,Nat.reduceEqDiff,reduceIte,Nat.reduceLT,Nat.reduceLeDiff];simp (disch:=omega) [Au,Bc,Cq,Aa] <;> (repeat' apply And.intro) <;> omega) (by simp (disch:=omega) [Dj,Eo,Dg,Bh,Au,Bc,Cq,Aa]) (by simp [Dk])) ⟨Nat.zero_le _,Nat.zero_le _,rfl⟩ ?_
 rintro i ⟨h1,h2,h3⟩
 by_cases hi:¬ (i<p.length∧i<q.length)
 ·have e:Mf (p.drop i) (q.drop i)=false:=by
   by_cases hi':i<p.length
   ·rw [show q.drop i=[] from List.drop_eq_nil_of_le (by omega)];exact Jlj _
   ·rw [show p.drop i=[] from List.drop_eq_nil_of_le (by omega)];rfl
  (refine Ax hm _ _ _ ?_;simp only [Ch,Ah,Bn,Bs,Ci,Fd,Cn,Ab,Co,B4,Bd,A0,Dq,Bb,Ep,Be,Az,C0,Ba,Ai,B8,Em,Eg,Iv,Br,C6,D6,Du,D4,Av,Aq,D1,D9,D0,Ag,Ae,A3,Bt,Cy,Cz,A7,A8,B9,Aw,Ao,Al,B5,B6,Af,Am,Ap,Cl,A1,A2,Ad,Ac,Ea,List.map_cons,List.map_nil,List.getD_cons_zero,List.getD_cons_succ,decide_eq_true_eq,Nat.reduceLT,Nat.reduceEqDiff,and_true,Ca,↓reduceIte,reduceCtorEq,L.p.injEq,PV.bool.injEq,Bool.false_eq_true,Bool.and_true,Bool.or_false,I9,Dr])
  (repeat' (first | (exfalso;omega)|(refine iteI (fun h=>?_) (fun h=>?_))|(refine B2 (by first | omega | (simp (disch:=omega) only [Aa,Ak,Aj] at *;omega)) ?_;intro b hb)|(refine And.intro (by first | omega | (simp (disch:=omega) only [Aa,Ak,Aj] at *;omega)) ?_)|((first | (refine A9 hm (by rfl) (by kernel_rfl) ?_));simp only [Dm])|(exact True.intro)|(exfalso;omega)))
  all_goals rw [← h3,e]
 ·have hi:=Decidable.not_not.1 hi
  obtain ⟨x,hx⟩:∃ x,p[i]? = some x:=⟨_,List.getElem?_eq_getElem hi.1⟩
  obtain ⟨y,hy⟩:∃ y,q[i]? = some y:=⟨_,List.getElem?_eq_getElem hi.2⟩
  have hgx:=M8 hx
  have hgy:=M8 hy
  have hlx:=hn x (List.mem_of_getElem? hx)
  have hly:=hnq y (List.mem_of_getElem? hy)
  have hdx:p.drop i=x :: p.drop (i+1):=by rw [List.drop_eq_getElem_cons hi.1];congr 1;rw [List.getElem?_eq_getElem hi.1] at hx;exact Option.some.inj hx
  have hdy:q.drop i=y :: q.drop (i+1):=by rw [List.drop_eq_getElem_cons hi.2];congr 1;rw [List.getElem?_eq_getElem hi.2] at hy;exact Option.some.inj hy
  rw [hdx,hdy,Mf] at h3
  have c1:((i:Int)<(p.length:Int))=True:=eq_true (by omega)
  have c2:((i:Int)<(q.length:Int))=True:=eq_true (by omega)
  skip
  (refine Ax hm _ _ _ ?_;simp only [Ch,Ah,Bn,Bs,Ci,Fd,Cn,Ab,Co,B4,Bd,A0,Dq,Bb,Ep,Be,Az,C0,Ba,Ai,B8,Em,Eg,Iv,Br,C6,D6,Du,D4,Av,Aq,D1,D9,D0,Ag,Ae,A3,Bt,Cy,Cz,A7,A8,B9,Aw,Ao,Al,B5,B6,Af,Am,Ap,Cl,A1,A2,Ad,Ac,Ea,List.map_cons,List.map_nil,List.getD_cons_zero,List.getD_cons_succ,decide_eq_true_eq,Nat.reduceLT,Nat.reduceEqDiff,and_true,Ca,↓reduceIte,reduceCtorEq,L.p.injEq,PV.bool.injEq,Bool.false_eq_true,Bool.and_true,Bool.or_false,I9,Dr,wi1 (i:=i) (by omega)])
  (repeat' (first | (refine iteI (fun h=>?_) (fun h=>?_))|(refine B2 (by first | omega | (simp (disch:=omega) only [Aa,Ak,Aj] at *;omega)) ?_;intro b hb)|(refine And.intro (by first | omega | (simp (disch:=omega) only [Aa,Ak,Aj] at *;omega)) ?_)|((first | (refine A9 hm (by rfl) (by kernel_rfl) ?_));simp only [Ch,Ah,Bn,Bs,Cn,Ab,Cf,Bo,Ei,Bd,A0,Nc,J6,Bb,Be,Az,C0,Cb,Ba,Ai,B8,Je,Nq,L2,Ig,Bp,Bg,Br,Av,Ja7,V1,B0,Aq,Jng,Vl,Qg,Pe,Qi,Qm,Hb,Eh,B7,D7,C5,Ic,Ag,Ae,A3,Bt,Cy,Cz,A7,A8,B9,Aw,Ao,Al,B5,B6,Af,Am,Ap,Cl,A1,A2,Ad,Ac,Ea,List.map_cons,List.map_nil,List.length_cons,List.length_nil,List.take_succ_cons,List.take_nil,Bool.not_eq_eq_eq_not,Nat.reduceLT,Nat.reduceLeDiff,Nat.reduceEqDiff,Nat.reduceAdd,true_and,and_true,Ca,↓reduceIte,reduceCtorEq,Int.toNat_natCast,Int.natCast_nonneg,Nat.zero_add,Bool.not_true,L.p.injEq,PV.bool.injEq,Bool.true_and,Bool.and_true,Bool.or_false,Bool.or_true,Kl,Lm,Kk,f_t47,hgx,hgy,wi1 (i:=i) (by omega)])|(exact True.intro)|(exfalso;omega)))
  ·have h:=(show (x.part == y.part && (x.name == y.name && x.n == y.n))=false by assumption)
   rw [Jbh] at h
   rw [← h3,h];rfl
  ·have h:=(show ¬ (x.part == y.part && (x.name == y.name && x.n == y.n))=false by assumption)
   rw [Jbh,Bool.not_eq_false] at h
   rw [h] at h3
   exact ⟨i+1,⟨by omega,by omega,h3⟩,by omega,(St.le_slots (by simp only [Ck,Cm,Ac,Bj,Au,Nat.reduceEqDiff,reduceIte,Nat.reduceLT,Nat.reduceLeDiff];simp (disch:=omega) [Au,Bc,Cq,Aa] <;> (repeat' apply And.intro) <;> omega) (by simp (disch:=omega) [Dj,Eo,Dg,Bh,Au,Bc,Cq,Aa]) (by simp [Dk]))⟩
instance:DecidableEq Step:=fun x y=>decidable_of_iff _ (Mw (x:=x) (y:=y))
theorem Jak:∀ {p q:List Step},p.length=q.length→(Mf p q = !decide (p=q))
 | [],[],_=>rfl
 | x :: p,y :: q,h=>by
  rw [Mf,Jak (p:=p) (q:=q) (by simpa using h)]
  by_cases hx:x=y
  ·subst hx
   have:Re x x:=Mw.2 rfl
   simp [this]
  ·have:¬ Re x y:=fun h=>hx (Mw.1 h)
   simp [this,hx]
theorem Jmv (p q:List Step) (hp:p.length≤1000000) (hq:q.length≤1000000) (hn:∀ x∈p,x.name.length≤1000000) (hnq:∀ x∈q,x.name.length≤1000000):Det cx 18 [.p (.sl (Gp p)),.p (.sl (Gp q))] [] (.p (.bool (decide (p=q)))) []:=by
 skip
 (refine Bz.of_code (X:=cx) false [] (by simp) Tryz.func18 (by kernel_rfl) rfl (by simp only [List.length_cons,List.length_nil,Tryz.ntmps18];decide) (by simp) ?_;refine Ax hm _ _ _ ?_;simp only [Tryz.ntmps18,Tryz.results18,Ah,Bn,Cn,Ab,Bd,A0,Dq,Bb,Ep,Be,Az,Ce,C0,Ba,Ai,B8,Em,Eg,Cc,C6,D6,Du,D4,Av,Aq,H0,D9,D0,Ag,Ae,A3,Cd,Bv,Bm,Bx,Bw,A5,B3,Bi,Ay,A4,Bt,Cy,Cz,A7,A8,B9,Aw,Ao,Al,B5,B6,Af,Am,Ap,Cl,A1,Cj,A2,Ad,Ac,argW,List.map_cons,List.map_nil,List.getD_cons_zero,List.getD_cons_succ,List.append_nil,List.flatMap_cons,List.flatMap_nil,beq_iff_eq,Nat.reduceLT,Nat.reduceEqDiff,and_true,Ca,Bu,↓reduceIte,reduceCtorEq,Nat.zero_add,L.p.injEq,PV.bool.injEq,Bool.false_eq_true,Bool.and_true,Bool.or_false,I9,Dr])
 (repeat' (first | (refine iteI (fun h=>?_) (fun h=>?_))|(refine B2 (by first | omega | (simp (disch:=omega) only [Aa,Ak,Aj] at *;omega)) ?_;intro b hb)|(refine And.intro (by first | omega | (simp (disch:=omega) only [Aa,Ak,Aj] at *;omega)) ?_)|((first | (refine A9 hm (by rfl) (by kernel_rfl) ?_)|(refine Det.use (Jdm p q hp hq hn hnq) ?_)|(refine Det.useQ (Jdm p q hp hq hn hnq) ?_));simp only [Cn,Ab,Bd,A0,Dq,Bb,Cs,Be,Az,C0,Ai,Oo,Em,C6,D6,Du,D4,Jp,Ag,Ae,A3,Bq,B3,Bt,Cy,Cz,A7,A8,B9,Aw,Ao,Al,B5,B6,Af,Am,Ap,Cl,A1,A2,Ad,Ac,List.getD_cons_zero,List.getD_cons_succ,Bool.not_eq_eq_eq_not,Nat.reduceLT,Nat.reduceEqDiff,and_true,↓reduceIte,L.p.injEq,PV.bool.injEq,Bool.and_true])|(exact True.intro)|(exfalso;omega)))
 ·rw [Jak (by omega)]
 ·exact (decide_eq_false fun e=>by subst e;omega).symm
theorem Jkv (p q:List Step) (hl:¬ p.length=q.length):Det cx 64 [.p (.sl (Gp p)),.p (.sl (Gp q))] [] (.p (.bool (decide (p=q)))) []:=by
 skip
 (refine Bz.of_code (X:=cx) false [] (by simp) Tryz.func64 (by kernel_rfl) rfl (by simp only [List.length_cons,List.length_nil,Tryz.ntmps64];decide) (by simp) ?_;refine Ax hm _ _ _ ?_;simp only [Tryz.ntmps64,Tryz.results64,Ch,Ah,Bn,Bs,Ci,H9,Cn,Ab,Cf,Bd,A0,Bb,Be,Az,C0,Cb,Ba,Ai,B8,Eg,Br,Av,Aq,Ll,D9,D0,Ag,Ae,A3,Bt,Cy,Cz,A7,A8,B9,Aw,Ao,Al,B5,B6,Af,Am,Ap,Cl,A1,A2,Ad,Ac,argW,List.map_cons,List.map_nil,bne_iff_ne,ne_eq,Nat.reduceLT,Nat.reduceEqDiff,and_true,Ca,↓reduceIte,reduceCtorEq,Nat.zero_add,L.p.injEq,PV.bool.injEq,Bool.and_true,Bool.or_false,I9,Dr])
 (repeat' (first | (refine iteI (fun h=>?_) (fun h=>?_))|(refine B2 (by first | omega | (simp (disch:=omega) only [Aa,Ak,Aj] at *;omega)) ?_;intro b hb)|(refine And.intro (by first | omega | (simp (disch:=omega) only [Aa,Ak,Aj] at *;omega)) ?_)|((first | (refine A9 hm (by rfl) (by kernel_rfl) ?_));simp only [Dm])|(exact True.intro)|(exfalso;omega)))
 exact (decide_eq_false fun e=>hl (by rw [e])).symm
theorem Ji3 (p q:List Step) (hp:p.length≤1000000) (hq:q.length≤1000000) (hn:∀ x∈p,x.name.length≤1000000) (hnq:∀ x∈q,x.name.length≤1000000):Det cx 64 [.p (.sl (Gp p)),.p (.sl (Gp q))] [] (.p (.bool (decide (p=q)))) []:=by
 by_cases hl:p.length=q.length
 ·have hpl:(p.length:Int)=(q.length:Int):=by omega
  skip
  (refine Bz.of_code (X:=cx) false [] (by simp) Tryz.func64 (by kernel_rfl) rfl (by simp only [List.length_cons,List.length_nil,Tryz.ntmps64];decide) (by simp) ?_;refine Ax hm _ _ _ ?_;simp only [Tryz.ntmps64,Tryz.results64,Ch,Ah,Bn,Bs,Ci,H9,Cn,Ab,Cf,Bd,A0,Bb,Be,Az,C0,Cb,Ba,Ai,B8,Eg,Br,Av,Aq,Ll,D9,D0,Ag,Ae,A3,Bt,Cy,Cz,A7,A8,B9,Aw,Ao,Al,B5,B6,Af,Am,Ap,Cl,A1,A2,Ad,Ac,argW,List.map_cons,List.map_nil,bne_iff_ne,ne_eq,Nat.reduceLT,Nat.reduceEqDiff,and_true,Ca,↓reduceIte,reduceCtorEq,Nat.zero_add,L.p.injEq,PV.bool.injEq,Bool.and_true,Bool.or_false,I9,Dr])
  (repeat' (first | (refine iteI (fun h=>?_) (fun h=>?_))|(refine B2 (by first | omega | (simp (disch:=omega) only [Aa,Ak,Aj] at *;omega)) ?_;intro b hb)|(refine And.intro (by first | omega | (simp (disch:=omega) only [Aa,Ak,Aj] at *;omega)) ?_)|((first | (refine A9 hm (by rfl) (by kernel_rfl) ?_));simp only [Dm])|(exact True.intro)|(exfalso;omega)))
  refine SWP.loop (fun i:Nat=>⟨Fo 26 [(0,.p (.sl (Gp p))),(1,.p (.sl (Gp q))),(12,.p (.int .i64 p.length)),(13,.p (.int .i64 i))],[]⟩) (fun i=>i≤p.length∧p.take i=q.take i) (fun i=>p.length - i) 0 (St.le_slots (by simp only [Ck,Cm,Ac,Bj,Au,Nat.reduceEqDiff,reduceIte,Nat.reduceLT,Nat.reduceLeDiff];simp (disch:=omega) [Au,Bc,Cq,Aa] <;> (repeat' apply And.intro) <;> omega) (by simp (disch:=omega) [Dj,Eo,Dg,Bh,Au,Bc,Cq,Aa]) (by simp [Dk])) ⟨Nat.zero_le _,rfl⟩ ?_
  rintro i ⟨h1,h3⟩
  by_cases hi:¬ i<p.length
  ·have c1:((i:Int)<(p.length:Int))=False:=eq_false (by omega)
   skip
   (refine Ax hm _ _ _ ?_;simp only [Ah,Bn,Bs,Fd,Cn,Ab,Co,B4,Bd,A0,Bb,Be,Az,C0,Ai,B8,Br,Av,Aq,D1,Ag,Ae,A3,Bt,Cy,Cz,A7,A8,B9,Aw,Ao,Al,B5,B6,Af,Am,Ap,Cl,A1,A2,Ad,Ac,Ea,List.map_cons,List.map_nil,decide_eq_true_eq,Nat.reduceLT,Nat.reduceEqDiff,and_true,Ca,↓reduceIte,reduceCtorEq,L.p.injEq,PV.bool.injEq,Bool.and_true,Bool.or_false,c1])
   (repeat' (first | (refine iteI (fun h=>?_) (fun h=>?_))|(refine B2 (by first | omega | (simp (disch:=omega) only [Aa,Ak,Aj] at *;omega)) ?_;intro b hb)|(refine And.intro (by first | omega | (simp (disch:=omega) only [Aa,Ak,Aj] at *;omega)) ?_)|((first | (refine A9 hm (by rfl) (by kernel_rfl) ?_));simp only [Dm])|(exact True.intro)|(exfalso;omega)))
   rw [List.take_of_length_le (by omega),List.take_of_length_le (by omega)] at h3
   exact (decide_eq_true h3).symm
  ·have hi:=Decidable.not_not.1 hi
   obtain ⟨x,hx⟩:∃ x,p[i]? = some x:=⟨_,List.getElem?_eq_getElem hi⟩
   obtain ⟨y,hy⟩:∃ y,q[i]? = some y:=⟨_,List.getElem?_eq_getElem (by omega)⟩
   have hgx:=M8 hx
   have hgy:=M8 hy
   have hlx:=hn x (List.mem_of_getElem? hx)
   have hly:=hnq y (List.mem_of_getElem? hy)
   have c1:((i:Int)<(p.length:Int))=True:=eq_true (by omega)
   skip
   (refine Ax hm _ _ _ ?_;simp only [Ch,Ah,Bn,Bs,Ci,Ab,Bd,A0,Bb,Be,Ba,Ai,B8,Iv,Br,Av,Aq,D1,Ad,Ac,List.map_cons,List.map_nil,decide_eq_true_eq,Nat.reduceLT,Nat.reduceEqDiff,Ca,↓reduceIte,reduceCtorEq,Bool.or_false,c1,wi1 (i:=i) (by omega)])
   (repeat' (first | (refine iteI (fun h=>?_) (fun h=>?_))|(refine B2 (by first | omega | (simp (disch:=omega) only [Aa,Ak,Aj] at *;omega)) ?_;intro b hb)|(refine And.intro (by first | omega | (simp (disch:=omega) only [Aa,Ak,Aj] at *;omega)) ?_)|((first | (refine A9 hm (by rfl) (by kernel_rfl) ?_));simp only [Ch,Ah,Bn,Bs,Cn,Ab,Cf,Bo,Ei,Bd,A0,Nc,J6,Bb,Be,Az,C0,Cb,Ba,Ai,B8,Je,Nq,L2,Ig,Bp,Bg,Br,Av,Ja7,V1,B0,Aq,Jng,Vl,Qg,Pe,Qi,Qm,Hb,Eh,B7,D7,C5,Ic,Ag,Ae,A3,Bt,Cy,Cz,A7,A8,B9,Aw,Ao,Al,B5,B6,Af,Am,Ap,Cl,A1,A2,Ad,Ac,Ea,List.map_cons,List.map_nil,List.length_cons,List.length_nil,List.take_succ_cons,List.take_nil,Bool.not_eq_eq_eq_not,Nat.reduceLT,Nat.reduceLeDiff,Nat.reduceEqDiff,Nat.reduceAdd,true_and,and_true,Ca,↓reduceIte,reduceCtorEq,Int.toNat_natCast,Int.natCast_nonneg,Nat.zero_add,Bool.not_true,L.p.injEq,PV.bool.injEq,Bool.true_and,Bool.and_true,Bool.or_false,Bool.or_true,Kl,Lm,Kk,f_t47,hgx,hgy,wi1 (i:=i) (by omega)])|(exact True.intro)|(exfalso;omega)))
   ·have h:=(show (x.part == y.part && (x.name == y.name && x.n == y.n))=false by assumption)
    rw [Jbh,decide_eq_false_iff_not,Mw] at h
    refine (decide_eq_false fun e=>h ?_).symm
    subst e
    rw [hx] at hy;exact Option.some.inj hy
   ·have h:=(show ¬ (x.part == y.part && (x.name == y.name && x.n == y.n))=false by assumption)
    rw [Jbh,Bool.not_eq_false,decide_eq_true_eq,Mw] at h
    subst h
    refine ⟨i+1,⟨by omega,?_⟩,by omega,(St.le_slots (by simp only [Ck,Cm,Ac,Bj,Au,Nat.reduceEqDiff,reduceIte,Nat.reduceLT,Nat.reduceLeDiff];simp (disch:=omega) [Au,Bc,Cq,Aa] <;> (repeat' apply And.intro) <;> omega) (by simp (disch:=omega) [Dj,Eo,Dg,Bh,Au,Bc,Cq,Aa]) (by simp [Dk]))⟩
    rw [List.take_add_one,List.take_add_one,h3,hx,hy]
 ·exact Jkv p q hl
def Y4 (p q:List Step):Bool:=!decide (p.take (min p.length q.length)=q.take (min p.length q.length))
theorem Ru (p:List Step):∀ x∈Gp p,x.length=3:=by
 intro x hx
 obtain ⟨y,-,rfl⟩:=List.mem_map.1 hx
 rfl
theorem d_Apart (p q:List Step) (hp:p.length≤1000000) (hq:q.length≤1000000) (hn:∀ x∈p,x.name.length≤1000000) (hnq:∀ x∈q,x.name.length≤1000000):Det cx 29 [.p (.sl (Gp p)),.p (.sl (Gp q))] [] (.p (.bool (Y4 p q))) []:=by
 have htk (k:Nat) (r:List Step):(Gp r).take k=Gp (r.take k):=by simp [Gp]
 have hmin:min (p.length:Int) (q.length:Int)=((min p.length q.length:Nat):Int):=by omega
 skip
 (refine Bz.of_code (X:=cx) false [] (by simp) Tryz.func29 (by kernel_rfl) rfl (by simp only [List.length_cons,List.length_nil,Tryz.ntmps29];decide) (by simp) ?_;refine Ax hm _ _ _ ?_;simp only [Tryz.ntmps29,Tryz.results29,Ah,Bn,Ab,Bd,A0,Bb,Be,Az,C0,Ba,Ai,Eg,p_min,Iv,u_min,D9,D0,Ad,Ac,argW,List.map_cons,List.map_nil,Nat.reduceLT,Nat.reduceEqDiff,Ca,↓reduceIte,reduceCtorEq,Nat.zero_add,I9,Dr,hmin])
 (repeat' (first | (refine iteI (fun h=>?_) (fun h=>?_))|(refine B2 (by first | omega | (simp (disch:=omega) only [Aa,Ak,Aj] at *;omega)) ?_;intro b hb)|(refine And.intro (by first | omega | (simp (disch:=omega) only [Aa,Ak,Aj] at *;omega)) ?_)|((first | (refine A9 hm (by rfl) (by kernel_rfl) ?_)|(refine Det.use (Ji3 (p.take (min p.length q.length)) (q.take (min p.length q.length)) (by rw [List.length_take];omega) (by rw [List.length_take];omega) (fun x h=>hn x (List.mem_of_mem_take h)) (fun x h=>hnq x (List.mem_of_mem_take h))) ?_)|(refine Det.useQ (Ji3 (p.take (min p.length q.length)) (q.take (min p.length q.length)) (by rw [List.length_take];omega) (by rw [List.length_take];omega) (fun x h=>hn x (List.mem_of_mem_take h)) (fun x h=>hnq x (List.mem_of_mem_take h))) ?_));simp only [Cn,Ab,Nc,J6,Bb,Be,Je,Sn,Jev,Qd,O6,Jp,E9,Ef,Fn,Jm9,Ag,Ae,A3,Bt,Cy,Cz,A7,A8,B9,Aw,Ao,Al,B5,B6,Af,Am,Ap,Cl,A1,A2,Ad,Ac,List.map_cons,List.map_nil,Bool.not_eq_eq_eq_not,Nat.reduceLT,Nat.reduceEqDiff,true_and,and_true,Ca,↓reduceIte,reduceCtorEq,Int.toNat_natCast,Int.natCast_nonneg,L.p.injEq,PV.bool.injEq,Bool.true_and,Bool.and_true,I9,Kk,Dr,htk])|(refine And.intro (Ru _) ?_)|(exact True.intro)|(exfalso;omega)))
 unfold Y4;rw [Bool.not_not]
end Go.LX
