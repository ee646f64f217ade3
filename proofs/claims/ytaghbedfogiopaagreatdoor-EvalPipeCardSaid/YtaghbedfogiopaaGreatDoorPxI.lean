/- Paths: apart, the same. -/
import Derived.Test.YtaghbedfogiopaaGreatDoorPxH
import Derived.Lib.Overlaps
set_option linter.unusedSimpArgs false
set_option linter.unusedVariables false
set_option linter.unusedSectionVars false
set_option linter.unnecessarySimpa false
set_option maxRecDepth 100000
set_option maxHeartbeats 2000000
namespace Go.LX
open Go Go.RowKit Go.Proofs
attribute [local irreducible] Al SWP Bi
def F8 (x y:Step):Prop:=x.part=y.part/\x.name=y.name/\x.n=y.n
instance (x y:Step):Decidable (F8 x y):=inferInstanceAs (Decidable (_/\_))
theorem Dc {x y:Step}:F8 x y ↔ x=y:=by
 unfold F8;constructor
 ·rintro ⟨h1,h2,h3⟩;cases x;cases y;simp_all
 ·rintro rfl;exact ⟨rfl,rfl,rfl⟩
def B7:List Step->List Step->Bool
 | x :: p,y :: q=>!decide (F8 x y) || B7 p q
 | _,_=>false
instance:DecidableEq Step:=fun x y=>decidable_of_iff _ (Dc (x:=x) (y:=y))
theorem Bp (p:List Step):∀ x∈Bb p,x.length=3:=by
 intro x hx;obtain ⟨y,-,rfl⟩:=Eap.1 hx;rfl
end Go.LX
namespace Go.LX
open Go Go.RowKit Go.Proofs Go.Proofs.Tryz
attribute [local irreducible] Al SWP Bi
def inT:Tree->Step->Except Nat Tree
 | .mk k _ _ _ kids,x =>
  if x.part=true then (if k≠5 then .error 5 else match kids.list[x.n.toNat]? with
   | some p=>.ok p.2
   | none=>.error 6)
  else (if k≠6 then .error 5 else match Ch x.name kids.list with
   | some t=>.ok t
   | none=>.error 6)
theorem Iz {k:Int} {s:List UInt8} {g:Bool} {e:Int} {kids:Forest} {x:Step} (hp:x.part=true) (hk:¬ k=5):inT (.mk k s g e kids) x=.error 5:=by
 show (if x.part=true then (if k≠5 then Except.error 5 else _) else _)=_;rw[if_pos hp,if_pos hk]
theorem Iw {k:Int} {s:List UInt8} {g:Bool} {e:Int} {kids:Forest} {x:Step} (hp:x.part=false) (hk:¬ k=6):inT (.mk k s g e kids) x=.error 5:=by
 show (if x.part=true then _ else (if k≠6 then Except.error 5 else _))=_;rw[if_neg (by simp[hp]),if_pos hk]
theorem Tm {s:List UInt8} {g:Bool} {e:Int} {kids:Forest} {x:Step} (hp:x.part=true):inT (.mk 5 s g e kids) x=match kids.list[x.n.toNat]? with
   | some p=>.ok p.2
   | none=>.error 6:=by
 show (if x.part=true then _ else _)=_;rw[if_pos hp];rfl
theorem Tp {s:List UInt8} {g:Bool} {e:Int} {kids:Forest} {x:Step} (hp:x.part=false):inT (.mk 6 s g e kids) x=match Ch x.name kids.list with
   | some t=>.ok t
   | none=>.error 6:=by
 show (if x.part=true then _ else _)=_;rw[if_neg (by simp[hp])];rfl
def getR:Except Nat Tree->L
 | .ok t=>.tup [.sl (valL (t.enc [])),.int .i64 0]
 | .error e=>.tup [.snil,.int .i64 e]
theorem Hx {l:List (List UInt8×Tree)} {i:Nat} {p:List UInt8×Tree} (h:l[i]? = some p):(A4 l)[i]? = some [.sl (valL (p.2.enc []))]:=by simp[A4,h]
theorem d_in (t:Tree) (x:Step) (hv:(t.enc []).length<=1500000000000) (hx:Bc x):Det cx 124 [.p (.sl (valL (t.enc []))),.p (.agg [.bool x.part,.str x.name,.int .i64 x.n])] [] (getR (inT t x)) []:=by
 cases t with
 | mk k s g e kids =>
 have hkv:kids.enc.length<=1499999999999:=by rw[A6] at hv;simp at hv;omega
 have hll:=Jqi kids;have hkl:=Jqh kids;unfold Bc at hx;cases hp:x.part
 ·by_cases hk:k=6
  ·subst hk;rw[Tp hp];cases hf:Ch x.name kids.list with
   | none =>
    have hF:=Jdk [] s g e kids x.name hkv;rw[hf] at hF;unfold Oo at hF;(refine bgo func124 ?_;simp only[go_sem,simprocAttr,Cc]);(repeat'(first|((refine Jqa hF ?_);simp only[go_sem,simprocAttr])|fail))
    all_goals rfl
   | some t =>
    have hF:=Jdk [] s g e kids x.name hkv;rw[hf] at hF;unfold Oo at hF;(refine bgo func124 ?_;simp only[go_sem,simprocAttr,Cc]);(repeat'(first|((refine Jqa hF ?_);simp only[go_sem,simprocAttr])|fail))
    all_goals rfl
  ·rw[Iw hp hk];(refine bgo func124 ?_;simp only[go_sem,simprocAttr,Cc]);(repeat'(first|(apply iteI<;>intro h)|(exfalso;omega)))
   all_goals rfl
 ·rw[if_pos hp] at hx;obtain ⟨n,hn⟩:∃ n:Nat,x.n=n:=⟨x.n.toNat,omg⟩
  by_cases hk:k=5
  ·subst hk;rw[Tm hp,hn];have hpt:((n:Int)).toNat=n:=rfl;rw[hpt];by_cases hlt:n<kids.len
   ·obtain ⟨p,hpk⟩:∃ p,kids.list[n]? = some p:=⟨_,Eaa omg⟩
    have hpg:=Hx hpk;rw[hpk];(refine bgo func124 ?_;simp only[go_sem,simprocAttr,Cc]);(repeat'(first|(apply iteI<;>intro h)|((first|refine Jqm ?_|(refine Jqb (Px [] 5 s g e kids hkv) ?_));simp only[go_sem,simprocAttr,Cc,hpg])|(exfalso;omega)))
    all_goals rfl
   ·rw[Edd omg];have hpg:=hn;(refine bgo func124 ?_;simp only[go_sem,simprocAttr,Cc]);(repeat'(first|(exfalso;omega)|(apply iteI<;>intro h)|((refine Jqm ?_);simp only[go_sem,simprocAttr,Cc])|fail))
    all_goals rfl
  ·rw[Iz hp hk,hn];have hpg:=hn;(refine bgo func124 ?_;simp only[go_sem,simprocAttr,Cc]);(repeat'(first|(apply iteI<;>intro h)|((refine Jqm ?_);simp only[go_sem,simprocAttr,Cc])|(exfalso;omega)))
   all_goals rfl
def getT:List Step->Tree->Except Nat Tree
 | [],t=>.ok t
 | x :: p,t=>match inT t x with
  | .ok u=>getT p u
  | .error e=>.error e
theorem Jd7:∀ {f:Forest} {p:List UInt8×Tree},p∈f.list->(p.2.enc []).length<=f.enc.length
 | .nil,p,h=>by cases h
 | .cons nm t r,p,h=>by
  rw[A0,Eac];rcases Eak.1 h with rfl | h
  ·simp only;rw[G7 t nm];omega
  ·have:=Jd7 h;omega
theorem Kj7 {name:List UInt8}:∀ {l:List (List UInt8×Tree)} {t:Tree},Ch name l=some t->∃ p∈l,p.2=t/\p.1=name
 | [],t,h=>by cases h
 | p :: l,t,h=>by
  rw[Ch] at h;split at h
  ·cases h;exact ⟨p,Eaf,rfl,by assumption⟩
  ·obtain ⟨q,h1,h2⟩:=Kj7 h;exact ⟨q,Eai _ h1,h2⟩
theorem Jd5 {k:Int} {s:List UInt8} {g:Bool} {e:Int} {kids:Forest} {x:Step} {u:Tree} (h:inT (.mk k s g e kids) x=.ok u):∃ p∈kids.list,p.2=u:=by
 cases hp:x.part
 ·by_cases hk:k=6
  ·subst hk;rw[Tp hp] at h;cases hf:Ch x.name kids.list with
   | none=>rw[hf] at h;cases h
   | some t =>
    rw[hf] at h;cases h;obtain ⟨p,h1,h2,_⟩:=Kj7 hf;exact ⟨p,h1,h2⟩
  ·rw[Iw hp hk] at h;cases h
 ·by_cases hk:k=5
  ·subst hk;rw[Tm hp] at h;cases hf:kids.list[x.n.toNat]? with
   | none=>rw[hf] at h;cases h
   | some p =>
    rw[hf] at h;cases h;exact ⟨p,Eag hf,rfl⟩
  ·rw[Iz hp hk] at h;cases h
theorem M2 {t:Tree} {x:Step} {er:Nat} (h:inT t x=.error er):er=5\/er=6:=by
 cases t with
 | mk k s g e kids =>
  cases hp:x.part
  ·by_cases hk:k=6
   ·subst hk;rw[Tp hp] at h;cases hf:Ch x.name kids.list with
    | none=>rw[hf] at h;cases h;exact .inr rfl
    | some t=>rw[hf] at h;cases h
   ·rw[Iw hp hk] at h;cases h;exact .inl rfl
  ·by_cases hk:k=5
   ·subst hk;rw[Tm hp] at h;cases hf:kids.list[x.n.toNat]? with
    | none=>rw[hf] at h;cases h;exact .inr rfl
    | some p=>rw[hf] at h;cases h
   ·rw[Iz hp hk] at h;cases h;exact .inl rfl
theorem Q7 {t u:Tree} {x:Step} (h:inT t x=.ok u):(u.enc []).length+1<=(t.enc []).length:=by
 cases t with
 | mk k s g e kids =>
  obtain ⟨p,h1,rfl⟩:=Jd5 h;have:=Jd7 h1;rw[A6,Ead];omega
theorem M1 (p:List Step) (t:Tree) (hp:p.length<=1000000) (hok:∀ x∈p,Bc x) (hv:(t.enc []).length<=1500000000000):Det cx 66 [.p (.sl (Bb p)),.p (.sl (valL (t.enc [])))] [] (getR (getT p t)) []:=by
 (refine bgo func66 ?_;simp only[go_sem,simprocAttr,Aq]);refine SWP.loop (fun x:Nat×Tree=>⟨Ba 28 [(0,.p (.sl (Bb p))),(1,.p (.sl (valL (x.2.enc [])))),(10,.p (.sl (Bb p))),(11,.p (.int .i64 p.length)),(12,.p (.int .i64 x.1))],[]⟩) (fun x=>x.1<=p.length/\(x.2.enc []).length<=1500000000000/\getT (p.drop x.1) x.2=getT p t) (fun x=>p.length - x.1) (0,t) Jqc ⟨Eau _,hv,rfl⟩ ?_;rintro ⟨i,u⟩ ⟨h1,h2,h3⟩;simp only at h1 h2 h3;by_cases hi:¬ i<p.length
 ·have c1:((i:Int)<(p.length:Int))=False:=eq_false omg;rw[show p.drop i=[] from Eao omg,getT] at h3;(refine lws ?_;simp only[go_sem,simprocAttr,c1]);rw[<- h3];rfl
 ·have hi:=Ea9.1 hi;obtain ⟨x,hx⟩:∃ x,p[i]? = some x:=⟨_,Eaa hi⟩
  have hgx:=Dk hx;have hdx:p.drop i=x :: p.drop (i+1):=by rw[Eaz hi];congr 1;rw[Eaa hi] at hx;exact Ebd hx
  have hok':=hok x (Eag hx);rw[hdx,getT] at h3;have hin:=d_in u x h2 hok';have c1:((i:Int)<(p.length:Int))=True:=eq_true omg;cases hu:inT u x with
  | error er =>
   rw[hu] at hin h3;unfold getR at hin;(refine lws ?_;simp only[go_sem,simprocAttr,c1,hgx,wi1 (i:=i) omg]);(repeat'(first|(apply iteI<;>intro h)|((refine Jqa hin ?_);simp only[go_sem,simprocAttr,wi1 (i:=i) omg])|fail))
   ·rw[<- h3];rfl
   ·have:=M2 hu;omega
  | ok w =>
   rw[hu] at hin h3;unfold getR at hin;have hle:=Q7 hu;(refine lws ?_;simp only[go_sem,simprocAttr,c1,hgx,wi1 (i:=i) omg]);(repeat'(first|((refine Jqa hin ?_);simp only[go_sem,simprocAttr,wi1 (i:=i) omg])|fail));exact ⟨(i+1,w),⟨by simp only;omega,by simp only;omega,h3⟩,by simp only;omega,Jqc⟩
end Go.LX
namespace Go.LX
open Go Go.RowKit Go.Proofs
section
variable {X:Cx} {ro:Option Nat} {c:Code} {Q:Ex->St->Prop}
theorem J10 {s:St} {d:Nat} {T:TypeId} {es:List (List PV)} (hd:Am d s.regs=some (.row T 1 es)) (h0:0<es.length)
  (h:∀ k,SWP X ro c Q { s with regs:=Bs d (.lrow T 1 true (es.map (List.map L.p) ++ List.replicate k [L.junk])) s.regs }):SWP X ro c Q s:=by
 intro Γ a w hG ⟨ms,hdef,β,Im,hx⟩;have hmem:=Ax hd;rcases hx.fit.regs d _ hmem with ⟨_,rfl⟩ | ⟨loc,cur,hβ,hlz,hbk,hcl,hle,hml,hel,hcell⟩
 ·simp at h0
 refine h (loc.tot - es.length) Γ a w hG ⟨ms,hdef,β,Im,hx.store hmem hβ rfl rfl rfl rfl (fun _ _=>rfl) (.inr ?_)⟩;have hll:(es.map (List.map L.p) ++ List.replicate (loc.tot - es.length) [L.junk]).length=loc.tot:=by simp;omega
 refine ⟨loc,cur,hβ,hlz,hbk,hcl,by rw[hll];exact Eah _,fun _=>hll,hml,fun e he=>?_,fun i e j l hi hj=>?_⟩
 ·rcases Eax.1 he with he | he
  ·obtain ⟨q,hq,rfl⟩:=Eap.1 he;rw[Ea1];exact (hel q hq).1
  ·rw[List.eq_of_mem_replicate he];rfl
 ·by_cases hlt:i<es.length
  ·rw[Eat (by simpa using hlt),Eam] at hi;obtain ⟨q,hq,rfl⟩:=Eal.1 hi;rw[Eam] at hj;obtain ⟨p,hp,rfl⟩:=Eal.1 hj;obtain ⟨v,hv,hr⟩:=hcell i q j p hq hp;exact ⟨v,hv,hr,.inl ((hel q (Eag hq)).2 p (Eag hp))⟩
  ·rw[Ear (by simpa using hlt)] at hi;simp only[Ea1] at hi;obtain ⟨hi1,rfl⟩:=Eab.1 hi;simp only[Eb4] at hi1;simp only[List.getElem_replicate] at hj;have hj0:j=0:=by have:=(Eab.1 hj).1;simp at this;exact this
   subst hj0;simp at hj;subst hj;have hc:i * 1+0<cur.length:=by rw[hcl];omega
   exact ⟨_,Eaa hc,trivial,.inr rfl⟩
theorem Jyo {s:St} {d:Nat} {T:TypeId} {f:Bool} {ls:List (List L)} {es:List (List PV)} (n:Nat) (hd:Am d s.regs=some (.lrow T 1 f ls)) (hp:Cb (ls.take n)=some es):s.Le { s with regs:=Bs d (.row T 1 es) s.regs }:=by
 rintro Γ a w ⟨ms,hdef,β,Im,hx⟩;have hmem:=Ax hd;obtain ⟨pl,pp⟩:=Dh hp;by_cases hβ:∃ loc,β d=some loc
 ·obtain ⟨loc,hβ⟩:=hβ;refine ⟨ms,hdef,β,Im,hx.store hmem hβ rfl rfl rfl rfl (fun _ _=>rfl) ?_⟩;rcases hx.fit.regs d _ hmem with ⟨hn,rfl⟩ | ⟨loc',cur,hβ',hlz,hbk,hcl,hle,hfu,hml,hel,hcell⟩
  ·rw[hβ] at hn;cases hn
  ·rw[hβ] at hβ';cases hβ';have key:∀ (i:Nat) (q:List PV),es[i]? = some q->∃ e,ls[i]? = some e/\e.length=q.length/\∀ (j:Nat) (p:PV),q[j]? = some p->e[j]? = some (.p p):=by
    intro i q hq;obtain ⟨e,he,ha⟩:=pp i q hq;have he':ls[i]? = some e:=by
     rw[Eas] at he;split at he
     ·exact he
     ·cases he
    obtain ⟨al,ag⟩:=Bh ha;refine ⟨e,he',al,fun j p hj=>?_⟩;obtain ⟨l,hl'⟩:=getElem?_of_length al hj;have h1:=ag j l p hl' hj;cases l<;>simp[L.pure?] at h1;subst h1;exact hl'
   refine .inr ⟨loc,cur,hβ,hlz,hbk,hcl,by rw[<- pl,Eay];omega,hml,fun q hq=>?_,fun i q j p hi hj=>?_⟩
   ·obtain ⟨i,hi,rfl⟩:=Eba hq;obtain ⟨e,he,h1,h2⟩:=key i _ (Eaa hi);refine ⟨by rw[<- h1];exact hel e (Eag he),fun p hp=>?_⟩;obtain ⟨j,hj,rfl⟩:=Eba hp;obtain ⟨v,_,_,hco⟩:=hcell i e j _ he (h2 j _ (Eaa hj));rcases hco with hco | hco
    ·exact hco
    ·cases hco
   ·obtain ⟨e,he,h1,h2⟩:=key i q hi;obtain ⟨v,hv,hr,_⟩:=hcell i e j _ he (h2 j p hj);exact ⟨v,hv,hr⟩
 ·have hn:β d=none:=by
   cases hb:β d with
   | none=>rfl
   | some loc=>exact absurd ⟨loc,hb⟩ hβ
  have hls:ls=[]:=by
   rcases hx.fit.regs d _ hmem with ⟨_,h⟩ | ⟨loc',cur,hβ',_⟩
   ·exact h
   ·rw[hn] at hβ';cases hβ'
  subst hls;have:es=[]:=Ean (by simpa using pl.symm);subst this;have hf:=hx.fit;refine ⟨ms,hdef,β,Im,{ hx with fit:={ hf with regs:=fun e q hq=>?_,nodup:=by simp only[Kd];exact hf.nodup,live:=fun e q loc hq hl=>?_,apart:=fun e q e' q' l1 l2 hq hq' hne h1 h2=>?_ },regnew:=fun e q loc hq hl=>?_,marks:=fun D hD=>?_ }⟩
  all_goals
   have key:∀ e q,(e,q)∈Bs d (.row T 1 []) s.regs->∃ q',(e,q')∈s.regs:=by
    intro e q hq;rcases Ds hf.nodup hq with ⟨rfl,rfl,q',hq'⟩ | ⟨hne,hm⟩
    ·exact ⟨q',hq'⟩
    ·exact ⟨q,hm⟩
  ·rcases Ds hf.nodup hq with ⟨rfl,rfl,_⟩ | ⟨hne,hm⟩
   ·exact .inl ⟨hn,rfl⟩
   ·exact hf.regs e q hm
  ·obtain ⟨q',hq'⟩:=key e q hq;exact hf.live e q' loc hq' hl
  ·obtain ⟨p1,hp1⟩:=key e q hq;obtain ⟨p2,hp2⟩:=key e' q' hq';exact hf.apart e p1 e' p2 l1 l2 hp1 hp2 hne h1 h2
  ·obtain ⟨q',hq'⟩:=key e q hq;exact hx.regnew e q' loc hq' hl
  ·obtain ⟨m1,m2,m3,m4⟩:=hx.marks D hD;exact ⟨m1,m2,m3,fun e q loc hq hl=>by obtain ⟨q',hq'⟩:=key e q hq;exact m4 e q' loc hq' hl⟩
theorem Jq:∀ es:List (List PV),Cb (es.map (List.map L.p))=some es
 | []=>rfl
 | e :: es=>by
  have h:∀ e:List PV,Bg L.pure? (e.map L.p)=some e:=by
   intro e
   induction e with
   | nil=>rfl
   | cons p e ih=>simp only[Eaq,Bg,L.pure?,ih]
  simp only[Eaq,Cb,h,Jq es]
theorem Gd {es:List (List PV)} {r:List (List L)} {n:Nat} (h:n<=es.length):Cb ((es.map (List.map L.p) ++ r).take n)=some (es.take n):=by
 rw[Ebw (by simpa using h),<- Ec3,Jq]
theorem Me {es:List (List PV)} {r:List (List L)} {o n:Nat} (h:o+n<=es.length):Cb (((es.map (List.map L.p) ++ r).drop o).take n)=some ((es.drop o).take n):=by
 rw[List.drop_append_of_le_length (by simp;omega),Ebw (by simp;omega),<- Ec2,<- Ec3,Jq]
end
theorem W9 {X:Cx} {f:FuncId} {fn:Func} {tS tR e:TypeId} (hf:X.P.funcs[f]? = some fn) (hname:(fn.name == "runtime.NumGoroutine")=false) (hb:fn.body.isNone=true) (hn:Extern.findNext fn=none)
  (he:Extern.find fn=some (Extern.SlicesOverlaps.overlaps #[tS,tS] #[tR])) (ht:slE X.P tS=some (e,1)) {rs:Regs} {d1 o1 n1 d2 o2 n2:Nat} {T1 T2:TypeId} {es1:List (List PV)} {f2:Bool} {es2:List (List L)}
  (h1:Am d1 rs=some (.row T1 1 es1)) (h2:Am d2 rs=some (.lrow T2 1 f2 es2)) (hne:d1≠d2) (hp1:0<es1.length) (hp2:0<es2.length):Ad X f [.own d1 o1 n1,.own d2 o2 n2] rs (.p (.bool false)):=by
 intro β Im w vs hfit;obtain ⟨v,u,rfl,r1,r2⟩:=fit2 hfit;have m1:=Ax h1;have m2:=Ax h2;obtain ⟨ht0,hcs,h0⟩:=Dw ht;rcases hfit.regs d1 _ m1 with ⟨_,rfl⟩ | ⟨l1,c1,b1,z1,k1,q1,y1,-⟩
 ·simp at hp1
 rcases hfit.regs d2 _ m2 with ⟨_,rfl⟩ | ⟨l2,c2,b2,z2,k2,q2,y2,-⟩
 ·simp at hp2
 rcases r1 with ⟨l1',cap1,a1,b1',_,_,_,rfl⟩ | ⟨hn1,_⟩
 rotate_left
 ·rw[b1] at hn1;cases hn1
 rcases r2 with ⟨l2',cap2,a2,b2',_,_,_,rfl⟩ | ⟨hn2,_⟩
 rotate_left
 ·rw[b2] at hn2;cases hn2
 rw[b1] at b1';cases b1';rw[b2] at b2';cases b2';have hap:=hfit.apart d1 _ d2 _ l1 l2 m1 m2 hne b1 b2;refine ⟨.bool false,?_,PRep.bool _⟩;rw[run_callFunc_extern hf hname hb hn he,
  Lib.run_overlaps_apart w tS tR e ht0 1 (fun w=>Bk (P:=X.P) hcs de w) ⟨l1.blk,a1,none⟩ ⟨l2.blk,a2,none⟩ n1 cap1 n2 cap2 hap T1 T2 c1.length c2.length (by simp[World.shape?,k1]) (by simp[World.shape?,k2]) omg (by simp[World.frozen?,k1]) (by simp[World.frozen?,k1])]
 rfl
theorem Jxz {X:Cx} {f:FuncId} {args:List L} {rs rest:Regs} {l:L} {T:TypeId} {es:List (List PV)} (n:Nat)
  (h:Al X f args rs fun m q=>m=l/\(q=(900,.row T 1 es) :: rest\/∃ b ls,q=(900,.lrow T 1 b ls) :: rest/\Cb (ls.take n)=some es)):Det X f args rs l ((900,.row T 1 es) :: rest):=by
 refine ⟨h.1,fun β Im w vs hg hf=>(h.2 β Im w vs hg hf).mono fun e w' ⟨v,m,rs',β',Im',he,⟨hm,hq⟩,hr,hc⟩=>?_⟩;rcases hq with rfl | ⟨b,ls,rfl,hp⟩
 ·exact ⟨v,m,_,β',Im',he,⟨hm,rfl⟩,hr,hc⟩
 ·refine ⟨v,m,_,β',Im',he,⟨hm,rfl⟩,hr,?_⟩;obtain ⟨pl,pp⟩:=Dh hp;have hf':=hc.fit;have key:∀ d r,(d,r)∈(900,Reg.row T 1 es) :: rest->∃ r',(d,r')∈(900,Reg.lrow T 1 b ls) :: rest:=by
   intro d r hd;rcases Eak.1 hd with hd | hd
   ·cases hd;exact ⟨_,Eaf⟩
   ·exact ⟨r,Eai _ hd⟩
  have hreg:Ci β' w' Im' 900 (.row T 1 es):=by
   rcases hf'.regs 900 _ Eaf with ⟨hn,rfl⟩ | ⟨loc,cur,hβ,hlz,hbk,hcl,hle,hfu,hml,hel,hcell⟩
   ·refine .inl ⟨hn,Ean (by simpa using pl.symm)⟩
   ·have key:∀ (i:Nat) (q:List PV),es[i]? = some q->∃ e,ls[i]? = some e/\e.length=q.length/\∀ (j:Nat) (p:PV),q[j]? = some p->e[j]? = some (.p p):=by
     intro i q hq;obtain ⟨e,he,ha⟩:=pp i q hq;have he':ls[i]? = some e:=by
      rw[Eas] at he;split at he
      ·exact he
      ·cases he
     obtain ⟨al,ag⟩:=Bh ha;refine ⟨e,he',al,fun j p hj=>?_⟩;obtain ⟨l,hl'⟩:=getElem?_of_length al hj;have h1:=ag j l p hl' hj;cases l<;>simp[L.pure?] at h1;subst h1;exact hl'
    refine .inr ⟨loc,cur,hβ,hlz,hbk,hcl,by rw[<- pl,Eay];omega,hml,fun q hq=>?_,fun i q j p hi hj=>?_⟩
    ·obtain ⟨i,hi,rfl⟩:=Eba hq;obtain ⟨e,he,h1,h2⟩:=key i _ (Eaa hi);refine ⟨by rw[<- h1];exact hel e (Eag he),fun p hp=>?_⟩;obtain ⟨j,hj,rfl⟩:=Eba hp;obtain ⟨v,_,_,hco⟩:=hcell i e j _ he (h2 j _ (Eaa hj));rcases hco with hco | hco
     ·exact hco
     ·cases hco
    ·obtain ⟨e,he,h1,h2⟩:=key i q hi;obtain ⟨v,hv,hr,_⟩:=hcell i e j _ he (h2 j p hj);exact ⟨v,hv,hr⟩
  refine { hc with keys:=fun d r hd=>(key d r hd).elim fun r' h'=>hc.keys d r' h',regnew:=fun d r loc hd hl=>(key d r hd).elim fun r' h'=>hc.regnew d r' loc h' hl,fit:={ size:=hf'.size,tmps:=hf'.tmps,im:=hf'.im,regs:=fun d r hd=>?_,nodup:=hf'.nodup,live:=fun d r loc hd hl=>(key d r hd).elim fun r' h'=>hf'.live d r' loc h' hl,apart:=fun d r d' r' l1 l2 hd hd' hne h1 h2=>(key d r hd).elim fun r1 h1'=>(key d' r' hd').elim fun r2 h2'=>hf'.apart d r1 d' r2 l1 l2 h1' h2' hne h1 h2 } };rcases Eak.1 hd with hd | hd
  ·cases hd;exact hreg
  ·exact hf'.regs d r (Eai _ hd)
theorem Al.sub {X:Cx} {f:FuncId} {args:List L} {rs:Regs} {Post Post':L->Regs->Prop} (h:Al X f args rs Post) (hp:∀ m q,Post m q->∃ q0,q0.Sublist q/\Post' m q0):Al X f args rs Post':=by
 refine ⟨h.1,fun β Im w vs hg hf=>(h.2 β Im w vs hg hf).mono fun e w' ⟨v,m,rs',β',Im',he,hP,hr,hc⟩=>?_⟩;obtain ⟨q0,hs,hP'⟩:=hp m rs' hP;have hf':=hc.fit;have key:∀ d r,(d,r)∈q0->(d,r)∈rs':=fun d r hd=>hs.subset hd
 exact ⟨v,m,q0,β',Im',he,hP',hr,{ hc with keys:=fun d r hd=>hc.keys d r (key d r hd),regnew:=fun d r loc hd hl=>hc.regnew d r loc (key d r hd) hl,fit:={ size:=hf'.size,tmps:=hf'.tmps,im:=hf'.im,regs:=fun d r hd=>hf'.regs d r (key d r hd),nodup:=hf'.nodup.sublist (hs.map _),live:=fun d r loc hd hl=>hf'.live d r loc (key d r hd) hl,apart:=fun d r d' r' l1 l2 hd hd' hne h1 h2=>hf'.apart d r d' r' l1 l2 (key d r hd) (key d' r' hd') hne h1 h2 } }⟩
theorem Kj {f:L->L} (hp:∀ p,f (.p p)=.p p) (hj:f .junk=.junk) (es:List (List PV)) (k:Nat):List.map (fun e=>List.map f e) (es.map (List.map L.p) ++ List.replicate k [L.junk])=es.map (List.map L.p) ++ List.replicate k [L.junk]:=by
 rw[Ebm,Ebx,List.map_replicate];have h1:(fun e=>List.map f e) ∘ List.map L.p=List.map L.p:=by
  funext e;simp only[Function.comp,Ebx];congr 1;funext p;exact hp p
 rw[h1];simp[hj]
theorem Z8 {es:List (List PV)} {i k:Nat} (hi:i<es.length) (hk:k≠0) :
  (es.map (List.map L.p) ++ List.replicate k [L.junk]).take (i+1) ++ (es.drop i).map (List.map L.p) ++ (es.map (List.map L.p) ++ List.replicate k [L.junk]).drop (i+1+(es.length - i))=(es.take (i+1) ++ es.drop i).map (List.map L.p) ++ List.replicate (k - 1) [L.junk]:=by
 rw[Ebw (by simp;omega),show i+1+(es.length - i)=(es.map (List.map L.p)).length+1 by simp;omega,List.drop_append,Eao (show (es.map (List.map L.p)).length<=(es.map (List.map L.p)).length+1 by omega),List.nil_append,List.drop_replicate,Ebm,Ec3];congr 2;simp
theorem Xp {es:List (List PV)} {i k:Nat} {q:List PV} (hi:i<es.length) :
  ((es.take (i+1) ++ es.drop i).map (List.map L.p) ++ List.replicate k [L.junk]).take i ++ [q.map L.p] ++ ((es.take (i+1) ++ es.drop i).map (List.map L.p) ++ List.replicate k [L.junk]).drop (i+1)=(es.take i ++ [q] ++ es.drop i).map (List.map L.p) ++ List.replicate k [L.junk]:=by
 rw[Ebw (by simp;omega),List.drop_append_of_le_length (by simp;omega),<- Ec3,<- Ec2,Ebw (by simp;omega),List.drop_append_of_le_length (by simp;omega),List.take_take,Eao (show (es.take (i+1)).length<=i+1 by simp;omega),Ecx omg];simp
def isSl:Option TypeDesc->Prop
 | some (.slice _)=>True
 | _=>False
theorem Hi {e:TypeId}:isSl (some (.slice e))=True:=(rfl)
def capR (off:Nat) (K:L->Prop):Option Reg->Prop
 | some (.lrow _ _ true es)=>K (.p (.int .i64 (es.length - off:Nat)))
 | _=>False
def capV (regs:Regs) (K:L->Prop):L->Prop
 | .p .snil=>K (.p (.int .i64 0))
 | .own d off _=>capR off K (Am d regs)
 | _=>False
theorem K9 {P:Program} {r:Regs} {t:List L} {o:Operand} {ty:TypeId} {K:L->Prop}:lqvK P r ⟨t,r⟩ (.call { callee:=.builtin .cap,args:=#[o],argTypes:=#[ty] }) K=(isSl (P.underlying ty)/\capV r K ((St.mk t r).get o)):=by
 have h1:(∃ e,P.underlying ty=some (.slice e)) ↔ isSl (P.underlying ty):=by
  unfold isSl;split
  ·rename_i e h;exact ⟨fun _=>trivial,fun _=>⟨e,h⟩⟩
  ·rename_i h;exact ⟨fun ⟨k,hk⟩=>h k hk,fun h=>h.elim⟩
 unfold lqvK lqv;simp only[h1];apply pe;constructor
 ·rintro ⟨l,⟨h,h'⟩,hK⟩;refine ⟨h,?_⟩;split at h'
  ·rename_i hg;rw[hg];subst h';exact hK
  ·rename_i d off n hg;rw[hg];show capR off K (Am d r);split at h'
   ·rename_i T sz es hr;rw[hr];subst h';exact hK
   ·exact h'.elim
  ·exact h'.elim
 ·rintro ⟨h,hK⟩;unfold capV at hK;split at hK
  ·rename_i hg;rw[hg];exact ⟨_,⟨h,rfl⟩,hK⟩
  ·rename_i d off n hg;rw[hg];unfold capR at hK;split at hK
   ·rename_i T sz es hr;simp only[hr];exact ⟨_,⟨h,rfl⟩,hK⟩
   ·exact hK.elim
  ·exact hK.elim
theorem Hf {r:Regs} {K:L->Prop} {d off n:Nat}:capV r K (.own d off n)=capR off K (Am d r):=(rfl)
theorem Kc {off:Nat} {K:L->Prop} {T sz:Nat} {es:List (List L)}:capR off K (some (.lrow T sz true es))=K (.p (.int .i64 (es.length - off:Nat))):=(rfl)
end Go.LX
namespace Go.LX
open Go Go.RowKit Go.Proofs Go.Proofs.Tryz
attribute [local irreducible] Al SWP Bi
def Cq (x:List UInt8):List (List UInt8)->Nat
 | []=>0
 | s :: l=>if Op.bytesLess s x=true then Cq x l+1 else 0
theorem Qt (x:List UInt8):∀ l,Cq x l<=l.length
 | []=>Eah _
 | s :: l=>by have:=Qt x l;simp only[Cq,Ead];split<;>omega
theorem Zr {x:List UInt8}:∀ {l:List (List UInt8)} {k:Nat} {s:List UInt8},k<Cq x l->l[k]? = some s->Op.bytesLess s x=true
 | [],_,_,h,_=>by simp[Cq] at h
 | t :: l,k,s,h,hk=>by
  simp only[Cq] at h;split at h
  ·cases k with
   | zero=>simp at hk;subst hk;assumption
   | succ k=>exact Zr (l:=l) (k:=k) omg (by simpa using hk)
  ·omega
theorem Wz {x:List UInt8}:∀ {l:List (List UInt8)} {s:List UInt8},l[Cq x l]? = some s->Op.bytesLess s x=false
 | [],_,h=>by simp at h
 | t :: l,s,h=>by
  simp only[Cq] at h;split at h
  ·exact Wz (l:=l) (by simpa using h)
  ·rename_i h1;simp only[List.getElem?_cons_zero,Option.some.injEq] at h;subst h;exact Bool.not_eq_true _ ▸ h1
def Mono (x:List UInt8) (l:List (List UInt8)):Prop:=∀ (i j:Nat) (s t:List UInt8),i<=j->l[i]? = some s->l[j]? = some t->Op.bytesLess t x=true->Op.bytesLess s x=true
theorem Jel {x:List UInt8} {l:List (List UInt8)} (hmo:Mono x l) {k:Nat} {s:List UInt8} (hk:l[k]? = some s):(Op.bytesLess s x=true ↔ k<Cq x l):=by
 constructor
 ·intro h;by_cases hlt:k<Cq x l
  ·exact hlt
  ·have hkl:=(Eab.1 hk).1;obtain ⟨t,ht⟩:∃ t,l[Cq x l]? = some t:=⟨_,Eaa (show Cq x l<l.length from Nat.lt_of_le_of_lt (Nat.le_of_not_lt hlt) hkl)⟩
   have:=hmo (Cq x l) k t s omg ht hk h;rw[Wz ht] at this;cases this
 ·exact fun h=>Zr h hk
def strL (l:List (List UInt8)):List (List PV):=l.map fun s=>[.str s]
theorem Jum (l:List (List UInt8)):(strL l).length=l.length:=by simp[strL]
def Mo (x:List UInt8) (l:List (List UInt8)):Bool:=match l[Cq x l]? with
 | some s=>s == x
 | none=>false
theorem half {i j:Nat} (h:i+j<=4000000000000):IntKind.i64.wrap ((IntKind.u64.wrap (IntKind.i64.wrap ((i:Int)+(j:Int)))).fdiv (2 ^ min 1 (B0 .u64)))=(((i+j) / 2:Nat):Int):=by
 have e:(((i+j:Nat):Int)).fdiv (2 ^ min 1 (B0 .u64))=(((i+j) / 2:Nat):Int):=by
  rw[show min 1 (B0 .u64)=1 by decide,Ecs _ de];simp
 rw[Aa (n:=(i:Int)+j) omg omg,show ((i:Int)+(j:Int))=((i+j:Nat):Int) by omega,Mf (n:=((i+j:Nat):Int)) omg omg];rw[e,Aa omg omg]
theorem Jdr (a:List UInt8):Det cx 155 [.p (.str a)] [] (.p (.bool false)) []:=by
 (refine bgo func155 ?_;simp only[go_sem,simprocAttr])
theorem Mt (a:List UInt8):Det cx 179 [.p (.str a)] [] (.p (.bool false)) []:=by
 (refine bgo func179 ?_;simp only[go_sem,simprocAttr])
theorem Jh8 (a b:List UInt8):Det cx 178 [.p (.str a),.p (.str b)] [] (.p (.bool (Op.bytesLess a b))) []:=by
 (refine bgo func178 ?_;simp only[go_sem,simprocAttr]);(repeat'(first|((refine Jqa (Jdr a) ?_);simp only[go_sem,simprocAttr])|fail))
theorem Jmd (x:List UInt8) (l:List (List UInt8)) (hmo:Mono x l) (hn:l.length<=1500000000000):Det cx 142 [.own 1000 0 l.length,.p (.str x)] [(1000,.row 9 1 (strL l))] (.tup [.int .i64 (Cq x l),.bool (Mo x l)]) [(1000,.row 9 1 (strL l))]:=by
 have hpl:=Qt x l;(refine bgo func142 ?_;simp only[go_sem,simprocAttr]);refine SWP.loop (fun p:Nat×Nat=>⟨Ba 54 [(0,.own 1000 0 l.length),(1,.p (.str x)),(5,.p (.bool false)),(6,.p (.int .i64 l.length)),(7,.p (.int .i64 p.1)),(8,.p (.int .i64 p.2))],[(1000,.row 9 1 (strL l))]⟩) (fun p=>p.1<=Cq x l/\Cq x l<=p.2/\p.2<=l.length) (fun p=>p.2 - p.1) (0,l.length) Jqc ⟨Eau _,hpl,Eah _⟩ ?_;rintro ⟨i,j⟩ ⟨h1,h2,h3⟩;simp only at h1 h2 h3;by_cases hi:i<j
 ·have hh:=half (i:=i) (j:=j) omg;obtain ⟨s,hs⟩:∃ s,l[(i+j) / 2]? = some s:=⟨_,Eaa (show (i+j) / 2<l.length by omega)⟩
  have hg:(strL l)[(i+j) / 2]? = some [.str s]:=by simp[strL,hs]
  have hiff:=Jel hmo hs;have c1:((i:Int)<(j:Int))=True:=eq_true omg;have c2:=c1;(refine lws ?_;simp only[go_sem,simprocAttr,hh,hg,c1]);(repeat'(first|(apply iteI<;>intro h)|refine Jqj ?_|((refine Jqa (Jh8 s x) ?_);simp only[go_sem,simprocAttr])|fail))
  ·have hlt:=hiff.1 (by assumption);exact ⟨((i+j) / 2+1,j),⟨by simp only;omega,by simp only;omega,by simp only;omega⟩,by simp only;omega,Jqc⟩
  ·have hlt:¬ (i+j) / 2<Cq x l:=fun h=>by have:=hiff.2 h;simp_all
   exact ⟨(i,(i+j) / 2),⟨by simp only;omega,by simp only;omega,by simp only;omega⟩,by simp only;omega,Jqc⟩
 ·have c1:((i:Int)<(j:Int))=False:=eq_false omg;have hij:i=Cq x l:=by omega
  subst hij;have hh:=c1;by_cases hl:Cq x l<l.length
  ·have c2:((Cq x l:Int)<(l.length:Int))=True:=eq_true omg;obtain ⟨s,hs⟩:∃ s,l[Cq x l]? = some s:=⟨_,Eaa hl⟩
   have hg:(strL l)[Cq x l]? = some [.str s]:=by simp[strL,hs]
   have hf:Mo x l=(s == x):=by unfold Mo;rw[hs]
   (refine lws ?_;simp only[go_sem,simprocAttr,hh,hg,c2]);(repeat'(first|(apply iteI<;>intro h)|((refine Jqa (Mt s) ?_);simp only[go_sem,simprocAttr])|fail))
   all_goals simp[hf, *]
  ·have hg:=c1;have c2:((Cq x l:Int)<(l.length:Int))=False:=eq_false omg;have hf:Mo x l=false:=by unfold Mo;rw[Edd omg]
   (refine lws ?_;simp only[go_sem,simprocAttr,hh,c2])
   all_goals exact hf.symm
theorem Jbo {rs:Regs} {d1 o1 n1 d2 o2 n2:Nat} {T1 T2:TypeId} {es1:List (List PV)} {f2:Bool} {es2:List (List L)} (h1:Am d1 rs=some (.row T1 1 es1)) (h2:Am d2 rs=some (.lrow T2 1 f2 es2)) (hne:d1≠d2) (hp1:0<es1.length) (hp2:0<es2.length) :
  Ad cx 180 [.own d1 o1 n1,.own d2 o2 n2] rs (.p (.bool false)) :=
 W9 (X:=cx) func180 kr kr kr (tS:=61) (tR:=4) (e:=9) kr f_s61 h1 h2 hne hp1 hp2
theorem Yh (es:List (List PV)) (n i:Nat) (x:List UInt8) (h:es.length=n) (hi:i<n) (hn:n<=1500000000000) (h1:∀ q∈es,q.length=1):Det cx 143 [.own 1000 0 n,.p (.int .i64 i),.own 1001 0 1] [(1001,.row 9 1 [[.str x]]),(1000,.row 9 1 es)] (.own 900 0 (n+1)) [(900,.row 9 1 (es.take i ++ [[.str x]] ++ es.drop i)),(1001,.row 9 1 [[.str x]])]:=by
 refine Jxz (n+1) ?_;refine Al.sub (Post:=fun m q=>m=.own 900 0 (n+1)/\((∃ r,q=[(900,.row 9 1 (es.take i ++ [[.str x]] ++ es.drop i)),(1001,.row 9 1 [[.str x]]),(1000,r)])\/∃ b ls,q=[(900,.lrow 9 1 b ls),(1001,.row 9 1 [[.str x]])]/\Cb (ls.take (n+1))=some (es.take i ++ [[.str x]] ++ es.drop i))) ?_ (by
  rintro m q ⟨rfl,⟨r,rfl⟩ | ⟨b,ls,rfl,hp⟩⟩
  ·exact ⟨_,((List.nil_sublist _).cons_cons _).cons_cons _,rfl,.inl rfl⟩
  ·exact ⟨_,List.Sublist.refl _,rfl,.inr ⟨b,ls,rfl,hp⟩⟩)
 refine Jua (X:=cx) true [(40,900)] sm func143 kr rfl (by simp only[Ead,Ea8,ntmps143];decide) sm ?_;refine J10 (d:=1000) (T:=9) (es:=es) rfl omg fun k=>?_
 generalize hls:es.map (List.map L.p) ++ List.replicate k [L.junk]=ls;have hll:ls.length=n+k:=by rw[<- hls];simp[h]
 have c1:((i:Int)=(n:Int))=False:=eq_false omg;have hp0:(0<ls.length)=True:=eq_true omg;have hr1:Cb (ls.take i)=some (es.take i):=by rw[<- hls];exact Gd omg
 have w1:IntKind.i64.wrap ((n:Int)+((1:Nat):Int))=((n+1:Nat):Int):=by rw[Aa omg omg];omega
 have w3:IntKind.i64.wrap ((i:Int)+((1:Nat):Int))=((i+1:Nat):Int):=by rw[Aa omg omg];omega
 have c4:(((1:Nat):Int)=0)=False:=by simp
 have c7:((1:Nat)=0)=False:=by simp
 have c6:(n - i=0)=False:=eq_false omg;have e2:List.take (n+1 - i) [[PV.str x]]=[[PV.str x]]:=Eae (by simp;omega);have e3:n+1 - (i+1)=n - i:=by omega
 have e5:(es.drop i).length=n - i:=by simp[h]
 have hr2:Cb ((ls.drop i).take (n - i))=some (es.drop i):=by rw[<- hls,Me omg,Eae (by simp;omega)]
 by_cases hk:k=0
 ·subst hk;have c2:((ls.length:Int)<((n+1:Nat):Int))=True:=eq_true omg;have c3:((n:Int)<((n+1:Nat):Int))=True:=eq_true omg;have w2:IntKind.i64.wrap (((n+1:Nat):Int) - (i:Int))=((n+1 - i:Nat):Int):=by rw[Aa omg omg];omega
  simp only[Nat.add_zero] at hll;have e1:i+(n+1 - i)=n+1:=by omega
  have hT:(es.take i ++ List.replicate (n+1 - i) [PV.str []]).take i=es.take i:=by rw[Ebw (by simp;omega),List.take_take,Nat.min_self]
  have hD:(es.take i ++ List.replicate (n+1 - i) [PV.str []]).drop (i+1)=List.replicate (n - i) [PV.str []]:=by
   rw[List.drop_append,Eao (by simp;omega),List.nil_append,List.drop_replicate];congr 1;simp;omega
  have hF:List.map (fun e=>List.map (L.forget 40) e) ls=ls:=by rw[<- hls];exact Kj (fun _=>rfl) rfl _ _
  have c5:(i+(n - i)<=n)=True:=eq_true omg;have e4:min (n - i) (n - i)=n - i:=Nat.min_self _;have hB:(es.take i ++ [[PV.str x]] ++ List.replicate (n - i) [PV.str []]).take (i+1) ++ es.drop i ++ (es.take i ++ [[PV.str x]] ++ List.replicate (n - i) [PV.str []]).drop (i+1+(n - i))=es.take i ++ [[PV.str x]] ++ es.drop i:=by
   have l1:(es.take i ++ [[PV.str x]]).length=i+1:=by simp;omega
   rw[Ebw omg,Eae (l:=es.take i ++ [[PV.str x]]) omg,Eao (show (es.take i ++ [[PV.str x]] ++ List.replicate (n - i) [PV.str []]).length<=i+1+(n - i) by simp;omega),Eaw]
  have hC:=hB;simp only[ntmps143,results143,go_sem,Nat.reduceLT,Nat.reduceLeDiff,Nat.reduceEqDiff,Nat.reduceAdd,Nat.reduceSub,Nat.reduceMul,Nat.reduceBEq,Int.reduceToNat,Int.reduceLT,Int.reduceLE,Int.reduceEq,Int.reduceAdd,Int.reduceSub,Int.reduceNeg,↓reduceIte,reduceCtorEq,K9,Hf,Kc,Hi,hll,c1,c2,c3,c4,c5,c6,c7,w1,w2,w3,hr1,hr2,hp0,if_true,if_false,Nat.sub_zero,Eb4,e1,e2,e3,e4,e5,hT,hD,hF,hB,hC];(refine lws ?_;simp only[go_sem,Nat.reduceLT,Nat.reduceLeDiff,Nat.reduceEqDiff,↓reduceIte,reduceCtorEq,K9,Hf,Kc,Hi,hll,c1,c3,c4,c7,w1,w2,hr1,Nat.sub_zero,Eb4,e1,e2,hT,hD,hF]);(repeat'(first|(refine And.intro (by first|omega | (simp;done)|(simp;omega)|(intro q hq;exact h1 q (Ea6 hq))|(intro q hq;exact h1 q hq)|(intro q hq;simp at hq;subst hq;rfl)) ?_)|fail));(refine Gi 8 hm kr kr ?_;simp only[go_sem,Nat.reduceLT,Nat.reduceEqDiff,Nat.reduceAdd,↓reduceIte,reduceCtorEq,hll,c5,c6,w3,hr2,e3,e4,e5,hB]);(repeat'(first|(refine And.intro (by first|omega | (simp;done)|(simp;omega)|(intro q hq;exact h1 q (Ea6 hq))|(intro q hq;exact h1 q hq)|(intro q hq;simp at hq;subst hq;rfl)) ?_)|fail));exact .inl ⟨_,rfl⟩
 ·have c2:((ls.length:Int)<((n+1:Nat):Int))=False:=eq_false omg;have c3:(((n+k:Nat):Int)<((n+1:Nat):Int))=False:=eq_false omg;have w2:=c4;have e1:=c4;have hT:=c4;have hD:=c4;have hF:List.map (fun e=>List.map (L.map (Fb 1000 40)) e) ls=ls:=by rw[<- hls];exact Kj (fun _=>rfl) rfl _ _
  have c5:(i+(n+1 - i)<=n+k)=True:=eq_true omg;have e4:min (n+1 - i) (n - i)=n - i:=by omega
  have hB:ls.take (i+1) ++ (es.drop i).map (List.map L.p) ++ ls.drop (i+1+(n - i))=(es.take (i+1) ++ es.drop i).map (List.map L.p) ++ List.replicate (k - 1) [L.junk]:=by
   have:=Z8 (es:=es) (i:=i) (k:=k) omg hk;rw[hls,h] at this;exact this
  have hC:((es.take (i+1) ++ es.drop i).map (List.map L.p) ++ List.replicate (k - 1) [L.junk]).take i ++ [[L.p (.str x)]] ++ ((es.take (i+1) ++ es.drop i).map (List.map L.p) ++ List.replicate (k - 1) [L.junk]).drop (i+1)=(es.take i ++ [[PV.str x]] ++ es.drop i).map (List.map L.p) ++ List.replicate (k - 1) [L.junk]:=Xp (q:=[PV.str x]) omg;simp only[ntmps143,results143,go_sem,Nat.reduceLT,Nat.reduceLeDiff,Nat.reduceEqDiff,Nat.reduceAdd,Nat.reduceSub,Nat.reduceMul,Nat.reduceBEq,Int.reduceToNat,Int.reduceLT,Int.reduceLE,Int.reduceEq,Int.reduceAdd,Int.reduceSub,Int.reduceNeg,↓reduceIte,reduceCtorEq,K9,Hf,Kc,Hi,hll,c1,c2,c3,c4,c5,c6,c7,w1,w2,w3,hr1,hr2,hp0,if_true,if_false,Nat.sub_zero,Eb4,e1,e2,e3,e4,e5,hT,hD,hF,hB,hC];(refine lws ?_;simp only[go_sem,Nat.reduceLT,Nat.reduceEqDiff,↓reduceIte,reduceCtorEq,K9,Hf,Kc,Hi,hll,c1,c3,c4,w1,w3,Nat.sub_zero,e3]);(repeat'(first|(refine And.intro (by first|omega | (simp;done)|(simp;omega)|(intro q hq;exact h1 q (Ea6 hq))|(intro q hq;exact h1 q hq)|(intro q hq;simp at hq;subst hq;rfl)) ?_)|fail));refine Jyr (l:=.p (.bool false)) ?_ ?_
  ·exact Jbo rfl rfl de sm omg
  simp only[go_sem,Nat.reduceLT,↓reduceIte];refine Jqg (B1 [(1000,40)] _ sm) ?_;simp only[go_sem,Nat.reduceEqDiff,↓reduceIte,hF];(refine Gi 8 hm kr kr ?_;simp only[go_sem,Nat.reduceLT,Nat.reduceLeDiff,Nat.reduceEqDiff,Nat.reduceAdd,↓reduceIte,reduceCtorEq,hll,c5,c6,c7,w3,hr2,e2,e3,e4,e5,hB,hC]);(repeat'(first|(refine And.intro (by first|omega | (simp;done)|(simp;omega)|(intro q hq;exact h1 q (Ea6 hq))|(intro q hq;exact h1 q hq)|(intro q hq;simp at hq;subst hq;rfl)) ?_)|fail));rw[Kj (fun _=>rfl) rfl];exact .inr ⟨_,_,rfl,by rw[Gd (by simp;omega),Eae (by simp;omega)]⟩
theorem Jod {rs:Regs} {d1 o1 n1 d2 o2 n2:Nat} {T1 T2:TypeId} {es1:List (List PV)} {f2:Bool} {es2:List (List L)} (h1:Am d1 rs=some (.row T1 1 es1)) (h2:Am d2 rs=some (.lrow T2 1 f2 es2)) (hne:d1≠d2) (hp1:0<es1.length) (hp2:0<es2.length) :
  Ad cx 182 [.own d1 o1 n1,.own d2 o2 n2] rs (.p (.bool false)) :=
 W9 (X:=cx) func182 kr kr kr (tS:=53) (tR:=4) (e:=25) kr f_s53 h1 h2 hne hp1 hp2
theorem Jba (es:List (List PV)) (n i:Nat) (x:PV) (hx:x.scalar=true) (h:es.length=n) (hi:i<n) (hn:n<=1500000000000) (h1:∀ q∈es,q.length=1):Det cx 144 [.own 1000 0 n,.p (.int .i64 i),.own 1001 0 1] [(1001,.row 25 1 [[x]]),(1000,.row 25 1 es)] (.own 900 0 (n+1)) [(900,.row 25 1 (es.take i ++ [[x]] ++ es.drop i)),(1001,.row 25 1 [[x]])]:=by
 refine Jxz (n+1) ?_;refine Al.sub (Post:=fun m q=>m=.own 900 0 (n+1)/\((∃ r,q=[(900,.row 25 1 (es.take i ++ [[x]] ++ es.drop i)),(1001,.row 25 1 [[x]]),(1000,r)])\/∃ b ls,q=[(900,.lrow 25 1 b ls),(1001,.row 25 1 [[x]])]/\Cb (ls.take (n+1))=some (es.take i ++ [[x]] ++ es.drop i))) ?_ (by
  rintro m q ⟨rfl,⟨r,rfl⟩ | ⟨b,ls,rfl,hp⟩⟩
  ·exact ⟨_,((List.nil_sublist _).cons_cons _).cons_cons _,rfl,.inl rfl⟩
  ·exact ⟨_,List.Sublist.refl _,rfl,.inr ⟨b,ls,rfl,hp⟩⟩)
 refine Jua (X:=cx) true [(40,900)] sm func144 kr rfl (by simp only[Ead,Ea8,ntmps144];decide) sm ?_;refine J10 (d:=1000) (T:=25) (es:=es) rfl omg fun k=>?_
 generalize hls:es.map (List.map L.p) ++ List.replicate k [L.junk]=ls;have hll:ls.length=n+k:=by rw[<- hls];simp[h]
 have c1:((i:Int)=(n:Int))=False:=eq_false omg;have hp0:(0<ls.length)=True:=eq_true omg;have hr1:Cb (ls.take i)=some (es.take i):=by rw[<- hls];exact Gd omg
 have w1:IntKind.i64.wrap ((n:Int)+((1:Nat):Int))=((n+1:Nat):Int):=by rw[Aa omg omg];omega
 have w3:IntKind.i64.wrap ((i:Int)+((1:Nat):Int))=((i+1:Nat):Int):=by rw[Aa omg omg];omega
 have c4:(((1:Nat):Int)=0)=False:=by simp
 have c7:((1:Nat)=0)=False:=by simp
 have c6:(n - i=0)=False:=eq_false omg;have e2:List.take (n+1 - i) [[x]]=[[x]]:=Eae (by simp;omega);have e3:n+1 - (i+1)=n - i:=by omega
 have e5:(es.drop i).length=n - i:=by simp[h]
 have hr2:Cb ((ls.drop i).take (n - i))=some (es.drop i):=by rw[<- hls,Me omg,Eae (by simp;omega)]
 by_cases hk:k=0
 ·subst hk;have c2:((ls.length:Int)<((n+1:Nat):Int))=True:=eq_true omg;have c3:((n:Int)<((n+1:Nat):Int))=True:=eq_true omg;have w2:IntKind.i64.wrap (((n+1:Nat):Int) - (i:Int))=((n+1 - i:Nat):Int):=by rw[Aa omg omg];omega
  simp only[Nat.add_zero] at hll;have e1:i+(n+1 - i)=n+1:=by omega
  have hT:(es.take i ++ List.replicate (n+1 - i) [PV.snil]).take i=es.take i:=by rw[Ebw (by simp;omega),List.take_take,Nat.min_self]
  have hD:(es.take i ++ List.replicate (n+1 - i) [PV.snil]).drop (i+1)=List.replicate (n - i) [PV.snil]:=by
   rw[List.drop_append,Eao (by simp;omega),List.nil_append,List.drop_replicate];congr 1;simp;omega
  have hF:List.map (fun e=>List.map (L.forget 40) e) ls=ls:=by rw[<- hls];exact Kj (fun _=>rfl) rfl _ _
  have c5:(i+(n - i)<=n)=True:=eq_true omg;have e4:min (n - i) (n - i)=n - i:=Nat.min_self _;have hB:(es.take i ++ [[x]] ++ List.replicate (n - i) [PV.snil]).take (i+1) ++ es.drop i ++ (es.take i ++ [[x]] ++ List.replicate (n - i) [PV.snil]).drop (i+1+(n - i))=es.take i ++ [[x]] ++ es.drop i:=by
   have l1:(es.take i ++ [[x]]).length=i+1:=by simp;omega
   rw[Ebw omg,Eae (l:=es.take i ++ [[x]]) omg,Eao (show (es.take i ++ [[x]] ++ List.replicate (n - i) [PV.snil]).length<=i+1+(n - i) by simp;omega),Eaw]
  have hC:=hB;simp only[ntmps144,results144,go_sem,Nat.reduceLT,Nat.reduceLeDiff,Nat.reduceEqDiff,Nat.reduceAdd,Nat.reduceSub,Nat.reduceMul,Nat.reduceBEq,Int.reduceToNat,Int.reduceLT,Int.reduceLE,Int.reduceEq,Int.reduceAdd,Int.reduceSub,Int.reduceNeg,↓reduceIte,reduceCtorEq,K9,Hf,Kc,Hi,hll,c1,c2,c3,c4,c5,c6,c7,w1,w2,w3,hr1,hr2,hp0,if_true,if_false,Nat.sub_zero,Eb4,e1,e2,e3,e4,e5,hT,hD,hF,hB,hC];(refine lws ?_;simp only[go_sem,Nat.reduceLT,Nat.reduceLeDiff,Nat.reduceEqDiff,↓reduceIte,reduceCtorEq,K9,Hf,Kc,Hi,hll,c1,c3,c4,c7,w1,w2,hr1,Nat.sub_zero,Eb4,e1,e2,hT,hD,hF]);(repeat'(first|(refine And.intro (by first|omega | (simp;done)|(simp;omega)|(intro q hq;exact h1 q (Ea6 hq))|(intro q hq;exact h1 q hq)|(intro q hq;simp at hq;subst hq;rfl)) ?_)|fail));(refine Gi 8 hm kr kr ?_;simp only[go_sem,Nat.reduceLT,Nat.reduceEqDiff,Nat.reduceAdd,↓reduceIte,reduceCtorEq,hll,c5,c6,w3,hr2,e3,e4,e5,hB]);(repeat'(first|(refine And.intro (by first|omega | (simp;done)|(simp;omega)|(intro q hq;exact h1 q (Ea6 hq))|(intro q hq;exact h1 q hq)|(intro q hq;simp at hq;subst hq;rfl)) ?_)|fail));exact .inl ⟨_,rfl⟩
 ·have c2:((ls.length:Int)<((n+1:Nat):Int))=False:=eq_false omg;have c3:(((n+k:Nat):Int)<((n+1:Nat):Int))=False:=eq_false omg;have w2:=c4;have e1:=c4;have hT:=c4;have hD:=c4;have hF:List.map (fun e=>List.map (L.map (Fb 1000 40)) e) ls=ls:=by rw[<- hls];exact Kj (fun _=>rfl) rfl _ _
  have c5:(i+(n+1 - i)<=n+k)=True:=eq_true omg;have e4:min (n+1 - i) (n - i)=n - i:=by omega
  have hB:ls.take (i+1) ++ (es.drop i).map (List.map L.p) ++ ls.drop (i+1+(n - i))=(es.take (i+1) ++ es.drop i).map (List.map L.p) ++ List.replicate (k - 1) [L.junk]:=by
   have:=Z8 (es:=es) (i:=i) (k:=k) omg hk;rw[hls,h] at this;exact this
  have hC:((es.take (i+1) ++ es.drop i).map (List.map L.p) ++ List.replicate (k - 1) [L.junk]).take i ++ [[L.p x]] ++ ((es.take (i+1) ++ es.drop i).map (List.map L.p) ++ List.replicate (k - 1) [L.junk]).drop (i+1)=(es.take i ++ [[x]] ++ es.drop i).map (List.map L.p) ++ List.replicate (k - 1) [L.junk]:=Xp (q:=[x]) omg;simp only[ntmps144,results144,go_sem,Nat.reduceLT,Nat.reduceLeDiff,Nat.reduceEqDiff,Nat.reduceAdd,Nat.reduceSub,Nat.reduceMul,Nat.reduceBEq,Int.reduceToNat,Int.reduceLT,Int.reduceLE,Int.reduceEq,Int.reduceAdd,Int.reduceSub,Int.reduceNeg,↓reduceIte,reduceCtorEq,K9,Hf,Kc,Hi,hll,c1,c2,c3,c4,c5,c6,c7,w1,w2,w3,hr1,hr2,hp0,if_true,if_false,Nat.sub_zero,Eb4,e1,e2,e3,e4,e5,hT,hD,hF,hB,hC];(refine lws ?_;simp only[go_sem,Nat.reduceLT,Nat.reduceEqDiff,↓reduceIte,reduceCtorEq,K9,Hf,Kc,Hi,hll,c1,c3,c4,w1,w3,Nat.sub_zero,e3]);(repeat'(first|(refine And.intro (by first|omega | (simp;done)|(simp;omega)|(intro q hq;exact h1 q (Ea6 hq))|(intro q hq;exact h1 q hq)|(intro q hq;simp at hq;subst hq;rfl)) ?_)|fail));refine Jyr (l:=.p (.bool false)) ?_ ?_
  ·exact Jod rfl rfl de sm omg
  simp only[go_sem,Nat.reduceLT,↓reduceIte];refine Jqg (B1 [(1000,40)] _ sm) ?_;simp only[go_sem,Nat.reduceEqDiff,↓reduceIte,hF];(refine Gi 8 hm kr kr ?_;simp only[go_sem,Nat.reduceLT,Nat.reduceLeDiff,Nat.reduceEqDiff,Nat.reduceAdd,↓reduceIte,reduceCtorEq,hll,c5,c6,c7,w3,hr2,e2,e3,e4,e5,hB,hC]);(repeat'(first|(refine And.intro (by first|omega | (simp;done)|(simp;omega)|(intro q hq;exact h1 q (Ea6 hq))|(intro q hq;exact h1 q hq)|(intro q hq;simp at hq;subst hq;rfl)) ?_)|fail));rw[Kj (fun _=>rfl) rfl];exact .inr ⟨_,_,rfl,by rw[Gd (by simp;omega),Eae (by simp;omega)]⟩
end Go.LX
namespace Go.LX
open Go
theorem E0:∀ a:List UInt8,Op.bytesLess a a=false
 | []=>rfl
 | x :: a=>by simp[Op.bytesLess,E0 a]
theorem H8:∀ {a b c:List UInt8},Op.bytesLess a b=true->Op.bytesLess b c=true->Op.bytesLess a c=true
 | _,[],_,h,_=>by simp[Op.bytesLess] at h
 | _,_ :: _,[],_,h=>by simp[Op.bytesLess] at h
 | [],_ :: _,_ :: _,_,_=>rfl
 | x :: a,y :: b,z :: c,h1,h2=>by
  simp only[Op.bytesLess,Ecf,decide_eq_true_eq,Ebb,beq_iff_eq] at h1 h2 ⊢;rcases h1 with h1 | ⟨rfl,h1⟩
  ·rcases h2 with h2 | ⟨rfl,h2⟩
   ·exact .inl (UInt8.lt_trans h1 h2)
   ·exact .inl h1
  ·rcases h2 with h2 | ⟨rfl,h2⟩
   ·exact .inl h2
   ·exact .inr ⟨rfl,H8 h1 h2⟩
theorem L3 {a b:List UInt8} (h:Op.bytesLess a b=true):Op.bytesLess b a=false:=by
 cases h':Op.bytesLess b a with
 | false=>rfl
 | true=>have:=H8 h h';rw[E0] at this;cases this
theorem bl_ne {a b:List UInt8} (h:Op.bytesLess a b=true):a≠b:=by
 rintro rfl;rw[E0] at h;cases h
theorem Qf:∀ {a b:List UInt8},Op.bytesLess a b=false->a≠b->Op.bytesLess b a=true
 | [],[],_,h=>absurd rfl h
 | [],_ :: _,h,_=>by simp[Op.bytesLess] at h
 | _ :: _,[],_,_=>rfl
 | x :: a,y :: b,h1,h2=>by
  simp only[Op.bytesLess,Bool.or_eq_false_iff,decide_eq_false_iff_not,Bool.and_eq_false_imp,beq_iff_eq] at h1;simp only[Op.bytesLess,Ecf,decide_eq_true_eq,Ebb,beq_iff_eq];obtain ⟨h3,h4⟩:=h1;by_cases hxy:x=y
  ·subst hxy;exact .inr ⟨rfl,Qf (h4 rfl) (by rintro rfl;exact h2 rfl)⟩
  ·left;rcases UInt8.lt_or_lt_of_ne hxy with h | h
   ·exact absurd h h3
   ·exact h
def nle (a b:List UInt8):Prop:=Op.bytesLess b a=false
theorem Jg7 {a b c:List UInt8} (h1:nle a b) (h2:nle b c):nle a c:=by
 unfold nle at *
 cases h:Op.bytesLess c a with
 | false=>rfl
 | true =>
  by_cases e:b=c
  ·subst e;rw[h1] at h;cases h
  ·have h3:=Qf h2 (Ne.symm e);have:=H8 h3 h;rw[h1] at this;cases this
abbrev KT:=List UInt8×Tree
def Rise (l:List KT):Prop:=l.Pairwise fun a b=>Op.bytesLess a.1 b.1=true
theorem Rise.tail {p:KT} {l:List KT} (h:Rise (p :: l)):Rise l:=(Ebf.1 h).2
theorem Rise.nodup {l:List KT} (h:Rise l):(l.map (·.1)).Nodup:=by
 unfold List.Nodup;rw[Ecu];exact List.Pairwise.imp (fun h=>bl_ne h) h
def putL (name:List UInt8) (t:Tree):List KT->List KT
 | []=>[(name,t)]
 | p :: l=>if Op.bytesLess p.1 name=true then p :: putL name t l else (name,t) :: p :: l
theorem Hv (name:List UInt8) (t:Tree):∀ l,(putL name t l).Perm ((name,t) :: l)
 | []=>.refl _
 | p :: l=>by
  unfold putL;split
  ·exact ((Hv name t l).cons p).trans (.swap _ _ _)
  ·exact .refl _
theorem Jjz {name:List UInt8} {t:Tree} {l:List KT} {q:KT}:q∈putL name t l ↔ q=(name,t)\/q∈l:=by
 rw[(Hv name t l).mem_iff,Eak]
theorem Lz (name:List UInt8) (t:Tree) (l:List KT):(putL name t l).length=l.length+1:=by
 rw[(Hv name t l).length_eq];rfl
theorem Kh {name:List UInt8} {t:Tree}:∀ {l:List KT},Rise l->(∀ p∈l,p.1≠name)->Rise (putL name t l)
 | [],_,_=>List.pairwise_singleton _ _
 | p :: l,h,hn=>by
  unfold putL;obtain ⟨h1,h2⟩:=Ebf.1 h;split
  ·rename_i hlt;refine Ebf.2 ⟨fun q hq=>?_,Kh h2 fun q hq=>hn q (Eai _ hq)⟩;rcases Jjz.1 hq with rfl | hq
   ·exact hlt
   ·exact h1 q hq
  ·rename_i hlt;have h3:=Qf (a:=p.1) (b:=name) (by simpa using hlt) (hn p Eaf);refine Ebf.2 ⟨fun q hq=>?_,h⟩;rcases Eak.1 hq with rfl | hq
   ·exact h3
   ·exact H8 h3 (h1 q hq)
theorem Jy:∀ {a b:List KT},Rise a->Rise b->a.Perm b->a=b
 | [],b,_,_,h=>(List.nil_perm.1 h).symm
 | p :: a,[],_,_,h=>by simp at h
 | p :: a,q :: b,h1,h2,h=>by
  obtain ⟨g1,g2⟩:=Ebf.1 h1;obtain ⟨k1,k2⟩:=Ebf.1 h2;have e:p=q:=by
   have m1:p∈q :: b:=h.mem_iff.1 Eaf;have m2:q∈p :: a:=h.mem_iff.2 Eaf;rcases Eak.1 m1 with e | m1
   ·exact e
   ·rcases Eak.1 m2 with e | m2
    ·exact e.symm
    ·have:=L3 (g1 q m2);rw[k1 p m1] at this;cases this
  subst e;rw[Jy g2 k2 (List.Perm.cons_inv h)]
def Lp:List KT->List KT
 | []=>[]
 | p :: l=>putL p.1 p.2 (Lp l)
theorem E3:∀ l,(Lp l).Perm l
 | []=>.refl _
 | p :: l=>(Hv _ _ _).trans ((E3 l).cons p)
theorem Jj:∀ {l:List KT},(l.map (·.1)).Nodup->Rise (Lp l)
 | [],_=>.nil
 | p :: l,h=>by
  rw[Eaq,Eb5] at h;refine Kh (Jj h.2) fun q hq e=>h.1 ?_
  rw[<- e];exact List.mem_map_of_mem ((E3 l).mem_iff.1 hq)
theorem Jw0 {l:List KT} (h:Rise l):Lp l=l:=Jy (Jj h.nodup) h (E3 l)
def Kj9:List Bool->List KT->List KT
 | b :: D,p :: l=>if b=true then Kj9 D l else p :: Kj9 D l
 | _,_=>[]
def cntT:List Bool->Nat
 | []=>0
 | b :: D=>if b=true then cntT D+1 else cntT D
theorem Jdj:∀ D,cntT D<=D.length
 | []=>Eah _
 | b :: D=>by have:=Jdj D;simp only[cntT,Ead];split<;>omega
theorem Ya:∀ {D:List Bool} {b:Nat},D[b]? = some false->cntT (D.set b true)=cntT D+1
 | [],b,h=>by simp at h
 | x :: D,0,h=>by simp at h;subst h;simp[cntT]
 | x :: D,b+1,h=>by
  simp only[List.set_cons_succ,cntT,Ya (D:=D) (b:=b) (by simpa using h)];split<;>rfl
theorem Y8:∀ {D:List Bool},(∀ j,j<D.length->D[j]? = some true)->cntT D=D.length
 | [],_=>rfl
 | x :: D,h=>by
  have h0:=h 0 sm;simp at h0;subst h0;simp only[cntT,if_true,Ead];rw[Y8 fun j hj=>by simpa using h (j+1) (by simp;omega)]
theorem Rn:∀ {D:List Bool} {l:List KT},cntT D=D.length->Kj9 D l=[]
 | [],_,_=>rfl
 | x :: D,[],_=>rfl
 | x :: D,p :: l,h=>by
  have:=Jdj D;cases x
  ·simp[cntT] at h;omega
  ·simp[cntT] at h;simp only[Kj9,if_true];exact Rn h
theorem R1:∀ l:List KT,Kj9 (List.replicate l.length false) l=l
 | []=>rfl
 | p :: l=>by simp only[Ead,List.replicate_succ,Kj9,Eb0,if_false,R1 l]
theorem Tn:∀ n,cntT (List.replicate n false)=0
 | 0=>rfl
 | n+1=>by simp[List.replicate_succ,cntT,Tn n]
theorem Nf:∀ {D:List Bool} {l:List KT} {p:KT},p∈Kj9 D l->∃ j:Nat,l[j]? = some p/\D[j]? = some false
 | [],_,p,h=>by simp[Kj9] at h
 | x :: D,[],p,h=>by simp[Kj9] at h
 | x :: D,q :: l,p,h=>by
  unfold Kj9 at h;split at h
  ·obtain ⟨j,h1,h2⟩:=Nf h;exact ⟨j+1,by simpa using h1,by simpa using h2⟩
  ·rename_i hx;rcases Eak.1 h with rfl | h
   ·exact ⟨0,rfl,by simpa using hx⟩
   ·obtain ⟨j,h1,h2⟩:=Nf h;exact ⟨j+1,by simpa using h1,by simpa using h2⟩
theorem Ol:∀ {D:List Bool} {l:List KT} {p:KT} {j:Nat},l[j]? = some p->D[j]? = some false->p∈Kj9 D l
 | [],_,_,_,_,h=>by simp at h
 | _ :: _,[],_,_,h,_=>by simp at h
 | x :: D,q :: l,p,0,h,h'=>by
  simp at h h';subst h;subst h';simp[Kj9]
 | x :: D,q :: l,p,j+1,h,h'=>by
  have:=Ol (D:=D) (l:=l) (j:=j) (by simpa using h) (by simpa using h');unfold Kj9;split
  ·exact this
  ·exact Eai _ this
theorem Qi:∀ {D:List Bool} {l:List KT} {p:KT} {j:Nat},l[j]? = some p->D[j]? = some false->(Kj9 D l).Perm (p :: Kj9 (D.set j true) l)
 | [],_,_,_,_,h=>by simp at h
 | _ :: _,[],_,_,h,_=>by simp at h
 | x :: D,q :: l,p,0,h,h'=>by
  simp at h h';subst h;subst h';simp[Kj9]
 | x :: D,q :: l,p,j+1,h,h'=>by
  have:=Qi (D:=D) (l:=l) (j:=j) (by simpa using h) (by simpa using h');simp only[List.set_cons_succ,Kj9];split
  ·exact this
  ·exact (this.cons q).trans (.swap _ _ _)
structure Picks (l S:List KT) (D:List Bool):Prop where
 len:D.length=l.length
 cnt:cntT D=S.length
 perm:(S ++ Kj9 D l).Perm l
 rise:Rise S
 low:∀ s∈S,∀ p∈Kj9 D l,nle s.1 p.1
theorem J6n (l:List KT):Picks l [] (List.replicate l.length false) :=
 ⟨by simp,Tn _,by rw[List.nil_append,R1],.nil,by simp⟩
theorem Picks.done {l S:List KT} {D:List Bool} (h:Picks l S D) (hn:S.length=l.length):S.Perm l:=by
 have:=h.perm;rw[Rn (by rw[h.cnt,hn,h.len]),Eaw] at this;exact this
theorem Picks.next {l S:List KT} {D:List Bool} (h:Picks l S D) {b:Nat} {p:KT} (hp:l[b]? = some p) (hb:D[b]? = some false) (hm:∀ (j:Nat) (q:KT),l[j]? = some q->D[j]? = some false->nle p.1 q.1) (hl:∀ q,S.getLast? = some q->q.1≠p.1):Picks l (S ++ [p]) (D.set b true):=by
 have hpr:=Ol hp hb;have ht:=Qi hp hb;refine ⟨by simp[h.len],by rw[Ya hb,h.cnt];simp,?_,?_,?_⟩
 ·rw[Ea2];exact ((List.Perm.append_left S ht.symm)).trans h.perm
 ·refine Eci.2 ⟨h.rise,List.pairwise_singleton _ _,fun s hs q hq=>?_⟩;rw[Ea0] at hq;subst hq;have h1:=h.low s hs q hpr;by_cases e:s.1=q.1
  ·exfalso;obtain ⟨S',z,rfl⟩:∃ S' z,S=S' ++ [z]:=by
    rcases List.eq_nil_or_concat S with rfl | ⟨S',z,rfl⟩
    ·cases hs
    ·exact ⟨S',z,by simp⟩
   have hz:=hl z sm;have h2:=h.low z sm q hpr;have h3:=Qf (a:=q.1) (b:=z.1) h2 (Ne.symm hz);rcases Eax.1 hs with hs | hs
   ·have h4:=(Eci.1 h.rise).2.2 s hs z sm;rw[e] at h4;have:=L3 h4;rw[h3] at this;cases this
   ·rw[Ea0] at hs;subst hs;exact hz e
  ·exact Qf (a:=q.1) (b:=s.1) h1 (Ne.symm e)
 ·intro s hs q hq;have hq':q∈Kj9 D l:=ht.mem_iff.2 (Eai _ hq);rcases Eax.1 hs with hs | hs
  ·exact h.low s hs q hq'
  ·rw[Ea0] at hs;subst hs;obtain ⟨j,h1,h2⟩:=Nf hq';exact hm j q h1 h2
theorem Picks.twice {l S:List KT} {D:List Bool} (h:Picks l S D) {b:Nat} {p q:KT} (hp:l[b]? = some p) (hb:D[b]? = some false) (hl:S.getLast? = some q) (he:q.1=p.1):¬ (l.map (·.1)).Nodup:=by
 intro hn;have h1:=(h.perm.map (·.1)).nodup_iff.2 hn;rw[Ebm,Eck] at h1;exact h1.2.2 q.1 (List.mem_map_of_mem (List.mem_of_getLast? hl)) p.1 (List.mem_map_of_mem (Ol hp hb)) he
end Go.LX
namespace Go.LX
open Go Go.RowKit Go.Proofs Go.Proofs.Tryz
attribute [local irreducible] Al SWP Bi
theorem Se (es:List (List PV)) (n i:Nat) (x:List UInt8) (h:es.length=n) (hi:i<=n) (hn:n<=1500000000000) (h1:∀ q∈es,q.length=1):Det cx 143 [.own 1000 0 n,.p (.int .i64 i),.own 1001 0 1] [(1001,.row 9 1 [[.str x]]),(1000,.row 9 1 es)] (.own 900 0 (n+1)) [(900,.row 9 1 (es.take i ++ [[.str x]] ++ es.drop i)),(1001,.row 9 1 [[.str x]])]:=by
 by_cases h2:i<n
 ·exact Yh es n i x h h2 hn h1
 ·obtain rfl:i=n:=by omega
  have:=Qn es i x h hn;rw[Eae omg,Eao omg,Eaw];exact this
theorem Ss (es:List (List PV)) (n i:Nat) (x:PV) (hx:x.scalar=true) (h:es.length=n) (hi:i<=n) (hn:n<=1500000000000) (h1:∀ q∈es,q.length=1):Det cx 144 [.own 1000 0 n,.p (.int .i64 i),.own 1001 0 1] [(1001,.row 25 1 [[x]]),(1000,.row 25 1 es)] (.own 900 0 (n+1)) [(900,.row 25 1 (es.take i ++ [[x]] ++ es.drop i)),(1001,.row 25 1 [[x]])]:=by
 by_cases h2:i<n
 ·exact Jba es n i x hx h h2 hn h1
 ·obtain rfl:i=n:=by omega
  have:=S0 es i x hx h hn;rw[Eae omg,Eao omg,Eaw];exact this
theorem Vn (name:List UInt8) (t:Tree):∀ l:List KT,putL name t l=l.take (Cq name (l.map (·.1))) ++ [(name,t)] ++ l.drop (Cq name (l.map (·.1)))
 | []=>rfl
 | p :: l=>by
  simp only[putL,Eaq,Cq];split
  ·rw[Vn name t l];rfl
  ·rfl
theorem U8 {name:List UInt8} {l:List KT} (h:Rise l):Mono name (l.map (·.1)):=by
 intro i j s t hij hi hj hlt;rw[Eam] at hi hj;obtain ⟨p,hp,rfl⟩:=Eal.1 hi;obtain ⟨q,hq,rfl⟩:=Eal.1 hj;rcases Nat.lt_or_eq_of_le hij with h2 | rfl
 ·obtain ⟨hp1,rfl⟩:=Eab.1 hp;obtain ⟨hq1,rfl⟩:=Eab.1 hq;exact H8 (List.pairwise_iff_getElem.1 h i j hp1 hq1 h2) hlt
 ·rw[hp] at hq;cases hq;exact hlt
theorem Jco (l:List KT):Bd l=strL (l.map (·.1)):=by simp[Bd,strL]
theorem N8 (name:List UInt8):∀ l:List KT,(A8 name l).Sublist l
 | []=>.slnil
 | p :: l=>by
  simp only[A8];split
  ·exact (N8 name l).cons _
  ·exact (N8 name l).cons_cons _
theorem Rise.kept {l:List KT} (h:Rise l) (name:List UInt8):Rise (A8 name l):=List.Pairwise.sublist (N8 name l) h
theorem Iv (name:List UInt8) (t:Tree):∀ l:List KT,(A1 (putL name t l)).enc.length=(A1 l).enc.length+(t.enc []).length
 | []=>by simp only[putL,A1,A0,Bl,Eac,Ea8,G7 t name];omega
 | p :: l=>by
  unfold putL;split
  ·simp only[A1,A0,Eac,Iv name t l];omega
  ·simp only[A1,A0,Eac,G7 t name];omega
theorem Kel (nm:List UInt8) (s:List UInt8) (g:Bool) (e:Int) (kids:Forest) (name:List UInt8) (t:Tree) (hv:kids.enc.length<=600000000000) (ht:(t.enc []).length<=600000000000) (hr:Rise (A8 name kids.list)):Det cx 93 [.p (.sl (valL ((Tree.mk 6 s g e kids).enc nm))),.p (.str name),.p (.sl (valL (t.enc [])))] [] (.p (.sl (valL ((Tree.mk 6 [] false 0 (A1 (putL name t (A8 name kids.list)))).enc [])))) []:=by
 have hw:=Jfw nm s g e kids name omg;have hkl:=El name kids;have hfl:=Jqi (A1 (A8 name kids.list));rw[Ca] at hfl;generalize hK:A8 name kids.list=K at *
 have hp:=Jc9 [] 6 [] false 0 (A1 K) omg;have hnm:=Jnc [] [] false 0 (A1 K) omg;rw[Hd,Ca] at hp hnm;have hb:=Jmd name (K.map (·.1)) (U8 hr) (by simp;omega);rw[<- Jco,Ea1] at hb;have hbl:=Qt name (K.map (·.1));rw[Ea1] at hbl;have i1:=Se (Bd K) K.length (Cq name (K.map (·.1))) name (A9 K) hbl omg (by intro q hq;obtain ⟨p,_,rfl⟩:=Eap.1 hq;rfl);have i2:=Ss (A4 K) K.length (Cq name (K.map (·.1))) (.sl (valL (t.enc []))) rfl (A5 K) hbl omg (by intro q hq;obtain ⟨p,_,rfl⟩:=Eap.1 hq;rfl);have e1:(Bd K).take (Cq name (K.map (·.1))) ++ [[PV.str name]] ++ (Bd K).drop (Cq name (K.map (·.1)))=Bd (putL name t K):=by
  rw[Vn];simp[Bd,Ec3,Ec2]
 have e2:(A4 K).take (Cq name (K.map (·.1))) ++ [[PV.sl (valL (t.enc []))]] ++ (A4 K).drop (Cq name (K.map (·.1)))=A4 (putL name t K):=by
  rw[Vn];simp[A4,Ec3,Ec2]
 rw[e1] at i1;rw[e2] at i2;have hla:=Jkg (putL name t K) (by rw[Iv];omega);have l1:(K.length+1<=(Bd (putL name t K)).length)=True:=eq_true (by rw[A9,Lz];omega);have l2:(K.length+1<=(A4 (putL name t K)).length)=True:=eq_true (by rw[A5,Lz];omega);have t1:(Bd (putL name t K)).take (K.length+1)=Bd (putL name t K):=Eae (by rw[A9,Lz];omega);have t2:(A4 (putL name t K)).take (K.length+1)=A4 (putL name t K):=Eae (by rw[A5,Lz];omega);(refine bgo func93 ?_;simp only[go_sem,simprocAttr]);(repeat'(first|((first|refine Jqa hw ?_|refine Jqa hp ?_|refine Jqa hnm ?_|refine Jqa hb ?_|refine Jqa i1 ?_|refine Jqa i2 ?_|refine Jqa hla ?_);simp only[go_sem,simprocAttr,l1,l2,t1,t2])|fail))
open Classical in
noncomputable def M3 (l:List KT):Bool:=decide ((∀ p∈l,valid p.1=true)/\(l.map (·.1)).Nodup)
noncomputable def objR (l:List KT):L:=if M3 l=true then .tup [.sl (valL ((Tree.mk 6 [] false 0 (A1 (Lp l))).enc [])),.int .i64 0] else .tup [.snil,.int .i64 4]
def J7 (D:List Bool):List (List PV):=D.map fun b=>[.bool b]
theorem Hm {a b:List KT} (h:a.Perm b):(A1 a).enc.length=(A1 b).enc.length:=by
 induction h with
 | nil=>rfl
 | cons x _ ih=>simp only[A1,A0,Eac,ih]
 | swap x y l=>simp only[A1,A0,Eac];omega
 | trans _ _ h1 h2=>exact h1.trans h2
theorem Zc (l:List KT) (hv:(A1 l).enc.length<=1350000000000) (hs:∀ p∈l,p.1.length<=1000000):Det cx 34 [.p (.sl (Bd l)),.p (.sl (A4 l))] [] (objR l) []:=by
 have hll:=Jqi (A1 l);rw[Ca] at hll;have rep:List.replicate l.length [PV.bool false]=J7 (List.replicate l.length false):=by simp[J7]
 have cz:((0:Int)<=(l.length:Int))=True:=eq_true omg;(refine bgo func34 ?_;simp only[go_sem,simprocAttr,A9,A5,rep,cz]);(repeat'(first|refine Jqj ?_|fail));refine Jqg (B1 [(16,86),(17,93)] _ sm) ?_;simp only[go_sem,simprocAttr];refine SWP.loop (fun x:List KT×List Bool=>⟨Ba 97 [(0,.p (.sl (Bd l))),(1,.p (.sl (A4 l))),(6,.own 86 0 x.1.length),(7,.own 93 0 x.1.length),(8,.own 20 0 l.length)],[(20,.row 4 1 (J7 x.2)),(93,.row 25 1 (A4 x.1)),(86,.row 9 1 (Bd x.1))]⟩) (fun x=>Picks l x.1 x.2/\(∀ p∈x.1,valid p.1=true)/\x.1.length<=l.length) (fun x=>l.length - x.1.length) ([],List.replicate l.length false) Jqc ⟨J6n l,by simp,Eau _⟩ ?_;rintro ⟨S,D⟩ ⟨hP,hV,hS⟩;simp only at hP hV hS;have hDl:=hP.len;by_cases hlt:¬ S.length<l.length
 ·have c1:((S.length:Int)<(l.length:Int))=False:=eq_false omg;have hSl:S.length=l.length:=by omega
  have hPm:=hP.done hSl;have hOK:M3 l=true:=by
   unfold M3;rw[decide_eq_true_eq];exact ⟨fun p hp=>hV p (hPm.mem_iff.2 hp),(hPm.map (·.1)).nodup_iff.1 hP.rise.nodup⟩
  have hso:Lp l=S:=Jy (Jj ((hPm.map (·.1)).nodup_iff.1 hP.rise.nodup)) hP.rise ((E3 l).trans hPm.symm);have tn:(Bd S).take S.length=Bd S:=Eae (by rw[A9];omega);have tp:(A4 S).take S.length=A4 S:=Eae (by rw[A5];omega);have ln:(S.length<=S.length)=True:=eq_true (Eah _);have lp:=ln;(refine lws ?_;simp only[go_sem,simprocAttr,A9,A5,c1,tn,tp,ln]);(repeat'(first|((refine Jqa (Iy S (by rw[Hm hPm];omega)) ?_);simp only[go_sem,simprocAttr])|fail));unfold objR;rw[if_pos hOK,hso]
 ·have hlt:=Ea9.1 hlt;have c1:((S.length:Int)<(l.length:Int))=True:=eq_true omg;have tn:=c1;have tp:=c1;have ln:=c1;have lp:=c1;(refine lws ?_;simp only[go_sem,simprocAttr,A9,c1]);refine SWP.loop (fun x:Nat×Int=>⟨Ba 97 [(0,.p (.sl (Bd l))),(1,.p (.sl (A4 l))),(6,.own 86 0 S.length),(7,.own 93 0 S.length),(8,.own 20 0 l.length),(9,.p (.int .i64 x.2)),(10,.p (.int .i64 x.1))],[(20,.row 4 1 (J7 D)),(93,.row 25 1 (A4 S)),(86,.row 9 1 (Bd S))]⟩) (fun x=>x.1<=l.length/\((x.2 = -1/\∀ j,j<x.1->D[j]? = some true)\/∃ b:Nat,x.2=b/\b<x.1/\D[b]? = some false/\∃ p,l[b]? = some p/\∀ (j:Nat) (q:KT),j<x.1->l[j]? = some q->D[j]? = some false->nle p.1 q.1)) (fun x=>l.length - x.1) (0,-1) Jqc ⟨Eau _,.inl ⟨rfl,fun j h=>by omega⟩⟩ ?_;rintro ⟨i,z⟩ ⟨hi,hz⟩;simp only at hi hz;by_cases hin:¬ i<l.length
  ·have c2:((i:Int)<(l.length:Int))=False:=eq_false omg;obtain rfl:i=l.length:=by omega
   rcases hz with ⟨_,hz⟩ | ⟨b,rfl,hb,hDb,p,hp,hm'⟩
   ·have:=Y8 (D:=D) (fun j hj=>hz j omg);have:=hP.cnt;omega
   ·have hgn:(Bd l)[b]? = some [.str p.1]:=by simp[Bd,hp]
    have hgp:(A4 l)[b]? = some [.sl (valL (p.2.enc []))]:=by simp[A4,hp]
    have hgD:(J7 D)[b]? = some [.bool false]:=by simp[J7,hDb]
    have hmm:∀ (j:Nat) (q:KT),l[j]? = some q->D[j]? = some false->nle p.1 q.1:=fun j q h1 h2=>hm' j q (Eab.1 h1).1 h1 h2
    have hpm:=Eag hp;have hbs:(J7 D).set b [.bool true]=J7 (D.set b true):=by simp[J7,Edt]
    have hpn:∀ (S:List KT),Bd S ++ [[.str p.1]]=Bd (S ++ [p]):=fun S=>by simp[Bd]
    have hpp:∀ (S:List KT),A4 S ++ [[.sl (valL (p.2.enc []))]]=A4 (S ++ [p]):=fun S=>by simp[A4]
    have w1:IntKind.i64.wrap ((S.length:Int) - 1)=(S.length:Int) - 1:=Aa omg omg;cases hvp:valid p.1 with
    | false =>
     have hOK:M3 l=false:=by
      unfold M3;rw[decide_eq_false_iff_not];rintro ⟨h,_⟩;rw[h p hpm] at hvp;cases hvp
     have hgl:=c2;have hgl2:=c2;have c8:=c2;have hbq:=c2;(refine lws ?_;simp only[go_sem,simprocAttr,A9,c2]);refine Ah hm (by rfl) kr ?_;simp only[go_sem,simprocAttr,hgn];refine Jqb (Cn p.1 (hs p hpm)) ?_;simp only[go_sem,simprocAttr,hvp];unfold objR;rw[hOK];simp
    | true =>
     cases hg:S.getLast? with
     | none =>
      have hS0:S=[]:=List.getLast?_eq_none_iff.1 hg;subst hS0;have hgl:=c2;have hgl2:=c2;have c8:((0:Int)<((0:Nat):Int))=False:=by simp
      have hbq:=c2;have hN:=hP.next hp hDb hmm (fun q hq=>by simp at hq);(refine lws ?_;simp only[go_sem,simprocAttr,A9,c2]);refine Ah hm (by rfl) kr ?_;simp only[go_sem,simprocAttr,hgn];refine Jqb (Cn p.1 (hs p hpm)) ?_;simp only[go_sem,simprocAttr,A9,A5,hgn,hgp,hgD,hbs,hpn,hpp,hvp];(repeat'(first|(refine And.intro (by first|omega | (simp;done)|(simp;omega)) ?_)|fail));exact ⟨([p],D.set b true),⟨hN,by simp[hvp],by simp;omega⟩,by simp;omega,Jqc⟩
     | some q =>
      have hgl:(Bd S)[S.length - 1]? = some [.str q.1]:=by
       rw[List.getLast?_eq_getElem?] at hg;simp[Bd,hg]
      have hgl2:((S.length:Int) - 1).toNat=S.length - 1:=by omega
      have hSp:0<S.length:=by cases S with
       | nil=>simp at hg
       | cons a S=>simp
      have c8:((0:Int)<(S.length:Int))=True:=eq_true omg;by_cases hqp:q.1=p.1
      ·have hbq:(q.1 == p.1)=true:=by rw[hqp];simp
       have hOK:M3 l=false:=by
        unfold M3;rw[decide_eq_false_iff_not];exact fun h=>hP.twice hp hDb hg hqp h.2
       (refine lws ?_;simp only[go_sem,simprocAttr,A9,c2]);refine Ah hm (by rfl) kr ?_;simp only[go_sem,simprocAttr,hgn];refine Jqb (Cn p.1 (hs p hpm)) ?_;simp only[go_sem,simprocAttr,hgn,w1,hgl,hgl2,hvp,c8,hbq];(repeat'(first|(refine And.intro (by first|omega | (simp;done)|(simp;omega)) ?_)|fail));unfold objR;rw[hOK];simp
      ·have hbq:(q.1 == p.1)=false:=by simpa using hqp
       have hN:=hP.next hp hDb hmm (fun q' hq=>by rw[hg] at hq;cases hq;exact hqp);(refine lws ?_;simp only[go_sem,simprocAttr,A9,c2]);refine Ah hm (by rfl) kr ?_;simp only[go_sem,simprocAttr,hgn];refine Jqb (Cn p.1 (hs p hpm)) ?_;simp only[go_sem,simprocAttr,A9,A5,hgn,hgp,hgD,hbs,hpn,hpp,w1,hgl,hgl2,hvp,c8,hbq];(repeat'(first|(refine And.intro (by first|omega | (simp;done)|(simp;omega)) ?_)|fail));refine ⟨(S ++ [p],D.set b true),⟨hN,fun x hx=>?_,by simp;omega⟩,by simp;omega,Jqc⟩;rcases Eax.1 hx with hx | hx
       ·exact hV x hx
       ·rw[Ea0] at hx;subst hx;exact hvp
  ·have hin:=Ea9.1 hin;have c2:((i:Int)<(l.length:Int))=True:=eq_true omg;obtain ⟨q,hq⟩:∃ q,l[i]? = some q:=⟨_,Eaa hin⟩
   obtain ⟨f,hf⟩:∃ f,D[i]? = some f:=⟨_,Eaa omg⟩
   have hgn:(Bd l)[i]? = some [.str q.1]:=by simp[Bd,hq]
   have hgD:(J7 D)[i]? = some [.bool f]:=by simp[J7,hf]
   have w1:IntKind.i64.wrap ((i:Int)+((1:Nat):Int))=((i+1:Nat):Int):=by rw[Aa omg omg];omega
   have w1':IntKind.i64.wrap ((i:Int)+1)=((i+1:Nat):Int):=by rw[Aa omg omg];omega
   have hgp:=w1;have hbs:=w1;have hpn:=w1;have hpp:=w1;have hgl2:=w1';have hvp:=w1;cases f with
   | true =>
    have hgl:=w1;have c8:=w1;have hbq:=w1;(refine lws ?_;simp only[go_sem,simprocAttr,A9,c2]);refine Ah hm (by rfl) kr ?_;simp only[go_sem,simprocAttr,c2,hgD,hgl2];refine ⟨(i+1,z),⟨by simp only;omega,?_⟩,by simp only;omega,Jqc⟩;simp only;rcases hz with ⟨h1,h2⟩ | ⟨b,h1,h2,h3,p,h4,h5⟩
    ·refine .inl ⟨h1,fun j hj=>?_⟩;by_cases hji:j=i
     ·subst hji;exact hf
     ·exact h2 j omg
    ·refine .inr ⟨b,h1,omg,h3,p,h4,fun j r hj hr hd=>?_⟩;by_cases hji:j=i
     ·subst hji;rw[hf] at hd;cases hd
     ·exact h5 j r omg hr hd
   | false =>
    rcases hz with ⟨rfl,h2⟩ | ⟨b,rfl,h2,h3,p,h4,h5⟩
    ·have hgl:=w1;have c8:((-1:Int)<0)=True:=by simp
     have hbq:=w1;(refine lws ?_;simp only[go_sem,simprocAttr,A9,c2]);refine Ah hm (by rfl) kr ?_;simp only[go_sem,simprocAttr,c2,hgD,hgl2,c8];refine ⟨(i+1,i),⟨by simp only;omega,.inr ⟨i,rfl,by simp only;omega,hf,q,hq,fun j r hj hr hd=>?_⟩⟩,by simp only;omega,Jqc⟩;simp only at hj;by_cases hji:j=i
     ·subst hji;rw[hq] at hr;cases hr;exact E0 _
     ·rw[h2 j omg] at hd;cases hd
    ·have hgl:(Bd l)[b]? = some [.str p.1]:=by simp[Bd,h4]
     have c8:((b:Int)<0)=False:=eq_false omg;cases hlt2:Op.bytesLess q.1 p.1 with
     | true =>
      have hbq:=hlt2;(refine lws ?_;simp only[go_sem,simprocAttr,A9,c2]);refine Ah hm (by rfl) kr ?_;simp only[go_sem,simprocAttr,c2,hgn,hgD,hgl,hgl2,c8,hbq];refine ⟨(i+1,i),⟨by simp only;omega,.inr ⟨i,rfl,by simp only;omega,hf,q,hq,fun j r hj hr hd=>?_⟩⟩,by simp only;omega,Jqc⟩;simp only at hj;by_cases hji:j=i
      ·subst hji;rw[hq] at hr;cases hr;exact E0 _
      ·exact Jg7 (L3 hlt2) (h5 j r omg hr hd)
     | false =>
      have hbq:=hlt2;(refine lws ?_;simp only[go_sem,simprocAttr,A9,c2]);refine Ah hm (by rfl) kr ?_;simp only[go_sem,simprocAttr,c2,hgn,hgD,hgl,hgl2,c8,hbq];refine ⟨(i+1,b),⟨by simp only;omega,.inr ⟨b,rfl,by simp only;omega,h3,p,h4,fun j r hj hr hd=>?_⟩⟩,by simp only;omega,Jqc⟩;simp only at hj;by_cases hji:j=i
      ·subst hji;rw[hq] at hr;cases hr;exact hlt2
      ·exact h5 j r omg hr hd
end Go.LX
namespace Go.LX
open Go Go.RowKit Go.Proofs
attribute [local irreducible] Al SWP Bi
end Go.LX
namespace Go.LX
open Go
def Ja8 (c:UInt8):Bool:=decide (48<=c.toNat) && decide (c.toNat<=57)
def Pk (s:List UInt8):Bool:=s.all Ja8
def Yz (s:List UInt8) (g:Bool) (e:Int):Prop :=
 Pk s=true/\s.length<=100/\-1000<=e/\e<=1000/\(s.length:Int)+e<=1000/\(if s=[] then g=false/\e=0 else at_ s 0≠48/\at_ s (s.length - 1)≠48)
instance (s:List UInt8) (g:Bool) (e:Int):Decidable (Yz s g e):=by unfold Yz;infer_instance
def G3 (k:Int) (s:List UInt8) (g:Bool) (e:Int) (m:Int):Prop :=
 if k=0\/k=1\/k=2 then m=0/\s=[]/\g=false/\e=0 else if k=3 then m=0/\Yz s g e else if k=4 then valid s=true/\m=0/\g=false/\e=0 else if k=5\/k=6 then 0<=m/\s=[]/\g=false/\e=0 else False
instance (k:Int) (s:List UInt8) (g:Bool) (e m:Int):Decidable (G3 k s g e m):=by unfold G3;infer_instance
def Eh (k:Int) (l:List KT):Prop:=(k=5->∀ p∈l,p.1=[])/\(∀ p∈l,valid p.1=true)/\(k=6->Rise l)
mutual
def okT:Tree->Prop
 | .mk k s g e kids=>G3 k s g e kids.len/\Eh k kids.list/\okF kids
def okF:Forest->Prop
 | .nil=>True
 | .cons _ t r=>okT t/\okF r
end
theorem Lu {k:Int} {s:List UInt8} {g:Bool} {e:Int} {kids:Forest}:okT (.mk k s g e kids) ↔ G3 k s g e kids.len/\Eh k kids.list/\okF kids:=by rw[okT]
theorem Fs {nm:List UInt8} {t:Tree} {r:Forest}:okF (.cons nm t r) ↔ okT t/\okF r:=by rw[okF]
theorem I6:okF .nil:=by rw[okF];trivial
theorem Jdq:∀ {a b:Forest},okF (a.app b) ↔ okF a/\okF b
 | .nil,b=>by simp[Forest.app,I6]
 | .cons nm t r,b=>by rw[Forest.app,Fs,Fs,Jdq (a:=r)];exact and_assoc.symm
theorem Jjp {nm:List UInt8} {k:Int} {s:List UInt8} {g:Bool} {e:Int} {kids r:Forest}:okF (.cons nm (.mk k s g e kids) r) ↔ G3 k s g e kids.len/\Eh k kids.list/\okF (kids.app r):=by
 rw[Fs,Lu,Jdq];constructor
 ·rintro ⟨⟨h1,h2,h3⟩,h4⟩;exact ⟨h1,h2,h3,h4⟩
 ·rintro ⟨h1,h2,h3,h4⟩;exact ⟨⟨h1,h2,h3⟩,h4⟩
theorem Jdo:∀ {f:Forest},okF f ↔ ∀ p∈f.list,okT p.2
 | .nil=>by simp[Forest.list,I6]
 | .cons nm t r=>by rw[Fs,Jdo (f:=r),Forest.list,List.forall_mem_cons]
theorem Sb (k:Int):Eh k []:=⟨by simp,by simp,fun _=>.nil⟩
theorem Jaa {k:Int} {p:KT} {l:List KT}:Eh k (p :: l) ↔ (k=5->p.1=[])/\valid p.1=true/\(k=6->∀ q,l.head? = some q->Op.bytesLess p.1 q.1=true)/\Eh k l:=by
 unfold Eh;constructor
 ·rintro ⟨h1,h2,h3⟩;refine ⟨fun hk=>h1 hk p Eaf,h2 p Eaf,fun hk q hq=>?_,fun hk q hq=>h1 hk q (Eai _ hq),fun q hq=>h2 q (Eai _ hq),fun hk=>(h3 hk).tail⟩;exact (Ebf.1 (h3 hk)).1 q (List.mem_of_head? hq)
 ·rintro ⟨h1,h2,h3,h4,h5,h6⟩;refine ⟨fun hk q hq=>?_,fun q hq=>?_,fun hk=>Ebf.2 ⟨fun q hq=>?_,h6 hk⟩⟩
  ·rcases Eak.1 hq with rfl | hq
   ·exact h1 hk
   ·exact h4 hk q hq
  ·rcases Eak.1 hq with rfl | hq
   ·exact h2
   ·exact h5 q hq
  ·cases l with
   | nil=>cases hq
   | cons r l =>
    have h7:=h3 hk r rfl;rcases Eak.1 hq with rfl | hq
    ·exact h7
    ·exact H8 h7 ((Ebf.1 (h6 hk)).1 q hq)
def nxt (L:Nat):List Node->Nat->Option Nat
 | _,0=>some 0
 | [],_+1=>none
 | n :: r,o+1=>if n.many<0\/(L:Int)<n.many then none else (nxt L r (o+n.many.toNat)).map (· + 1)
theorem Jxp:∀ (m:Nat) (F:Forest),m<=F.len->∃ A B:Forest,F=A.app B/\A.len=m
 | 0,F,_=>⟨.nil,F,rfl,rfl⟩
 | m+1,.nil,h=>by simp[Forest.len] at h
 | m+1,.cons nm t r,h=>by
  obtain ⟨A,B,h1,h2⟩:=Jxp m r (by simp only[Forest.len] at h;omega);exact ⟨.cons nm t A,B,by rw[Forest.app,<- h1],by simp only[Forest.len,h2]⟩
theorem Qg {L:Nat}:∀ {v:List Node} {o k:Nat},nxt L v o=some k->∃ F:Forest,F.len=o/\v=F.enc ++ v.drop k/\F.enc.length=k
 | v,0,k,h=>by
  simp[nxt] at h;subst h;exact ⟨.nil,rfl,by simp[Bl],by simp[Bl]⟩
 | [],o+1,k,h=>by simp[nxt] at h
 | n :: r,o+1,k,h=>by
  simp only[nxt] at h;split at h
  ·cases h
  ·rename_i hn;obtain ⟨k',h',rfl⟩:=Eal.1 h;obtain ⟨F,h1,h2,h3⟩:=Qg h';obtain ⟨A,B,rfl,hA⟩:=Jxp n.many.toNat F omg;rw[Jrz] at h1;rw[Jqk] at h2 h3;refine ⟨.cons n.name (.mk n.kind n.s n.neg n.e A) B,by simp only[Forest.len];omega,?_,?_⟩
   ·rw[A0,A6,Ecd];have e:(⟨n.kind,A.len,n.name,n.s,n.neg,n.e⟩:Node)=n:=by
     have:(A.len:Int)=n.many:=by omega
     rw[this]
    rw[e];simp only[Ebh,Ea2];congr 1;rw[<- Ea2];exact h2
   ·rw[A0,A6,Eac,Ead];rw[Eac] at h3;omega
theorem Q3 {L:Nat}:∀ (n:Nat) (F:Forest) (r:List Node),F.enc.length<=n->F.enc.length<=L->nxt L (F.enc ++ r) F.len=some F.enc.length
 | _,.nil,r,_,_=>by simp[Forest.len,nxt,Bl]
 | 0,.cons nm t rest,r,h,_=>by
  have:=Et t nm;rw[A0,Eac] at h;omega
 | n+1,.cons nm (.mk k s g e kids) rest,r,h,hL=>by
  rw[A0,A6,Eac,Ead] at h hL;have hk:=Jqi kids;have ih:=Q3 (L:=L) n (kids.app rest) r (by rw[Jqk,Eac];omega) (by rw[Jqk,Eac];omega);rw[Jqk,Jrz,Ea2,Eac] at ih;simp only[A0,A6,Ebh,Ea2,Forest.len,nxt];rw[if_neg omg];simp only[Int.toNat_natCast];rw[Ecw rest.len,ih];simp only[Option.map_some,Ead,Eac]
theorem Jcx {v:List Node}:nxt v.length v 1=some v.length ↔ ∃ nm t,v=Tree.enc nm t:=by
 constructor
 ·intro h;obtain ⟨F,h1,h2,h3⟩:=Qg h;rw[List.drop_length,Eaw] at h2
  match F,h1,h2 with
  | .cons nm t .nil,_,h2=>exact ⟨nm,t,by rw[h2,A0,Bl,Eaw]⟩
 ·rintro ⟨nm,t,rfl⟩;have:=Q3 (L:=(t.enc nm).length) (t.enc nm).length (.cons nm t .nil) [] (by rw[A0,Bl];simp) (by rw[A0,Bl];simp);simpa[A0,Bl,Forest.len] using this
def R0 (v:List Node):Prop:=∃ t,okT t/\v=t.enc []
open Classical in
noncomputable def Jw (v:List Node):Bool:=decide (R0 v)
theorem Iq {v:List Node}:Jw v=true ↔ R0 v:=by unfold Jw;exact @decide_eq_true_iff _ (Classical.propDecidable _)
end Go.LX
namespace Go.LX
open Go Go.RowKit Go.Proofs
attribute [local irreducible] Al SWP Bi
def nd (k:Int) (l:List KT):Tree:=.mk k [] false 0 (A1 l)
theorem Ea (l:List KT):(A1 l).list=l:=Hd l
theorem Jdh {k:Int} {l:List KT}:okT (nd k l) ↔ G3 k [] false 0 l.length/\Eh k l/\∀ p∈l,okT p.2:=by
 unfold nd;rw[Lu,Jdo,Ea,Ca]
def Ck (name:List UInt8) (t:Tree) (l:List KT):List KT:=l.map fun p=>if p.1=name then (name,t) else p
theorem Jhx (name:List UInt8) (t:Tree) (l:List KT):(Ck name t l).map (·.1)=l.map (·.1):=by
 unfold Ck;rw[Ebx];apply Ebp;intro p _;simp only[Function.comp];split<;>simp_all
theorem Jkq {l m:List KT} (h:l.map (·.1)=m.map (·.1)):Rise l ↔ Rise m:=by
 have e:∀ l:List KT,Rise l ↔ (l.map (·.1)).Pairwise fun a b=>Op.bytesLess a b=true:=fun l=>by unfold Rise;rw[Ecu]
 rw[e,e,h]
theorem Ii {name:List UInt8} {t:Tree} {l:List KT} (h:Rise l):Rise (Ck name t l):=(Jkq (Jhx name t l)).2 h
theorem Mh {name:List UInt8} {t:Tree}:∀ {l:List KT},(∀ p∈l,p.1≠name)->Ck name t l=l
 | [],_=>rfl
 | p :: l,h=>by
  have:=Mh (t:=t) fun q hq=>h q (Eai p hq)
  unfold Ck at this ⊢;rw[Eaq,if_neg (h p Eaf),this]
theorem Y2 {name:List UInt8}:∀ {l:List KT},(∀ p∈l,p.1≠name)->A8 name l=l
 | [],_=>rfl
 | p :: l,h=>by rw[A8,if_neg (h p Eaf),Y2 fun q hq=>h q (Eai p hq)]
theorem Zx {name:List UInt8} {y:Tree}:∀ {l:List KT},Rise l->(∃ p∈l,p.1=name)->putL name y (A8 name l)=Ck name y l
 | [],_,h=>by obtain ⟨p,hp,_⟩:=h;cases hp
 | p :: l,hr,h=>by
  obtain ⟨h1,h2⟩:=Ebf.1 hr;by_cases hp:p.1=name
  ·have hno:∀ q∈l,q.1≠name:=fun q hq e=>by
    have:=h1 q hq;rw[hp,e,E0] at this;cases this
   rw[A8,if_pos hp,Y2 hno];unfold Ck;rw[Eaq,if_pos hp];have:=Mh (t:=y) hno;unfold Ck at this;rw[this];cases l with
   | nil=>rfl
   | cons q l =>
    have:=h1 q Eaf;rw[hp] at this;rw[putL,if_neg (by rw[L3 this];simp)]
  ·obtain ⟨q,hq,hqn⟩:=h;have hq':q∈l:=by
    rcases Eak.1 hq with rfl | hq
    ·exact absurd hqn hp
    ·exact hq
   have hlt:=h1 q hq';rw[hqn] at hlt;rw[A8,if_neg hp,putL,if_pos hlt,Zx h2 ⟨q,hq',hqn⟩];unfold Ck;rw[Eaq,if_neg hp]
theorem Lf {name:List UInt8} {y:Tree}:∀ {l:List KT},(∃ p∈l,p.1=name)->Ch name (Ck name y l)=some y
 | [],h=>by obtain ⟨p,hp,_⟩:=h;cases hp
 | p :: l,h=>by
  unfold Ck;rw[Eaq];by_cases hp:p.1=name
  ·rw[if_pos hp,Ch,if_pos rfl]
  ·rw[if_neg hp,Ch,if_neg hp];obtain ⟨q,hq,hqn⟩:=h;refine Lf ⟨q,?_,hqn⟩;rcases Eak.1 hq with rfl | hq
   ·exact absurd hqn hp
   ·exact hq
theorem Xa (name:List UInt8) (y z:Tree) (l:List KT):Ck name z (Ck name y l)=Ck name z l:=by
 unfold Ck;rw[Ebx];apply Ebp;intro p _;simp only[Function.comp];by_cases h:p.1=name<;>simp[h]
theorem Qw {name:List UInt8} {w:Tree}:∀ {l:List KT},Rise l->Ch name l=some w->Ck name w l=l
 | [],_,h=>by cases h
 | p :: l,hr,h=>by
  obtain ⟨h1,h2⟩:=Ebf.1 hr;rw[Ch] at h;by_cases hp:p.1=name
  ·rw[if_pos hp] at h;have hno:∀ q∈l,q.1≠name:=fun q hq e=>by
    have:=h1 q hq;rw[hp,e,E0] at this;cases this
   have e:=Mh (t:=w) hno;unfold Ck at e ⊢;rw[Eaq,if_pos hp,e];cases h;obtain ⟨a,b⟩:=p;simp only at hp;subst hp;rfl
  ·rw[if_neg hp] at h;have e:=Qw h2 h;unfold Ck at e ⊢;rw[Eaq,if_neg hp,e]
theorem Jip {name:List UInt8} {y:Tree} {l:List KT} (h:∀ p∈l,okT p.2) (hy:okT y):∀ p∈Ck name y l,okT p.2:=by
 intro p hp;obtain ⟨q,hq,rfl⟩:=Eap.1 hp;split
 ·exact hy
 ·exact h q hq
theorem Jct {name:List UInt8} {y:Tree} {l:List KT} (h:Eh 6 l):Eh 6 (Ck name y l):=by
 obtain ⟨_,h2,h3⟩:=h;refine ⟨by simp,fun p hp=>?_,fun _=>Ii (h3 rfl)⟩;obtain ⟨q,hq,rfl⟩:=Eap.1 hp;split
 ·rename_i e;simp only;rw[<- e];exact h2 q hq
 ·exact h2 q hq
theorem Jdu {name:List UInt8} {y w:Tree}:∀ {l:List KT},Rise l->Ch name l=some w->(A1 (Ck name y l)).enc.length+(w.enc []).length=(A1 l).enc.length+(y.enc []).length
 | [],_,h=>by cases h
 | p :: l,hr,h=>by
  obtain ⟨h1,h2⟩:=Ebf.1 hr;rw[Ch] at h;by_cases hp:p.1=name
  ·rw[if_pos hp] at h;cases h;have hno:∀ q∈l,q.1≠name:=fun q hq e=>by
    have:=h1 q hq;rw[hp,e,E0] at this;cases this
   have e:=Mh (t:=y) hno;have e2:Ck name y (p :: l)=(name,y) :: l:=by
    unfold Ck at e ⊢;rw[Eaq,if_pos hp,e]
   rw[e2];simp only[A1,A0,Eac,G7 _ name,G7 _ p.1];omega
  ·rw[if_neg hp] at h;have ih:=Jdu (y:=y) h2 h;have e2:Ck name y (p :: l)=p :: Ck name y l:=by
    unfold Ck;rw[Eaq,if_neg hp]
   rw[e2];simp only[A1,A0,Eac];omega
theorem Jcy {y w:Tree} {nm:List UInt8}:∀ {l:List KT} {i:Nat},l[i]? = some (nm,w)->(A1 (l.set i (nm,y))).enc.length+(w.enc []).length=(A1 l).enc.length+(y.enc []).length
 | [],i,h=>by simp at h
 | p :: l,0,h=>by
  simp at h;subst h;simp only[List.set_cons_zero,A1,A0,Eac,G7 _ nm];omega
 | p :: l,i+1,h=>by
  have:=Jcy (y:=y) (l:=l) (i:=i) (by simpa using h);simp only[List.set_cons_succ,A1,A0,Eac];omega
def putT:Tree->Step->Tree->Tree
 | .mk _ _ _ _ kids,x,y=>if x.part=true then nd 5 (unn (kids.list.set x.n.toNat ([],y))) else nd 6 (putL x.name y (A8 x.name kids.list))
inductive Way (t:Tree) (x:Step) (w:Tree):Prop
 | list (l:List KT) (h:t=nd 5 l) (hp:x.part=true) (hn:∀ p∈l,p.1=[]) (hi:l[x.n.toNat]? = some ([],w))
 | obj (l:List KT) (h:t=nd 6 l) (hp:x.part=false) (hr:Rise l) (hi:Ch x.name l=some w)
theorem Jl3:∀ {l:List KT},(∀ p∈l,p.1=[])->unn l=l
 | [],_=>rfl
 | p :: l,h=>by
  have:=Jl3 fun q hq=>h q (Eai p hq)
  unfold unn at this ⊢;rw[Eaq,this,<- h p Eaf]
theorem Jv {t:Tree} {x:Step} {w:Tree} (ht:okT t) (h:inT t x=.ok w):Way t x w:=by
 cases t with
 | mk k s g e kids =>
 rw[Lu] at ht;obtain ⟨h1,h2,h3⟩:=ht;unfold G3 at h1;cases hp:x.part
 ·by_cases hk:k=6
  ·subst hk;simp at h1;obtain ⟨rfl,rfl,rfl⟩:=h1;rw[Tp hp] at h;cases hf:Ch x.name kids.list with
   | none=>rw[hf] at h;cases h
   | some u =>
    rw[hf] at h;cases h;exact .obj kids.list (by unfold nd;rw[G1]) hp (h2.2.2 rfl) hf
  ·rw[Iw hp hk] at h;cases h
 ·by_cases hk:k=5
  ·subst hk;simp at h1;obtain ⟨rfl,rfl,rfl⟩:=h1;rw[Tm hp] at h;cases hf:kids.list[x.n.toNat]? with
   | none=>rw[hf] at h;cases h
   | some q =>
    rw[hf] at h;cases h;have hq:=h2.1 rfl q (Eag hf);refine .list kids.list (by unfold nd;rw[G1]) hp (h2.1 rfl) ?_;rw[hf];obtain ⟨a,b⟩:=q;simp only at hq;subst hq;rfl
  ·rw[Iz hp hk] at h;cases h
theorem Va {l:List KT} {x:Step} (hp:x.part=true):inT (nd 5 l) x=match l[x.n.toNat]? with
   | some p=>.ok p.2
   | none=>.error 6:=by unfold nd;rw[Tm hp,Ea]<;>rfl
theorem Vv {l:List KT} {x:Step} (hp:x.part=false):inT (nd 6 l) x=match Ch x.name l with
   | some t=>.ok t
   | none=>.error 6:=by unfold nd;rw[Tp hp,Ea]<;>rfl
theorem Gf {l:List KT} {i:Nat} {y:Tree} (h:∀ p∈l,p.1=[]):∀ p∈l.set i ([],y),p.1=[]:=by
 intro p hp;rcases Eb3 hp with hp | rfl
 ·exact h p hp
 ·rfl
theorem Cr {l:List KT} {x:Step} {y:Tree} (hp:x.part=true) (hn:∀ p∈l,p.1=[]):putT (nd 5 l) x y=nd 5 (l.set x.n.toNat ([],y)):=by
 show (if x.part=true then nd 5 (unn ((A1 l).list.set x.n.toNat ([],y))) else _)=_;rw[if_pos hp,Ea,Jl3 (Gf hn)]
theorem C7 {l:List KT} {x:Step} {y w:Tree} (hp:x.part=false) (hr:Rise l) (hi:Ch x.name l=some w):putT (nd 6 l) x y=nd 6 (Ck x.name y l):=by
 show (if x.part=true then _ else nd 6 (putL x.name y (A8 x.name (A1 l).list)))=_;rw[if_neg (by simp[hp]),Ea,Zx hr];obtain ⟨p,h1,_,h2⟩:=Kj7 hi;exact ⟨p,h1,h2⟩
theorem Qq {name:List UInt8} {l:List KT} {w:Tree} (h:Ch name l=some w):∃ p∈l,p.1=name:=by
 obtain ⟨p,h1,_,h2⟩:=Kj7 h;exact ⟨p,h1,h2⟩
theorem L7 {t:Tree} {x:Step} {w y:Tree} (h:Way t x w):inT (putT t x y) x=.ok y:=by
 cases h with
 | list l h hp hn hi =>
  subst h;rw[Cr hp hn,Va hp,List.getElem?_set_self (Eab.1 hi).1]
 | obj l h hp hr hi =>
  subst h;rw[C7 hp hr hi,Vv hp,Lf (Qq hi)]
theorem Jjf {t:Tree} {x:Step} {w:Tree} (h:Way t x w):putT t x w=t:=by
 cases h with
 | list l h hp hn hi =>
  subst h;rw[Cr hp hn];congr 1;apply Ech;intro i;rw[Ebr];split
  ·subst_vars
   first
    | (split<;>simp_all)
    | simp_all
  ·rfl
 | obj l h hp hr hi =>
  subst h;rw[C7 hp hr hi,Qw hr hi]
theorem Ot {t:Tree} {x:Step} {w y z:Tree} (h:Way t x w):putT (putT t x y) x z=putT t x z:=by
 cases h with
 | list l h hp hn hi =>
  subst h;rw[Cr hp hn,Cr hp (Gf hn),Cr hp hn,List.set_set]
 | obj l h hp hr hi =>
  subst h;rw[C7 hp hr hi,C7 hp (Ii hr) (Lf (Qq hi)),C7 hp hr hi,Xa]
theorem put_ok {t:Tree} {x:Step} {w y:Tree} (ht:okT t) (h:Way t x w) (hy:okT y):okT (putT t x y):=by
 cases h with
 | list l h hp hn hi =>
  subst h;rw[Cr hp hn];rw[Jdh] at ht ⊢;obtain ⟨h1,h2,h3⟩:=ht;refine ⟨by rw[List.length_set];exact h1,⟨fun _=>Gf hn,fun p hp'=>?_,by simp⟩,fun p hp'=>?_⟩
  ·rw[Gf hn p hp'];rfl
  ·rcases Eb3 hp' with hp' | rfl
   ·exact h3 p hp'
   ·exact hy
 | obj l h hp hr hi =>
  subst h;rw[C7 hp hr hi];rw[Jdh] at ht ⊢;obtain ⟨h1,h2,h3⟩:=ht;exact ⟨by unfold Ck;rw[Ea1];exact h1,Jct h2,Jip h3 hy⟩
theorem Ig {t:Tree} {x:Step} {w:Tree} (ht:okT t) (h:Way t x w):okT w:=by
 cases h with
 | list l h hp hn hi=>subst h;exact (Jdh.1 ht).2.2 _ (Eag hi)
 | obj l h hp hr hi =>
  subst h;obtain ⟨p,h1,h2,_⟩:=Kj7 hi;rw[<- h2];exact (Jdh.1 ht).2.2 p h1
theorem Wn (k:Int) (l:List KT):((nd k l).enc []).length=(A1 l).enc.length+1:=by unfold nd;rw[A6];rfl
theorem Jot {t:Tree} {x:Step} {w y:Tree} (h:Way t x w):((putT t x y).enc []).length+(w.enc []).length=(t.enc []).length+(y.enc []).length:=by
 cases h with
 | list l h hp hn hi =>
  subst h;rw[Cr hp hn,Wn,Wn];have:=Jcy (y:=y) hi;omega
 | obj l h hp hr hi =>
  subst h;rw[C7 hp hr hi,Wn,Wn];have:=Jdu (y:=y) hr hi;omega
def setT:List Step->Tree->Tree->Except Nat Tree
 | [],_,u=>.ok u
 | x :: p,t,u=>match inT t x with
  | .error e=>.error e
  | .ok w=>match setT p w u with
   | .error e=>.error e
   | .ok y=>.ok (putT t x y)
theorem Km:∀ {p:List Step} {t u:Tree} {e:Nat},setT p t u=.error e ↔ getT p t=.error e
 | [],t,u,e=>by simp[setT,getT]
 | x :: p,t,u,e=>by
  rw[setT,getT];cases inT t x with
  | error e'=>simp
  | ok w =>
   simp only;rw[<- Km (p:=p) (t:=w) (u:=u)];cases setT p w u with
   | error e'=>simp
   | ok y=>simp
theorem Kg:∀ {p:List Step} {t u y:Tree},okT t->okT u->setT p t u=.ok y->∃ w,getT p t=.ok w/\getT p y=.ok u/\setT p y w=.ok t/\okT y/\okT w/\(y.enc []).length+(w.enc []).length=(t.enc []).length+(u.enc []).length
 | [],t,u,y,ht,hu,h=>by
  cases h;exact ⟨t,rfl,rfl,rfl,hu,ht,omg⟩
 | x :: p,t,u,y,ht,hu,h=>by
  rw[setT] at h;cases hi:inT t x with
  | error e=>rw[hi] at h;cases h
  | ok v =>
   rw[hi] at h;have hw:=Jv ht hi;have hv:=Ig ht hw;simp only at h;cases hs:setT p v u with
   | error e=>rw[hs] at h;cases h
   | ok z =>
    rw[hs] at h;simp only at h;cases h;obtain ⟨w,g1,g2,g3,g4,g5,g6⟩:=Kg hv hu hs;refine ⟨w,by rw[getT,hi];exact g1,by rw[getT,L7 hw];exact g2,?_,put_ok ht hw g4,g5,?_⟩
    ·rw[setT,L7 hw];simp only;rw[g3];simp only;rw[Ot hw,Jjf hw]
    ·have:=Jot (y:=z) hw;omega
end Go.LX
namespace Go.LX
open Go Go.RowKit Go.Proofs Go.Proofs.Tryz
attribute [local irreducible] Al SWP Bi
theorem Jjk {r:Regs} {K:L->Prop}:capV r K (.p .snil)=K (.p (.int .i64 0)):=(rfl)
theorem Jpr:Det cx 160 [.p .snil,.p (.int .i64 0)] [] (.p .snil) []:=by
 have w1:IntKind.i64.wrap 0=0:=by decide
 have c1:((0:Int)<0)=False:=by simp
 (refine bgo func160 ?_;simp only[go_sem,simprocAttr,w1,c1,K9,Jjk,Hi])
 skip
theorem d_Grow (n:Nat) (h0:0<n) (hn:n<=1500000000000):Det cx 160 [.p .snil,.p (.int .i64 n)] [] (.own 900 0 0) [(900,.row 36 6 [])]:=by
 have w1:IntKind.i64.wrap 0=0:=by decide
 have c1:((0:Int)<(n:Int))=True:=eq_true omg;have w2:IntKind.i64.wrap ((n:Int) - 0)=n:=by rw[Aa omg omg];omega
 have c2:((n:Int)<0)=False:=eq_false omg;(refine bgoR true [(22,900)] func160 ?_;simp only[go_sem,simprocAttr,w1,c1,w2,c2,K9,Jjk,Hi]);(repeat'(first|refine Jqj ?_|fail));omega
theorem Jc4 (l:List (List UInt8×Tree)) (k:Nat):(A1 (unn (l.take k))).enc.length<=(A1 (unn l)).enc.length:=by
 rw[Rf];exact Oi _ _
theorem Jc5 {l:List (List UInt8×Tree)} {k:Nat} {p:List UInt8×Tree} (h:l[k]? = some p):(A1 (unn (l.take (k+1)))).enc=(A1 (unn (l.take k))).enc ++ p.2.enc []:=by
 have h':(unn l)[k]? = some ([],p.2):=by simp[unn,h]
 rw[Rf,Rf];exact Nu h'
theorem Y7 (l:List (List UInt8×Tree)) (hv:(A1 (unn l)).enc.length<=1350000000000):Det cx 126 [.p (.sl (A4 l))] [] (.p (.sl (valL (A1 (unn l)).enc))) []:=by
 have hll:=Jqi (A1 (unn l));rw[Ca,Kp] at hll;have z0:(A1 (unn ([]:List (List UInt8×Tree)))).enc.length=0:=by simp[unn,A1,Bl]
 have z1:(A1 (unn ([]:List (List UInt8×Tree)))).enc=[]:=by simp[unn,A1,Bl]
 (refine bgo func126 ?_;simp only[go_sem,simprocAttr,A5]);refine SWP.loop (fun k:Nat=>⟨Ba 36 [(0,.p (.sl (A4 l))),(3,.p (.int .i64 (A1 (unn (l.take k))).enc.length)),(9,.p (.sl (A4 l))),(10,.p (.int .i64 l.length)),(11,.p (.int .i64 k))],[]⟩) (fun k=>k<=l.length) (fun k=>l.length - k) 0 (by simp only[Eb7,z0];exact Jqc) (Eau _) ?_;intro k hk;by_cases hlt:¬ k<l.length
 ·have c1:((k:Int)<(l.length:Int))=False:=eq_false omg;have tk:l.take k=l:=Eae omg;have hg:=c1;have w1:=c1;have w2:=c1;have c2:=c1;by_cases hl0:l=[]
  ·subst hl0;have hG:=Jpr;(refine lws ?_;simp only[go_sem,simprocAttr,tk,z0]);(repeat'(first|(apply iteI<;>intro h)|(refine get_go ?_;intro b hb)|refine Jqj ?_|((refine Jqa hG ?_);simp only[go_sem,simprocAttr,A5])|(exfalso;omega)));refine SWP.loop (fun i:Nat=>⟨Ba 36 [(6,.p (.sl [])),(25,.p (.sl [])),(26,.p (.int .i64 0)),(27,.p (.int .i64 0))],[]⟩) (fun _=>True) (fun _=>0) 0 Jqc trivial ?_;intro i _;(refine lws ?_;simp only[go_sem,simprocAttr]);rw[z1];rfl
  ·have hpos:0<(A1 (unn l)).enc.length:=by
    have:0<l.length:=by cases l<;>simp at hl0 ⊢
    omega
   have hG:=d_Grow (A1 (unn l)).enc.length hpos omg;(refine lws ?_;simp only[go_sem,simprocAttr,c1,tk]);(repeat'(first|((refine Jqa hG ?_);simp only[go_sem,simprocAttr,A5])|fail));refine Jqg (B1 [(24,33)] _ sm) ?_;simp only[go_sem,simprocAttr];refine SWP.loop (fun k:Nat=>⟨Ba 36 [(6,.own 33 0 (A1 (unn (l.take k))).enc.length),(25,.p (.sl (A4 l))),(26,.p (.int .i64 l.length)),(27,.p (.int .i64 k))],[(33,.row 36 6 (valL (A1 (unn (l.take k))).enc))]⟩) (fun k=>k<=l.length) (fun k=>l.length - k) 0 (by simp only[Eb7,z0,z1,Jjy];exact Jqc) (Eau _) ?_;intro j hj;by_cases hjt:¬ j<l.length
   ·have d1:((j:Int)<(l.length:Int))=False:=eq_false omg;have tj:l.take j=l:=Eae omg;have tv:(valL (A1 (unn l)).enc).take (A1 (unn l)).enc.length=valL (A1 (unn l)).enc:=Eae sm;have lv:((A1 (unn l)).enc.length<=(A1 (unn l)).enc.length)=True:=eq_true (Eah _);have hg2:=d1;have w3:=d1;(refine lws ?_;simp only[go_sem,simprocAttr,A7,d1,tj,tv,lv])
    skip
   ·have hjt:=Ea9.1 hjt;have d1:((j:Int)<(l.length:Int))=True:=eq_true omg;obtain ⟨p,hp⟩:∃ p,l[j]? = some p:=⟨_,Eaa hjt⟩
    have hg2:(A4 l)[j]? = some [.sl (valL (p.2.enc []))]:=by simp[A4,hp]
    have hs:=Jc4 l (j+1);have h1:=Jc5 hp;rw[h1,Eac] at hs;have w3:=wj1 (i:=j) omg;have tj:=d1;have tv:=d1;have lv:=d1;(refine lws ?_;simp only[go_sem,simprocAttr,A7,d1,hg2,w3]);refine ⟨E7 _,omg,omg,?_⟩;refine ⟨j+1,hjt,omg,?_⟩;rw[h1,Eac,Ji];exact Jqc
 ·have hlt:=Ea9.1 hlt;have c1:((k:Int)<(l.length:Int))=True:=eq_true omg;obtain ⟨p,hp⟩:∃ p,l[k]? = some p:=⟨_,Eaa hlt⟩
  have hg:(A4 l)[k]? = some [.sl (valL (p.2.enc []))]:=by simp[A4,hp]
  have hs:=Jc4 l (k+1);have h1:=Jc5 hp;rw[h1,Eac] at hs;have tk:=c1;have w1:=wj1 (i:=k) omg;have w2:IntKind.i64.wrap (((A1 (unn (l.take k))).enc.length:Int)+((p.2.enc []).length:Int))=(((A1 (unn (l.take k))).enc.length+(p.2.enc []).length:Nat):Int):=by rw[Aa omg omg];omega
  have c2:((((A1 (unn (l.take k))).enc.length+(p.2.enc []).length:Nat):Int)<0)=False:=eq_false omg;have d1:=c1;have tj:=c1;have tv:=c1;have lv:=c1;have hg2:=c1;have w3:=c1;(refine lws ?_;simp only[go_sem,simprocAttr,A7,c1,hg,w1,w2,c2]);refine ⟨k+1,hlt,omg,?_⟩;rw[h1,Eac];exact Jqc
theorem Jfu {s:List UInt8} {i:Nat} (h:i<s.length):Pk (s.take (i+1))=(Pk (s.take i) && (decide (48<=at_ s i) && decide (at_ s i<=57))):=by
 simp only[Pk,Ebc,Eaa h,List.all_append,Ql h];simp[Ja8]
theorem Qp {s:List UInt8} {i:Nat} (h:i<s.length) (hb:at_ s i<48\/57<at_ s i):Pk s=false:=by
 simp only[Pk,List.all_eq_false];rw[Ql h] at hb;exact ⟨s[i],Eb1 h,by simp[Ja8];omega⟩
theorem Jj5 (s:List UInt8) (hs:s.length<=9223372036854775807):Det cx 161 [.p (.str s)] [] (.p (.bool (Pk s))) []:=by
 (refine bgo func161 ?_;simp only[go_sem,simprocAttr]);refine SWP.loop (fun i:Nat=>⟨Ba 20 [(0,.p (.str s)),(3,.p (.int .i64 i))],[]⟩) (fun i=>i<=s.length/\Pk (s.take i)=true) (fun i=>s.length - i) 0 Jqc ⟨Eau _,rfl⟩ ?_;rintro i ⟨h1,h2⟩;(refine lws ?_;simp only[go_sem,simprocAttr]);(repeat'(first|(apply iteI<;>intro h)|refine Jqj ?_|fail))
 ·exact (Qp (i:=i) omg omg).symm
 ·exact (Qp (i:=i) omg omg).symm
 ·refine ⟨i+1,⟨omg,?_⟩,omg,Jqc⟩;rw[Jfu omg,h2];simp;omega
 ·rw[Eae omg] at h2;exact h2.symm
theorem M0 (many:Int) (s:List UInt8) (g:Bool) (e:Int) (hs:s.length<=1000000) (he:-9223372036854775808<=e) (he':e<=9223372036854775807):Det cx 129 [.p (.agg [.int .i64 3,.int .i64 many,.str [],.str s,.bool g,.int .i64 e])] [] (.p (.bool (decide (many=0/\Yz s g e)))) []:=by
 (refine bgo func129 ?_;simp only[go_sem,simprocAttr]);(repeat'(first|(apply iteI<;>intro h)|refine Jqj ?_|((refine Jqa (Jj5 _ omg) ?_);simp only[go_sem,simprocAttr])|fail))
 all_goals((try simp (disch:=omega) only [Aa,Qs,Ab,Jlh,Mf,Ja0,Jcc,Ja7,Jak] at *)<;>(try rw[show (↑s.length - 1:Int).toNat=s.length - 1 by omega] at *)<;>(rw[Ea4])<;>(have hs0:s.length=0 ↔ s=[]:=List.length_eq_zero_iff)<;>(simp only[Yz,decide_eq_true_eq,beq_iff_eq,bne_iff_ne,Eb0,false_iff])<;>(by_cases h0:s=[])<;>(simp only[h0,if_true,if_false] at *)<;>(first|omega | (simp_all<;>omega) | skip))
theorem Ja1 (k m:Int) (nm s:List UInt8) (g:Bool) (e:Int) (hs:s.length<=1000000) (he:-9223372036854775808<=e) (he':e<=9223372036854775807):Det cx 78 [.p (.agg [.int .i64 k,.int .i64 m,.str nm,.str s,.bool g,.int .i64 e])] [] (.p (.bool (decide (G3 k s g e m)))) []:=by
 by_cases hk:k=3
 ·subst hk;(refine bgo func78 ?_;simp only[go_sem,simprocAttr]);(repeat'(first|((refine Jqa (M0 m s g e hs he he') ?_);simp only[go_sem,simprocAttr])|fail))
  all_goals (first|rfl | (simp[G3];done))
 ·(refine bgo func78 ?_;simp only[go_sem,simprocAttr]);(repeat'(first|(apply iteI<;>intro h)|((refine Jqa (Cn s hs) ?_);simp only[go_sem,simprocAttr])|(exfalso;omega)))
  all_goals((rw[Ea4])<;>(simp only[G3,decide_eq_true_eq,beq_iff_eq,Ebb,Eb0,false_iff])<;>(first|omega | (simp_all;done)|(simp_all<;>omega)))
def nxtR (v:List Node) (i o:Nat):Int:=match nxt v.length (v.drop i) o with
 | some k=>((i+k:Nat):Int)
 | none=>-1
theorem Jha (v:List Node) (i:Nat):nxtR v i 0=i:=by
 unfold nxtR;have:nxt v.length (v.drop i) 0=some 0:=by cases v.drop i<;>rfl
 rw[this];rfl
theorem Jmc {v:List Node} {i o:Nat} (h:v.length<=i) (ho:0<o):nxtR v i o = -1:=by
 unfold nxtR;rw[Eao h];cases o with
 | zero=>omega
 | succ o=>rfl
theorem Jlc {v:List Node} {i o:Nat} {n:Node} (h:v[i]? = some n) (ho:0<o) (hb:n.many<0\/(v.length:Int)<n.many):nxtR v i o = -1:=by
 have hi:=(Eab.1 h).1;unfold nxtR;rw[Eaz hi,(Eab.1 h).2];cases o with
 | zero=>omega
 | succ o=>simp only[nxt];rw[if_pos hb]
theorem Jfk {v:List Node} {i o:Nat} {n:Node} (h:v[i]? = some n) (hb:¬ (n.many<0\/(v.length:Int)<n.many)):nxtR v i (o+1)=nxtR v (i+1) (o+n.many.toNat):=by
 have hi:=(Eab.1 h).1;unfold nxtR;rw[Eaz hi,(Eab.1 h).2];simp only[nxt];rw[if_neg hb];cases nxt v.length (v.drop (i+1)) (o+n.many.toNat) with
 | none=>rfl
 | some k=>simp only[Option.map_some];omega
theorem U5 {v:List Node} {i:Nat} {n:Node} (h:v[i]? = some n):(valL v)[i]? = some [.int .i64 n.kind,.int .i64 n.many,.str n.name,.str n.s,.bool n.neg,.int .i64 n.e]:=by
 simp[valL,h,Node.cells]
theorem Uv (v:List Node) (hv:v.length<=10000):Det cx 77 [.p (.sl (valL v)),.p (.int .i64 0)] [] (.p (.int .i64 (nxtR v 0 1))) []:=by
 (refine bgo func77 ?_;simp only[go_sem,simprocAttr]);refine SWP.loop (fun x:Nat×Nat=>⟨Ba 41 [(0,.p (.sl (valL v))),(1,.p (.int .i64 x.1)),(5,.p (.int .i64 x.2))],[]⟩) (fun x=>x.1<=v.length/\x.2<=1+x.1 * 10000/\nxtR v x.1 x.2=nxtR v 0 1) (fun x=>v.length - x.1) (0,1) Jqc ⟨Eau _,by simp,rfl⟩ ?_;rintro ⟨i,o⟩ ⟨h1,h2,h3⟩;simp only at h1 h2 h3;by_cases ho:o=0
 ·subst ho;rw[Jha] at h3;(refine lws ?_;simp only[go_sem,simprocAttr]);rw[h3]
 ·have c0:((0:Int)<(o:Int))=True:=eq_true omg;by_cases hi:¬ i<v.length
  ·have c1:((v.length:Int)<=(i:Int))=True:=eq_true omg;rw[Jmc omg omg] at h3;have hg:=c1;have c2:=c1;have c3:=c1;have w1:=c1;have w2:=c1;have w3:=c1;(refine lws ?_;simp only[go_sem,simprocAttr,A7,c0,c1]);rw[<- h3]
  ·have hi:=Ea9.1 hi;have c1:((v.length:Int)<=(i:Int))=False:=eq_false omg;obtain ⟨n,hn⟩:∃ n,v[i]? = some n:=⟨_,Eaa hi⟩
   have hg:=U5 hn;by_cases hb:n.many<0\/(v.length:Int)<n.many
   ·rw[Jlc hn omg hb] at h3;have w1:=c1;have w2:=c1;have w3:=c1;by_cases hb1:n.many<0
    ·have c2:(n.many<0)=True:=eq_true hb1;have c3:=c1;(refine lws ?_;simp only[go_sem,simprocAttr,A7,c0,c1,c2,hg]);rw[<- h3]
    ·have c2:(n.many<0)=False:=eq_false hb1;have c3:((v.length:Int)<n.many)=True:=eq_true omg;(refine lws ?_;simp only[go_sem,simprocAttr,A7,c0,c1,c2,c3,hg]);rw[<- h3]
   ·have c2:(n.many<0)=False:=eq_false omg;have c3:((v.length:Int)<n.many)=False:=eq_false omg;obtain ⟨o',rfl⟩:∃ o',o=o'+1:=⟨o - 1,omg⟩
    rw[Jfk hn hb] at h3;have w1:IntKind.i64.wrap (((o'+1:Nat):Int) - 1)=(o':Int):=by rw[Aa omg omg];omega
    have w2:IntKind.i64.wrap ((o':Int)+n.many)=((o'+n.many.toNat:Nat):Int):=by rw[Aa omg omg];omega
    have w3:=wj1 (i:=i) omg;(refine lws ?_;simp only[go_sem,simprocAttr,A7,c0,c1,c2,c3,hg,w1,w2,w3]);exact ⟨(i+1,o'+n.many.toNat),⟨by simp only;omega,by simp only;omega,h3⟩,by simp only;omega,Jqc⟩
theorem P8 {v:List Node} {i:Nat} {n:Node} (h:v[i]? = some n):(valL v)[i]? = some [.int .i64 n.kind,.int .i64 n.many,.str n.name,.str n.s,.bool n.neg,.int .i64 n.e]:=by
 simp[valL,h,Node.cells]
def Uw (x y:Node):Prop:=x.kind=y.kind/\x.many=y.many/\x.name=y.name/\x.s=y.s/\x.neg=y.neg/\x.e=y.e
theorem Qo {x y:Node}:Uw x y ↔ x=y:=by
 unfold Uw;constructor
 ·rintro ⟨h1,h2,h3,h4,h5,h6⟩;cases x;cases y;simp_all
 ·rintro rfl;exact ⟨rfl,rfl,rfl,rfl,rfl,rfl⟩
instance (x y:Node):Decidable (Uw x y):=inferInstanceAs (Decidable (_/\_))
instance:DecidableEq Node:=fun x y=>decidable_of_iff _ (Qo (x:=x) (y:=y))
theorem Jma {x y:Node}:(x.kind == y.kind && (x.many == y.many && (x.name == y.name && (x.s == y.s && (x.neg == y.neg && x.e == y.e)))))=decide (x=y):=by
 rw[Ea4,decide_eq_true_eq,<- Qo];simp[Uw]
theorem Kkl (v u:List Node) (hv:v.length<=1500000000000) (hu:u.length<=1500000000000):Det cx 14 [.p (.sl (valL v)),.p (.sl (valL u))] [] (.p (.bool (decide (v=u)))) []:=by
 by_cases hl:v.length=u.length
 ·have c0:((v.length:Int)=(u.length:Int))=True:=eq_true omg;(refine bgo func14 ?_;simp only[go_sem,simprocAttr,A7,c0]);refine SWP.loop (fun i:Nat=>⟨Ba 26 [(0,.p (.sl (valL v))),(1,.p (.sl (valL u))),(5,.p (.int .i64 i))],[]⟩) (fun i=>i<=v.length/\v.take i=u.take i) (fun i=>v.length - i) 0 Jqc ⟨Eau _,rfl⟩ ?_;rintro i ⟨h1,h3⟩;by_cases hi:¬ i<v.length
  ·have c1:((i:Int)<(v.length:Int))=False:=eq_false omg;have hgx:=c1;have hgy:=c1;(refine lws ?_;simp only[go_sem,simprocAttr,A7,c1]);rw[Eae omg,Eae omg] at h3;exact (decide_eq_true h3).symm
  ·have hi:=Ea9.1 hi;have c1:((i:Int)<(v.length:Int))=True:=eq_true omg;obtain ⟨x,hx⟩:∃ x,v[i]? = some x:=⟨_,Eaa hi⟩
   obtain ⟨y,hy⟩:∃ y,u[i]? = some y:=⟨_,Eaa omg⟩
   have hgx:=P8 hx;have hgy:=P8 hy;have w1:=wi1 (i:=i) omg;(refine lws ?_;simp only[go_sem,simprocAttr,A7,c1]);(repeat'(first|(apply iteI<;>intro h)|((refine Jqm ?_);simp only[go_sem,simprocAttr,Jma,hgx,hgy,w1])|fail))
   ·have hxy:=(show ¬ x=y by assumption)
    refine (decide_eq_false fun e=>hxy ?_).symm;subst e;rw[hx] at hy;exact Ebd hy
   ·have hxy:=Ea9.1 (show ¬ ¬ x=y by assumption);subst hxy;refine ⟨i+1,⟨omg,?_⟩,omg,Jqc⟩;rw[Ebc,Ebc,h3,hx,hy]
 ·have c0:((v.length:Int)=(u.length:Int))=False:=eq_false omg;have c1:=c0;have hgx:=c0;have hgy:=c0;have w1:=c0;(refine bgo func14 ?_;simp only[go_sem,simprocAttr,A7,c0]);exact (decide_eq_false fun e=>hl (by rw[e])).symm
theorem Z3 (v:List Node) (i:Nat) (nm:List UInt8) (k:Int) (s:List UInt8) (g:Bool) (e:Int) (kids:Forest) (rest:List Node) (hv:v.length<=1500000000000) (h:v.drop i=(Tree.mk k s g e kids).enc nm ++ rest) (hs:∀ n∈v,n.name.length<=1000000):Det cx 79 [.p (.sl (valL v)),.p (.int .i64 i)] [] (.p (.bool (@decide (Eh k kids.list) (Classical.propDecidable _)))) []:=by
 have hll:=Jqi kids;rw[A6] at h;have hg0:=D5 h;rw[C9] at hg0;have hb:=L9 h sm;simp only[Ebh,Ead,Eac] at hb;have w0:=wj1 (i:=i) omg;(refine bgo func79 ?_;simp only[go_sem,simprocAttr,w0]);refine SWP.loop (fun x:Nat×Nat×Forest=>⟨Ba 75 [(0,.p (.sl (valL v))),(1,.p (.int .i64 i)),(5,.p (.int .i64 x.2.1)),(6,.p (.int .i64 x.1))],[]⟩) (fun x=>x.1+x.2.2.len=kids.len/\v.drop x.2.1=x.2.2.enc ++ rest/\x.2.1+x.2.2.enc.length=i+1+kids.enc.length/\(Eh k kids.list ↔ Eh k x.2.2.list)) (fun x=>x.2.2.enc.length) (0,i+1,kids) Jqc ⟨by simp,by simp only;rw[<- Ebj,h];rfl,by simp only,Iff.rfl⟩ ?_;rintro ⟨j,a,F⟩ ⟨h1,h2,h3,h4⟩;simp only at h1 h2 h3 h4
 match F,h1,h2,h3,h4 with
 | .nil,h1,h2,h3,h4 =>
  simp only[Forest.len] at h1;have c1:((j:Int)<(kids.len:Int))=False:=eq_false omg;have hK:=h4.2 (Sb k);have hga:=c1;have w1:=c1;have c7:=c1;have hgb:=c1;(refine lws ?_;simp only[go_sem,simprocAttr,hg0,c1]);exact (@decide_eq_true _ (Classical.propDecidable _) hK).symm
 | .cons nm' t r,h1,h2,h3,h4 =>
  rw[Kka] at h1;rw[A0] at h2 h3;have hp:=Et t nm';simp only[Eac] at h3;obtain ⟨k',n',s',g',e',hga⟩:∃ k' n' s' g' e',(valL v)[a]? = some [.int .i64 k',.int .i64 n',.str nm',.str s',.bool g',.int .i64 e']:=Mi (t:=t) (b:=r.enc ++ rest) (by rw[h2,Ea2]);have c1:((j:Int)<(kids.len:Int))=True:=eq_true omg;rw[Forest.list,Jaa] at h4;simp only at h4;have w1:=wj1 (i:=j) omg;have hnl:nm'.length<=1000000:=by
   have:v[a]? = some ⟨k',n',nm',s',g',e'⟩:=by
    cases hva:v[a]? with
    | none=>simp[valL,hva] at hga
    | some n =>
     have:=P8 hva;rw[hga] at this;simp only[Option.some.injEq,Ec7,PV.int.injEq,PV.str.injEq,PV.bool.injEq,true_and,and_true] at this;obtain ⟨h1,h2,h3,h4,h5,h6⟩:=this;congr 1;cases n;simp_all
   exact hs _ (Eag this)
  have hNx:=Cs v a nm' t (r.enc ++ rest) hv (by rw[h2,Ea2]);have hno:((k=5->nm'=[])/\valid nm'=true/\(k=6->∀ q,r.list.head? = some q->Op.bytesLess nm' q.1=true)/\Eh k r.list->False)->(false = @decide (Eh k kids.list) (Classical.propDecidable _)):=fun h=>((@decide_eq_false_iff_not _ (Classical.propDecidable _)).2 fun hk=>h (h4.1 hk)).symm
  have hd:v.drop (a+(t.enc nm').length)=r.enc ++ rest:=by rw[<- Ebj,h2,Ea2,Edh]
  match r,h1,h2,h3,h4,hNx,hno,hd with
  | .nil,h1,h2,h3,h4,hNx,hno,hd =>
   simp only[Forest.len] at h1;have c7:(((j+1:Nat):Int)<(kids.len:Int))=False:=eq_false omg;have hgb:=c1;(refine lws ?_;simp only[go_sem,simprocAttr,hg0,c1,hga]);(repeat'(first|(apply iteI<;>intro h)|((first|refine Jqm ?_|(refine Jqa (Cn nm' hnl) ?_)|refine Jqa hNx ?_);simp only[go_sem,simprocAttr,hg0,w1,c7])|(exfalso;omega)))
   all_goals first
    | (
     refine hno ?_;rintro ⟨a1,a2,a3,a4⟩;have h9:=(show valid nm'=false by assumption)
     rw[a2] at h9;cases h9)
    | (
     refine hno ?_;rintro ⟨a1,a2,a3,a4⟩;clear hno hNx h4 hga hg0 hd h2 hs;simp_all)
    | (
     refine ⟨(j+1,a+(t.enc nm').length,.nil),⟨by simp only[Forest.len];omega,hd,by simp only;omega,h4.trans ⟨fun q=>q.2.2.2,fun q=>⟨?_,?_,fun _ q hq=>(by cases hq),q⟩⟩⟩,by simp only[A0,Eac];omega,Jqc⟩
     all_goals (clear hno hNx h4 hga hg0 hd h2 hs;simp_all))
  | .cons nm2 t2 r2,h1,h2,h3,h4,hNx,hno,hd =>
   simp only[Forest.len] at h1;have c7:(((j+1:Nat):Int)<(kids.len:Int))=True:=eq_true omg;obtain ⟨k2,n2,s2,g2,e2,hgb⟩:∃ k' n' s' g' e',(valL v)[a+(t.enc nm').length]? = some [.int .i64 k',.int .i64 n',.str nm2,.str s',.bool g',.int .i64 e']:=Mi (t:=t2) (b:=r2.enc ++ rest) (by rw[hd,A0,Ea2]);(refine lws ?_;simp only[go_sem,simprocAttr,hg0,c1,hga]);(repeat'(first|(apply iteI<;>intro h)|((first|refine Jqm ?_|(refine Jqa (Cn nm' hnl) ?_)|refine Jqa hNx ?_);simp only[go_sem,simprocAttr,hg0,hga,w1,c7,hgb])|(exfalso;omega)))
   all_goals first
    | (
     refine hno ?_;rintro ⟨a1,a2,a3,a4⟩;have h9:=(show valid nm'=false by assumption)
     rw[a2] at h9;cases h9)
    | (
     refine hno ?_;rintro ⟨a1,a2,a3,a4⟩;have a5:=fun hk=>a3 hk (nm2,t2) rfl
     clear a3 hno hNx h4 hga hg0 hd h2 hs hgb;simp_all)
    | (
     refine ⟨(j+1,a+(t.enc nm').length,.cons nm2 t2 r2),⟨by simp only[Forest.len];omega,hd,by simp only;omega,h4.trans ⟨fun q=>q.2.2.2,fun q=>⟨?_,?_,fun hk q hq=>?_,q⟩⟩⟩,by simp only[A0,Eac];omega,Jqc⟩
     all_goals (clear hno hNx h4 hga hg0 hd h2 hs hgb)
     all_goals first
      | (simp_all;done)
      | (simp only[Forest.list,List.head?_cons,Option.some.injEq] at hq;subst hq;simp_all))
theorem Jda:∀ {a b c d:Forest},a.app b=c.app d->a.len=c.len->a=c/\b=d
 | .nil,b,.nil,d,h,_=>⟨rfl,h⟩
 | .nil,_,.cons _ _ _,_,_,h=>by simp[Forest.len] at h
 | .cons _ _ _,_,.nil,_,_,h=>by simp[Forest.len] at h
 | .cons nm t a,b,.cons nm' t' c,d,h,hl=>by
  rw[Forest.app,Forest.app] at h;injection h with h1 h2 h3
  obtain ⟨rfl,rfl⟩:=Jda (a:=a) (b:=b) (c:=c) (d:=d) h3 (by simpa[Forest.len] using hl);exact ⟨by rw[h1,h2],rfl⟩
theorem W5:∀ (n:Nat) {F G:Forest},F.enc.length<=n->F.len=G.len->F.enc=G.enc->F=G
 | _,.nil,.nil,_,_,_=>rfl
 | _,.nil,.cons _ _ _,_,h,_=>by simp[Forest.len] at h
 | _,.cons _ _ _,.nil,_,h,_=>by simp[Forest.len] at h
 | 0,.cons nm t r,.cons _ _ _,h,_,_=>by
  have:=Et t nm;rw[A0,Eac] at h;omega
 | n+1,.cons nm (.mk k s g e kids) r,.cons nm' (.mk k' s' g' e' kids') r',h,hl,he=>by
  rw[A0,A6,Eac,Ead] at h;rw[A0,A0,A6,A6,Ebh,Ebh] at he;injection he with h1 h2
  injection h1 with g1 g2 g3 g4 g5 g6
  rw[<- Jqk,<- Jqk] at h2;simp only[Forest.len] at hl;have hk:kids.len=kids'.len:=by omega
  have:=W5 n (F:=kids.app r) (G:=kids'.app r') (by rw[Jqk,Eac];omega) (by rw[Jrz,Jrz];omega) h2;obtain ⟨rfl,rfl⟩:=Jda this hk;rw[g1,g3,g4,g5,g6]
theorem Jmz {t u:Tree} {a b:List UInt8} (h:t.enc a=u.enc b):a=b/\t=u:=by
 have:=W5 (Forest.cons a t .nil).enc.length (F:=.cons a t .nil) (G:=.cons b u .nil) (Eah _) rfl (by rw[A0,A0,h]);injection this with h1 h2 _
 exact ⟨h1,h2⟩
theorem Jf9 {t:Tree}:R0 (t.enc []) ↔ okT t:=by
 constructor
 ·rintro ⟨u,hu,h⟩;obtain ⟨_,rfl⟩:=Jmz h;exact hu
 ·exact fun h=>⟨t,h,rfl⟩
theorem Zg {v:List Node} (h:R0 v):nxtR v 0 1=v.length:=by
 obtain ⟨t,_,rfl⟩:=h;have:=Jcx.2 ⟨[],t,rfl⟩;unfold nxtR;rw[Ebn,this];simp
theorem Jf6 {v:List Node} (h:nxtR v 0 1=v.length):∃ nm t,v=Tree.enc nm t:=by
 refine Jcx.1 ?_;unfold nxtR at h;rw[Ebn] at h;cases hn:nxt v.length v 1 with
 | none=>rw[hn] at h;simp at h
 | some k=>rw[hn] at h;simp at h;rw[show k=v.length by omega]
structure NodeFit (n:Node):Prop where
 s:n.s.length<=1000000
 name:n.name.length<=1000000
 e0:-9223372036854775808<=n.e
 e1:n.e<=9223372036854775807
theorem I8 {v:List Node} (h:¬ R0 v):false=Jw v:=by
 cases hb:Jw v with
 | false=>rfl
 | true=>exact absurd (Iq.1 hb) h
theorem Jp (v:List Node) (hv:v.length<=10000) (hf:∀ n∈v,NodeFit n):Det cx 24 [.p (.sl (valL v))] [] (.p (.bool (Jw v))) []:=by
 cases v with
 | nil =>
  have hb:false=Jw []:=I8 (by
   rintro ⟨t,_,h⟩;have:=congrArg List.length h;have h1:=Et t [];simp at this;omega)
  have hg0:True:=trivial;have c0:=hg0;have c1:=hg0;have c2:=hg0;have c3:=hg0;(refine bgo func24 ?_;simp only[go_sem,simprocAttr,A7]);exact hb
 | cons n r =>
  have hg0:=U5 (v:=n :: r) (i:=0) (n:=n) rfl;have c0:(((n :: r).length:Int)=0)=False:=eq_false (by simp;omega);have c1:((0:Int)<((n :: r).length:Int))=True:=eq_true sm;have hN:=Uv (n :: r) hv;generalize hvv:n :: r=v at *
  by_cases hnm:n.name=[]
  ·by_cases hnx:nxtR v 0 1=v.length
   ·obtain ⟨nm,t,ht⟩:=Jf6 hnx;have hnm0:nm=[]:=by
     cases t with
     | mk k s g e kids =>
      rw[A6,<- hvv] at ht;have:=(List.cons.inj ht).1;rw[this] at hnm;exact hnm
    subst hnm0;have c2:(n.name=[])=True:=eq_true hnm;have c3:(nxtR v 0 1=(v.length:Int))=True:=eq_true hnx;(refine bgo func24 ?_;simp only[go_sem,simprocAttr,A7,hg0,c0,c2]);(repeat'(first|((refine Jqa hN ?_);simp only[go_sem,simprocAttr,A7,c3])|fail));have hB:∀ b:Bool,(b=true ↔ okT t)->b=Jw v:=by
     intro b hb;rw[Ea4,hb,Iq,ht,Jf9]
    have hend:∀ {i:Nat} {F:Forest},i+F.enc.length=v.length->True:=fun _=>trivial
    refine SWP.loop (fun x:Nat×Forest=>⟨Ba 39 [(0,.p (.sl (valL v))),(3,.p (.int .i64 x.1))],[]⟩) (fun x=>v.drop x.1=x.2.enc/\x.1+x.2.enc.length=v.length/\(okT t ↔ okF x.2)) (fun x=>v.length - x.1) (0,.cons [] t .nil) Jqc ⟨by rw[A0,Bl,Eaw,Ebn,ht],by rw[A0,Bl,Eaw,ht];simp,by rw[Fs];exact ⟨fun h=>⟨h,I6⟩,fun h=>h.1⟩⟩ ?_;rintro ⟨i,F⟩ ⟨h1,h2,h3⟩;simp only at h1 h2 h3
    match F,h1,h2,h3 with
    | .nil,h1,h2,h3 =>
     rw[Bl] at h2;have c4:((i:Int)<(v.length:Int))=False:=eq_false (by simp at h2;omega);have hga:=c4;have w1:=c4;(refine lws ?_;simp only[go_sem,simprocAttr,A7,c4]);exact hB true (by rw[h3];simp[I6])
    | .cons nm' (.mk k s g e kids) r,h1,h2,h3 =>
     rw[A0,A6] at h1 h2;simp only[Eac,Ead] at h2;have c4:((i:Int)<(v.length:Int))=True:=eq_true omg;have hga:=D5 h1;rw[C9] at hga;have w1:=wj1 (i:=i) omg;rw[Jjp] at h3;have hmem:(⟨k,kids.len,nm',s,g,e⟩:Node)∈v:=by
      have:(⟨k,kids.len,nm',s,g,e⟩:Node)∈v.drop i:=by rw[h1];simp
      exact Ea6 this
     have hfn:=hf _ hmem;have hpl:=Ja1 k kids.len nm' s g e hfn.s hfn.e0 hfn.e1;have hri:=Z3 v i nm' k s g e kids r.enc omg (by rw[h1,A6]) fun n hn=>(hf n hn).name
     have hcont:(okT t ↔ okF (kids.app r))->∃ y:Nat×Forest,(v.drop y.1=y.2.enc/\y.1+y.2.enc.length=v.length/\(okT t ↔ okF y.2))/\v.length - y.1<v.length - i/\y=(i+1,kids.app r):=fun h =>
      ⟨(i+1,kids.app r),⟨by simp only;rw[<- Ebj,h1,Jqk];rfl,by simp only;rw[Jqk,Eac];omega,h⟩,by simp only;omega,rfl⟩
     by_cases hn1:G3 k s g e kids.len
     ·rw[decide_eq_true hn1] at hpl;by_cases hk1:Eh k kids.list
      ·rw[@decide_eq_true _ (Classical.propDecidable _) hk1] at hri;(refine lws ?_;simp only[go_sem,simprocAttr,A7,c4,hga]);(repeat'(first|((first|refine Jqa hpl ?_|refine Jqa hri ?_);simp only[go_sem,simprocAttr,w1])|fail));obtain ⟨y,p1,p2,rfl⟩:=hcont (h3.trans ⟨fun h=>h.2.2,fun h=>⟨hn1,hk1,h⟩⟩);exact ⟨_,p1,p2,Jqc⟩
      ·rw[@decide_eq_false _ (Classical.propDecidable _) hk1] at hri;(refine lws ?_;simp only[go_sem,simprocAttr,A7,c4,hga]);(repeat'(first|((first|refine Jqa hpl ?_|refine Jqa hri ?_);simp only[go_sem,simprocAttr])|fail));exact hB false (by rw[h3];simp[hk1])
     ·rw[decide_eq_false hn1] at hpl;(refine lws ?_;simp only[go_sem,simprocAttr,A7,c4,hga]);(repeat'(first|((refine Jqa hpl ?_);simp only[go_sem,simprocAttr])|fail));exact hB false (by rw[h3];simp[hn1])
   ·have c2:(n.name=[])=True:=eq_true hnm;have c3:(nxtR v 0 1=(v.length:Int))=False:=eq_false hnx;have hb:=I8 (v:=v) fun h=>hnx (Zg h)
    have c4:=hg0;have hga:=hg0;have w1:=hg0;(refine bgo func24 ?_;simp only[go_sem,simprocAttr,A7,hg0,c0,c2]);(repeat'(first|((refine Jqa hN ?_);simp only[go_sem,simprocAttr,A7,c3])|fail));exact hb
  ·have c2:(n.name=[])=False:=eq_false hnm;have c3:=c2;have c4:=hg0;have hga:=hg0;have w1:=hg0;have hb:=I8 (v:=v) (by
    rintro ⟨t,_,h⟩;cases t with
    | mk k s g e kids =>
     rw[A6,<- hvv] at h;have:=(List.cons.inj h).1;rw[this] at hnm;exact hnm rfl)
   (refine bgo func24 ?_;simp only[go_sem,simprocAttr,A7,hg0,c0,c2]);exact hb
theorem Kfd (l:List (List UInt8×Tree)) (hv:(A1 (unn l)).enc.length<=1350000000000):Det cx 69 [.p (.sl (A4 l))] [] (.p (.sl (valL ((Tree.mk 5 [] false 0 (A1 (unn l))).enc [])))) []:=by
 have hll:=Jqi (A1 (unn l));rw[Ca,Kp] at hll;have c1:(1+(A1 (unn l)).enc.length<=(A1 (unn l)).enc.length+1)=True:=eq_true omg;have t1:∀ h:List PV,(h :: valL (A1 (unn l)).enc).take (1+(A1 (unn l)).enc.length)=h :: valL (A1 (unn l)).enc:=fun h=>Eae (by simp;omega)
 (refine bgo func69 ?_;simp only[go_sem,simprocAttr,A5]);(repeat'(first|((refine Jqa (Y7 l hv) ?_);simp only[go_sem,simprocAttr,A7,c1,t1])|fail));(repeat'(first|(refine And.intro (by first|omega | (simp;done)|(simp;omega) | exact E7 _) ?_)|fail));rw[A6,Ca,Kp];rfl
def FitT (t:Tree):Prop:=∀ n∈t.enc [],NodeFit n
theorem O4 {nm:List UInt8} {t:Tree}:∀ {f:Forest},(nm,t)∈f.list->∀ n∈t.enc nm,n∈f.enc
 | .nil,h,_,_=>by cases h
 | .cons a b r,h,n,hn=>by
  rw[A0,Eax];rcases Eak.1 h with h | h
  ·cases h;exact .inl hn
  ·exact .inr (O4 h n hn)
theorem Y3 {t:Tree} {a b:List UInt8} (h:∀ n∈t.enc a,NodeFit n) (hb:b.length<=1000000):∀ n∈t.enc b,NodeFit n:=by
 cases t with
 | mk k s g e kids =>
  rw[A6] at h ⊢;intro n hn;rcases Eak.1 hn with rfl | hn
  ·have:=h _ Eaf;exact ⟨this.s,hb,this.e0,this.e1⟩
  ·exact h n (Eai _ hn)
theorem Mg {k:Int} {s:List UInt8} {g:Bool} {e:Int} {kids:Forest} (h:FitT (.mk k s g e kids)) {p:List UInt8×Tree} (hp:p∈kids.list):p.1.length<=1000000/\FitT p.2:=by
 obtain ⟨nm,t⟩:=p;have h1:∀ n∈t.enc nm,NodeFit n:=fun n hn=>h n (by rw[A6];exact Eai _ (O4 hp n hn))
 refine ⟨?_,Y3 h1 sm⟩;cases t with
 | mk k s g e kids =>
  exact (h1 _ (by rw[A6];exact Eaf)).name
theorem Ji9 {t w:Tree} {x:Step} (h:FitT t) (hi:inT t x=.ok w):FitT w:=by
 cases t with
 | mk k s g e kids =>
  obtain ⟨p,h1,rfl⟩:=Jd5 hi;exact (Mg h h1).2
theorem S7 (l:List (List UInt8×Tree)) (n:Nat) (y:Tree):(A4 l).set n [.sl (valL (y.enc []))]=A4 (l.set n ([],y)):=by simp[A4,Edt]
theorem Pm {l:List KT} {i:Nat} {y:Tree}:(A1 (unn (l.set i ([],y)))).enc.length<=(A1 l).enc.length+(y.enc []).length:=by
 induction l generalizing i with
 | nil=>simp[unn,A1,Bl]
 | cons p l ih =>
  have hl:∀ l:List KT,(A1 (unn l)).enc.length=(A1 l).enc.length:=by
   intro l
   induction l with
   | nil=>rfl
   | cons q l ih =>
    unfold unn at ih ⊢;simp only[Eaq,A1,A0,Eac,ih,G7 _ q.1]
  cases i with
  | zero =>
   rw[hl];simp only[List.set_cons_zero,A1,A0,Eac];omega
  | succ i =>
   have:=ih (i:=i);rw[hl] at this ⊢;simp only[List.set_cons_succ,A1,A0,Eac];omega
theorem Jkz {s:List UInt8} {g:Bool} {e:Int} {kids:Forest} {x:Step} {y:Tree} (hp:x.part=true):putT (.mk 5 s g e kids) x y=.mk 5 [] false 0 (A1 (unn (kids.list.set x.n.toNat ([],y)))):=by
 show (if x.part=true then nd 5 _ else _)=_;rw[if_pos hp];rfl
theorem Jkb {s:List UInt8} {g:Bool} {e:Int} {kids:Forest} {x:Step} {y:Tree} (hp:x.part=false):putT (.mk 6 s g e kids) x y=.mk 6 [] false 0 (A1 (putL x.name y (A8 x.name kids.list))):=by
 show (if x.part=true then _ else nd 6 _)=_;rw[if_neg (by simp[hp])];rfl
theorem Jei (t u:Tree):Det cx 67 [.p (.sl (Bb [])),.p (.sl (valL (t.enc []))),.p (.sl (valL (u.enc [])))] [] (getR (setT [] t u)) []:=by
 have hpe:Bb []=[]:=rfl;(refine bgo func67 ?_;simp only[go_sem,simprocAttr,hpe]);rfl
theorem Hu {p:List Step} {t u:Tree} {e:Nat} (h:setT p t u=.error e):e=5\/e=6:=by
 rw[Km] at h
 induction p generalizing t with
 | nil=>cases h
 | cons x p ih =>
  rw[getT] at h;cases hi:inT t x with
  | error e'=>rw[hi] at h;cases h;exact M2 hi
  | ok w=>rw[hi] at h;exact ih h
theorem L8:∀ (p:List Step) (t u:Tree),p.length<=1000->(∀ x∈p,Bc x)->okT t->okT u->(t.enc []).length+(u.enc []).length<=300000000000->Det cx 67 [.p (.sl (Bb p)),.p (.sl (valL (t.enc []))),.p (.sl (valL (u.enc [])))] [] (getR (setT p t u)) []
 | [],t,u,hp,hok,ht,hu,hs=>Jei t u
 | x :: p,t,u,hp,hok,ht,hu,hs=>by
  have hx:=hok x Eaf;have hpl:Bb (x :: p)=[.bool x.part,.str x.name,.int .i64 x.n] :: Bb p:=rfl;have hcl:((((Bb p).length+1:Nat):Int)=0)=False:=eq_false omg;have hin:=d_in t x omg hx;simp only[Ead] at hp;cases hi:inT t x with
  | error e =>
   rw[hi] at hin;unfold getR at hin;have he:=M2 hi;have c1:((e:Int)=0)=False:=eq_false omg;have hps:=c1;have c2:=c1;have c3:=c1;have l1:=c1;have l2:=c1;have hpt:=c1;have hxm:=c1;(refine bgo func67 ?_;simp only[go_sem,simprocAttr,hpl,hcl]);(repeat'(first|((refine Jqa hin ?_);simp only[go_sem,simprocAttr,c1])|fail));rw[setT,hi];rfl
  | ok w =>
   rw[hi] at hin;unfold getR at hin;have hle:=Q7 hi;have hw:=Jv ht hi;have ih:=L8 p w u omg (fun y hy=>hok y (Eai _ hy)) (Ig ht hw) hu omg;cases hz:setT p w u with
   | error e =>
    rw[hz] at ih;unfold getR at ih;have he:=Hu hz;have c1:((e:Int)=0)=False:=eq_false omg;have hps:=c1;have c2:=c1;have c3:=c1;have l1:=c1;have l2:=c1;have hpt:=c1;have hxm:=c1;(refine bgo func67 ?_;simp only[go_sem,simprocAttr,hpl,hcl]);(repeat'(first|((refine Jqa hin ?_);simp only[go_sem,simprocAttr])|fail));refine ⟨by intro z hz';rcases Eak.1 hz' with rfl | hz';(· rfl);exact Bp _ z hz',omg,?_⟩;(repeat'(first|((refine Jqa ih ?_);simp only[go_sem,simprocAttr,c1])|fail));rw[setT,hi];simp only;rw[hz];rfl
   | ok y =>
    rw[hz] at ih;unfold getR at ih;have hyl:=(Kg (Ig ht hw) hu hz)
    obtain ⟨_,_,_,_,_,_,hyl⟩:=hyl;have c1:=hpl;have hres:setT (x :: p) t u=.ok (putT t x y):=by rw[setT,hi];simp only;rw[hz]
    rw[hres];cases t with
    | mk k s g e kids =>
    have hkv:kids.enc.length<=300000000000:=by rw[A6] at hs;simp at hs;omega
    have hll:=Jqi kids;have hkl:=Jqh kids;cases hpt:x.part with
    | true =>
     obtain ⟨l,h5,_,hn,hg⟩ | ⟨_,_,h6,_,_⟩:=hw
     rotate_left
     ·rw[hpt] at h6;cases h6
     unfold nd at h5;injection h5 with q1 q2 q3 q4 q5
     subst q1;have hkk:kids.list=l:=by rw[q5,Ea]
     unfold Bc at hx;rw[if_pos hpt] at hx;obtain ⟨m,hxm⟩:∃ m:Nat,x.n=m:=⟨x.n.toNat,omg⟩
     rw[Jkz hpt,hxm];simp only[Int.toNat_natCast];have hml:m<kids.len:=by
      have:=(Eab.1 hg).1;rw[hxm] at this;simp only[Int.toNat_natCast] at this;rw[<- hkl,hkk];exact this
     obtain ⟨q,hq⟩:∃ q,kids.list[m]? = some q:=⟨_,Eaa omg⟩
     have c2:=Hx hq;have c3:(A4 kids.list).length=kids.len:=by rw[A5,hkl]
     have hps:=S7 kids.list m y;have l1:(A4 (kids.list.set m ([],y))).take kids.len=A4 (kids.list.set m ([],y)):=Eae (by rw[A5,List.length_set];omega);have l2:(kids.len<=(A4 (kids.list.set m ([],y))).length)=True:=eq_true (by rw[A5,List.length_set];omega);have hus:=Pm (l:=kids.list) (i:=m) (y:=y);rw[G1] at hus;have hL:=Kfd (kids.list.set m ([],y)) omg;have hP:=Jc9 [] 5 s g e kids omg;rw[hpt,hxm] at hin;(refine bgo func67 ?_;simp only[go_sem,simprocAttr,hpl,hcl,hpt,hxm]);(repeat'(first|((refine Jqa hin ?_);simp only[go_sem,simprocAttr])|fail));refine ⟨by intro z hz';rcases Eak.1 hz' with rfl | hz';(· rfl);exact Bp _ z hz',omg,?_⟩;(repeat'(first|refine Jqj ?_|((first|refine Jqa ih ?_|refine Jqa hP ?_|refine Jqa hL ?_);simp only[go_sem,simprocAttr,c2,hps,l1,l2])|fail))
     all_goals rfl
    | false =>
     obtain ⟨_,_,h5,_,_⟩ | ⟨l,h6,_,hr,hg⟩:=hw
     ·rw[hpt] at h5;cases h5
     unfold nd at h6;injection h6 with q1 q2 q3 q4 q5
     subst q1;have hkk:kids.list=l:=by rw[q5,Ea]
     rw[Jkb hpt];rw[hpt] at hin;have hW:=Kel [] s g e kids x.name y omg omg (by rw[hkk];exact hr.kept _);have c2:=hpl;have c3:=hpl;have hps:=hpl;have l1:=hpl;have l2:=hpl;have hxm:=hpl;(refine bgo func67 ?_;simp only[go_sem,simprocAttr,hpl,hcl,hpt]);(repeat'(first|((refine Jqa hin ?_);simp only[go_sem,simprocAttr])|fail));refine ⟨by intro z hz';rcases Eak.1 hz' with rfl | hz';(· rfl);exact Bp _ z hz',omg,?_⟩;(repeat'(first|((first|refine Jqa ih ?_|refine Jqa hW ?_);simp only[go_sem,simprocAttr])|fail))
     all_goals rfl
end Go.LX
