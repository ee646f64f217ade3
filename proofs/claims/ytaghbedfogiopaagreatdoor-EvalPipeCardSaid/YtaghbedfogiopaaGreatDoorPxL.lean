/- Filters: what they give is right, and not too large: plain facts. -/
import Derived.Test.YtaghbedfogiopaaGreatDoorPxK
import Derived.Shelf.Sort.Plain
import Derived.Shelf.Slices.In.SortNone
set_option linter.unusedSimpArgs false
set_option linter.unusedVariables false
set_option linter.unusedSectionVars false
set_option linter.unnecessarySimpa false
set_option maxRecDepth 100000
set_option maxHeartbeats 2000000
namespace Go.LX
open Go Go.RowKit Go.Proofs
attribute [local irreducible] Al SWP Bi
def GT (v:Tree):Prop:=okT v/\FitT v
theorem Jt9 {k:Int} {s:List UInt8} {g:Bool} {e:Int} {kids:Forest} (h:GT (.mk k s g e kids)) {p:KT} (hp:p∈kids.list):valid p.1=true/\p.1.length<=1000000/\GT p.2 :=
 ⟨(Lu.1 h.1).2.1.2.1 p hp,(Mg h.2 hp).1,Jvb h.1 hp,(Mg h.2 hp).2⟩
theorem Jtw {v:Tree} (h:GT v):∀ x∈Jqe v,GT x:=by
 obtain ⟨k,s,g,e,kids⟩:=v;intro x hx;obtain ⟨p,hp,rfl⟩:=Eap.1 hx;exact (Jt9 h hp).2.2
theorem J4s:∀ l:List Tree,(∀ x∈l,GT x)->∀ n∈(A1 (unT l)).enc,NodeFit n
 | [],_,n,hn=>by rw[show A1 (unT [])=.nil from rfl,Bl] at hn;cases hn
 | t :: l,hl,n,hn=>by
  rw[show A1 (unT (t :: l))=.cons [] t (A1 (unT l)) from rfl,A0] at hn;rcases Eax.1 hn with hn | hn
  ·exact (hl t Eaf).2 n hn
  ·exact J4s l (fun x hx=>hl x (Eai _ hx)) n hn
theorem J21 (k m:Int):NodeFit ⟨k,m,[],[],false,0⟩:=⟨Eau _,Eau _,(by decide:(-9223372036854775808:Int)<=0),(by decide:(0:Int)<=9223372036854775807)⟩
theorem Jti {l:List Tree} (h:∀ x∈l,GT x):GT (listT l):=by
 refine ⟨Kgc fun x hx=>(h x hx).1,fun n hn=>?_⟩;unfold listT at hn;rw[A6] at hn;rcases Eak.1 hn with rfl | hn
 ·exact J21 _ _
 ·exact J4s l h n hn
theorem J49 {l:List KT} (hr:Rise l) (h:∀ p∈l,valid p.1=true/\p.1.length<=1000000/\GT p.2):GT (nd 6 l):=by
 refine ⟨Jdh.2 ⟨by simp[G3],⟨fun h=>by omega,fun p hp=>(h p hp).1,fun _=>hr⟩,fun p hp=>(h p hp).2.2.1⟩,fun n hn=>?_⟩;unfold nd at hn;rw[A6] at hn;rcases Eak.1 hn with rfl | hn
 ·exact J21 _ _
 ·exact J3m l (fun p hp=>⟨(h p hp).2.2.2,(h p hp).2.1⟩) n hn
theorem Jwp:GT nilT:=⟨J6r,fun n hn=>by
 unfold nilT at hn;rw[A6,Bl] at hn;simp only[Eak,Ebg,or_false] at hn;subst hn;exact J21 _ _⟩
theorem Kaj {s:List UInt8} (hv:valid s=true) (hs:s.length<=1000000):GT (strT s):=⟨str_ok hv,Kgd hs⟩
theorem J0p:∀ (n:Nat) (u:List UInt8),u.length=n->∃ k,u=Jqy u ++ List.replicate k 48
 | 0,u,h=>⟨0,by have:u=[]:=Ean h;subst this;rfl⟩
 | n+1,u,h=>by
  obtain ⟨b,c,rfl⟩:∃ b c,u=b ++ [c]:=⟨u.dropLast,u.getLast (List.ne_nil_of_length_pos omg),(Ecm _).symm⟩
  rw[Jtd];by_cases hc:c=48
  ·rw[if_pos hc];obtain ⟨k,hk⟩:=J0p n b (by simpa using h);refine ⟨k+1,?_⟩
   conv=>lhs;rw[hk]
   rw[hc,List.replicate_succ',<- Ea2]
  ·rw[if_neg hc];exact ⟨0,by simp⟩
theorem J3h:∀ (n:Nat) (u:List UInt8),u.length=n->0<(Jqy u).length->at_ (Jqy u) ((Jqy u).length - 1)≠48
 | 0,u,h,h'=>by have:u=[]:=Ean h;subst this;exact absurd h' de
 | n+1,u,h,h'=>by
  obtain ⟨b,c,rfl⟩:∃ b c,u=b ++ [c]:=⟨u.dropLast,u.getLast (List.ne_nil_of_length_pos omg),(Ecm _).symm⟩
  rw[Jtd] at h' ⊢;by_cases hc:c=48
  ·rw[if_pos hc] at h' ⊢;exact J3h n b (by simpa using h) h'
  ·rw[if_neg hc];rw[Eac,Ebs,Nat.add_sub_cancel,Jyx];exact fun e=>hc (Jwn.1 e)
theorem gt_num {i:Nat} (h:i<10 ^ 20):GT (numV i):=by
 have hfit:∀ (s:List UInt8) (e:Int),s.length<=1000->0<=e->e<=1000->FitT (.mk 3 s false e .nil):=fun s e h1 h2 h3 n hn=>by
  rw[A6,Bl] at hn;simp only[Eak,Ebg,or_false] at hn;subst hn;exact ⟨by show s.length<=_;omega,Eau _,by show _<=e;omega,by show e<=_;omega⟩
 unfold numV;split
 ·refine ⟨?_,hfit [] 0 sm omg omg⟩;rw[Lu];exact ⟨by decide,Sb 3,I6⟩
 ·rename_i h0;have hl:=Xk 19 i omg;have hsl:=Jx4 (Lib.decDigits i);have hp:=Jv8 h0;obtain ⟨k,hk⟩:=J0p _ (Lib.decDigits i) rfl;have hlast:=J3h _ (Lib.decDigits i) rfl hp;have hall:Pk (Jqy (Lib.decDigits i))=true:=by
   unfold Pk;rw[Eby];intro c hc;have:=Jmj i c (by rw[hk];exact Eb9 _ hc);unfold isDg at this;simp[Ja8,this.1,this.2]
  have hhead:at_ (Jqy (Lib.decDigits i)) 0≠48:=by
   cases hs:Jqy (Lib.decDigits i) with
   | nil=>rw[hs] at hp;exact absurd hp de
   | cons c r =>
    rw[Jy3];intro e;rw[hs] at hk;exact h0 (Jg0 i c _ hk e).2
  refine ⟨?_,hfit _ _ omg omg omg⟩;rw[Lu];refine ⟨?_,Sb 3,I6⟩;have hne:Jqy (Lib.decDigits i)≠[]:=Ecj.1 hp;simp only[G3,Forest.len];refine ⟨rfl,hall,omg,omg,omg,omg,?_⟩;rw[if_neg hne];exact ⟨hhead,hlast⟩
theorem J63 {key x:Tree} (hk:GT key) (hx:GT x):GT (Jso key x):=by
 have hlt:Op.bytesLess sKey sVal=true:=by decide
 show GT (nd 6 [(sKey,key),(sVal,x)]);refine J49 (Ebf.2 ⟨fun q hq=>by simp only[Eak,Ebg,or_false] at hq;subst hq;exact hlt,by simp⟩) fun p hp=>?_
 simp only[Eak,Ebg,or_false] at hp;rcases hp with rfl | rfl
 ·exact ⟨(by decide:valid sKey=true),(by decide:sKey.length<=1000000),hk⟩
 ·exact ⟨(by decide:valid sVal=true),(by decide:sVal.length<=1000000),hx⟩
theorem J6k {x:Step} {t u:Tree} (ht:GT t) (h:Jrc x t=.ok u):GT u:=by
 have hk:∀ p∈t.kids.list,GT p.2:=by
  obtain ⟨k,s,g,e,kids⟩:=t;exact fun p hp=>(Jt9 ht hp).2.2
 unfold Jrc at h;split at h
 ·cases h;exact Jwp
 ·split at h
  ·split at h
   ·cases h;cases hq:t.kids.list[x.n.toNat]? with
    | none=>exact Jwp
    | some p=>exact hk p (Eag hq)
   ·cases h
  ·split at h
   ·cases h;cases hq:Ch x.name t.kids.list with
    | none=>exact Jwp
    | some w =>
     obtain ⟨p,hp,rfl,_⟩:=Kj7 hq;exact hk p hp
   ·cases h
def wK (op:Int) (ws:List Nat):Nat:=if op=4 then ws.headD 1 * ws.getD 1 1 else if op=5\/op=6 then ws.headD 1 else if op=8\/op=9 then 1+ws.sum else 3
mutual
def wgt:RT->Nat
 | .mk op _ _ _ kids=>wK op (wgtL kids)
def wgtL:RF->List Nat
 | .nil=>[]
 | .cons _ t r=>wgt t :: wgtL r
end
theorem J2d {op:Int} {s:List UInt8} {n:Int} {c:Node} {kids:RF}:wgt (.mk op s n c kids)=wK op (wgtL kids):=by rw[wgt]
theorem J7c:wgtL .nil=[]:=by rw[wgtL]
theorem J46 {nm:List UInt8} {t:RT} {r:RF}:wgtL (.cons nm t r)=wgt t :: wgtL r:=by rw[wgtL]
theorem Jsq:∀ f:RF,wgtL f=f.list.map fun p=>wgt p.2
 | .nil=>by rw[J7c];rfl
 | .cons nm t r=>by rw[J46,Jsq r];rfl
mutual
theorem Jtj:∀ f:RT,1<=wgt f
 | .mk op s n c kids=>by
  have hL:=J7q kids;rw[J2d];generalize wgtL kids=ws at *
  unfold wK;have h1:1<=ws.headD 1:=by
   cases ws with
   | nil=>exact Eah _
   | cons a l=>exact hL a Eaf
  have h2:1<=ws.getD 1 1:=by
   rw[Eaj];cases h:ws[1]? with
   | none=>exact Eah _
   | some a=>exact hL a (Eag h)
  split
  ·exact Nat.mul_pos h1 h2
  ·split
   ·exact h1
   ·split<;>omega
theorem J7q:∀ (f:RF),∀ w∈wgtL f,1<=w
 | .nil,w,h=>by rw[J7c] at h;cases h
 | .cons nm t r,w,h=>by
  rw[J46] at h;rcases Eak.1 h with rfl | h
  ·exact Jtj t
  ·exact J7q r w h
end
def wOK (w l:Nat):Prop:=w * 15 ^ (l+1)<=26 ^ (l+1)
theorem Jzu:∀ l:Nat,1<=l->26 * 15 ^ l<=15 * 26 ^ l
 | 0,h=>by omega
 | 1,_=>by decide
 | l+2,_=>by
  have:=Jzu (l+1) omg;rw[Nat.pow_succ 15 (l+1),Nat.pow_succ 26 (l+1)];omega
theorem Kdc (l:Nat) (h:1<=l):wOK 3 l:=by
 unfold wOK
 induction l with
 | zero=>omega
 | succ l ih =>
  by_cases e:l=0
  ·subst e;decide
  ·have:=ih omg;rw[Nat.pow_succ 15 (l+1),Nat.pow_succ 26 (l+1)];omega
theorem J65 {w l:Nat} (h:wOK w l):wOK w (l+1):=by
 unfold wOK at *
 rw[Nat.pow_succ 15 (l+1),Nat.pow_succ 26 (l+1)];have:w * (15 ^ (l+1) * 15)=w * 15 ^ (l+1) * 15:=by rw[Eb6]
 omega
theorem Kgg {w u a b:Nat} (h:wOK w a) (h':wOK u b):wOK (w * u) (a+b+1):=by
 unfold wOK at *
 have e:∀ x:Nat,x ^ (a+b+1+1)=x ^ (a+1) * x ^ (b+1):=fun x=>by rw[<- Edi];congr 1;omega
 rw[e,e]
 calc w * u * (15 ^ (a+1) * 15 ^ (b+1))=(w * 15 ^ (a+1)) * (u * 15 ^ (b+1)):=by rw[Nat.mul_mul_mul_comm]
  _<=_:=Nat.mul_le_mul h h'
theorem Ka9:∀ (ps:List (Nat×Nat)),(∀ p∈ps,wOK p.1 p.2/\1<=p.2)->wOK (1+(ps.map (·.1)).sum) (1+(ps.map (·.2)).sum)
 | [],_=>by unfold wOK;decide
 | p :: ps,h=>by
  have ih:=Ka9 ps fun q hq=>h q (Eai _ hq)
  obtain ⟨h1,h2⟩:=h p Eaf;obtain ⟨w,l⟩:=p;simp only at h1 h2;rw[Eaq,Eaq,List.sum_cons,List.sum_cons];have hr:=Jzu l h2;have hS:=Jzu (1+(ps.map (·.2)).sum+1) omg;simp only;cases ps with
  | nil =>
   unfold wOK at *
   simp only[Eca,List.sum_nil,Nat.add_zero] at *
   have e:∀ x:Nat,x ^ (1+l+1)=x ^ l * (x * x):=fun x=>by rw[show 1+l+1=l+2 by omega,Edi,Nat.pow_two]
   have e1:∀ x:Nat,x ^ (l+1)=x ^ l * x:=fun x=>Nat.pow_succ ..
   rw[e1,e1] at h1;rw[e,e];have h3:w * (15 ^ l * 15)=w * 15 ^ l * 15:=by rw[Eb6]
   have h4:(1+w) * (15 ^ l * (15 * 15))=225 * 15 ^ l+225 * (w * 15 ^ l):=by
    rw[Ebl,Ec0,show w * (15 ^ l * (15 * 15))=w * 15 ^ l * 225 by rw[Eb6]];omega
   omega
  | cons q qs =>
   have hq:=(h q (Eai _ Eaf)).2;generalize hSv:1+((q :: qs).map (·.1)).sum=S at *
   generalize hLv:1+((q :: qs).map (·.2)).sum=L at *
   have hL3:2<=L:=by rw[<- hLv,Eaq,List.sum_cons];omega
   have e0:1+(w+((q :: qs).map (·.1)).sum)=S+w:=by omega
   have e1:1+(l+((q :: qs).map (·.2)).sum)=L+l:=by omega
   rw[e0,e1];unfold wOK at *
   have e2:∀ x:Nat,x ^ (L+l+1)=x ^ (L+1) * x ^ l:=fun x=>by rw[<- Edi];congr 1;omega
   have e3:∀ x:Nat,x ^ (l+1)=x ^ l * x:=fun x=>Nat.pow_succ ..
   rw[e3,e3] at h1;rw[e2,e2];have h5:5 * 15 ^ (L+1)<=26 ^ (L+1):=by
    obtain ⟨m,rfl⟩:∃ m,L=m+2:=⟨L - 2,omg⟩
    have:∀ m:Nat,5 * 15 ^ (m+3)<=26 ^ (m+3):=by
     intro m
     induction m with
     | zero=>decide
     | succ m ihm=>rw[show m+1+3=(m+3)+1 by omega,Nat.pow_succ 15 (m+3),Nat.pow_succ 26 (m+3)];omega
    exact this m
   generalize 15 ^ (L+1)=b at *
   generalize 26 ^ (L+1)=a at *
   generalize 15 ^ l=d at *
   generalize 26 ^ l=c at *
   have t1:(S+w) * (b * d)=(S * b) * d+b * (w * d):=by
    rw[Ebl,Eb6,Nat.mul_left_comm w b d]
   have t2:(S * b) * d<=a * d:=Ea3 _ ih;have t3:26 * (a * d)<=15 * (a * c):=by
    have:=Ecc a hr;rw[Nat.mul_left_comm a 26 d,Nat.mul_left_comm a 15 c] at this;exact this
   have t4:15 * (b * (w * d))<=26 * (b * c):=by
    have h6:15 * (w * d)<=26 * c:=by
     have:w * (d * 15)=15 * (w * d):=by rw[<- Eb6,Ecg]
     omega
    have:=Ecc b h6;rw[Nat.mul_left_comm b 15 (w * d),Nat.mul_left_comm b 26 c] at this;exact this
   have t5:5 * (b * c)<=a * c:=by
    have:=Ea3 c h5;rw[Eb6] at this;exact this
   rw[t1];omega
theorem J1k:∀ (n:Nat) (f:RT),(f.enc []).length<=n->okQ f->wOK (wgt f) (f.enc []).length
 | 0,f,h,_=>by have:=Jsi f [];omega
 | n+1,.mk op s m c kids,h,ok=>by
  obtain ⟨h1,h2,h3⟩:=Jwl.1 ok;rw[Jqs,Ead] at h ⊢;have hkid:∀ p∈kids.list,wOK (wgt p.2) (p.2.enc p.1).length/\1<=(p.2.enc p.1).length:=fun p hp=>by
   have hl:(p.2.enc p.1).length<=kids.enc.length:=by
    rw[<- Jt5 kids,Js7];have:∀ l:List RKT,p∈l->(p.2.enc p.1).length<=(l.flatMap fun q=>q.2.enc q.1).length:=by
     intro l
     induction l with
     | nil=>intro h;cases h
     | cons a l ih =>
      intro h;rw[Ec5,Eac];rcases Eak.1 h with rfl | h
      ·omega
      ·have:=ih h;omega
    exact this _ hp
   have e:=Jvw p.2 p.1;refine ⟨?_,Jsi p.2 p.1⟩;have:=J1k n p.2 omg (Jsn.1 h3 p hp);rw[<- e] at this;exact this
  rw[J2d,Jsq];have hsum:(kids.list.map fun p=>(p.2.enc p.1).length).sum=kids.enc.length:=by
   conv=>rhs;rw[<- Jt5 kids,Js7]
   rw[List.length_flatMap]
  unfold wK;by_cases o4:op=4
  ·rw[if_pos o4];subst o4;have h2l:kids.len=2:=by simp[Jqq] at h1;omega
   cases kids with
   | nil=>simp[RF.len] at h2l
   | cons a t0 r =>
    cases r with
    | nil=>simp[RF.len] at h2l
    | cons b t1 r2 =>
     cases r2 with
     | cons x y z=>simp[RF.len] at h2l
     | nil =>
      have a0:=(hkid (a,t0) Eaf).1;have a1:=(hkid (b,t1) (Eai _ Eaf)).1;have hm':=Kgg a0 a1;rw[Jqv,Jqv,Jsd,Eac,Eaw];exact hm'
  ·rw[if_neg o4];by_cases o5:op=5\/op=6
   ·rw[if_pos o5];have h1l:kids.len=1:=by rcases o5 with rfl | rfl<;>simp[Jqq] at h1<;>omega
    cases kids with
    | nil=>simp[RF.len] at h1l
    | cons a t0 r =>
     cases r with
     | cons b c d=>simp[RF.len] at h1l
     | nil =>
      have a0:=(hkid (a,t0) Eaf).1;rw[Jqv,Jsd,Eaw];exact J65 a0
   ·rw[if_neg o5];by_cases o8:op=8\/op=9
    ·rw[if_pos o8];have hw:=Ka9 (kids.list.map fun p=>(wgt p.2,(p.2.enc p.1).length)) fun q hq=>by
      obtain ⟨p,hp,rfl⟩:=Eap.1 hq;exact hkid p hp
     rw[Ebx,Ebx] at hw;have e1:(kids.list.map ((fun x:Nat×Nat=>x.2) ∘ fun p:RKT=>(wgt p.2,(p.2.enc p.1).length))).sum=kids.enc.length:=hsum;rw[e1] at hw;rw[show kids.enc.length+1=1+kids.enc.length by omega];exact hw
    ·rw[if_neg o8];exact Kdc _ omg
theorem Ju2 {f:Tree->Except Nat Tree} {w:Nat}:∀ {l:List Tree} {i:Nat} {us:List (Nat×Tree)},(∀ t∈l,∀ u,f t=.ok u->(u.enc []).length<=w * (t.enc []).length)->Jqw f i l=.ok us->Jqn (us.map (·.2))<=w * Jqn l
 | [],i,us,_,h=>by rw[Jqw] at h;cases h;exact Eau _
 | t :: l,i,us,hw,h=>by
  rw[Jqw] at h;have hw':=fun x hx=>hw x (Eai t hx)
  rw[Jq8,Nat.mul_add];cases hf:f t with
  | error e =>
   rw[hf] at h;simp only at h;split at h
   ·cases h
   ·have:=Ju2 hw' h;omega
  | ok u =>
   rw[hf] at h;cases hk:Jqw f (i+1) l with
   | error e=>rw[hk] at h;cases h
   | ok us' =>
    rw[hk] at h;cases h;have h1:=Ju2 hw' hk;have h2:=hw t Eaf u hf;simp only[Eaq];rw[Jq8];omega
theorem Jv3 {f:Tree->Except Nat Tree}:∀ {l:List Tree} {i:Nat} {us:List (Nat×Tree)},Jqw f i l=.ok us->us.Pairwise fun a b=>a.1<b.1
 | [],i,us,h=>by rw[Jqw] at h;cases h;exact .nil
 | t :: l,i,us,h=>by
  rw[Jqw] at h;cases hf:f t with
  | error e =>
   rw[hf] at h;simp only at h;split at h
   ·cases h
   ·exact Jv3 h
  | ok u =>
   rw[hf] at h;cases hk:Jqw f (i+1) l with
   | error e=>rw[hk] at h;cases h
   | ok us' =>
    rw[hk] at h;cases h;exact Ebf.2 ⟨fun p hp=>by have:=Jvd hk p hp;simp only;omega,Jv3 hk⟩
def Jq9 (ns:List (List UInt8)) (us:List (Nat×Tree)):List KT:=us.map fun p=>(ns.getD p.1 [],p.2)
theorem Jxg (ns:List (List UInt8)) (us:List (Nat×Tree)):(Jq9 ns us).map (·.2)=us.map (·.2):=by unfold Jq9;rw[Ebx];rfl
theorem J4y {l:List KT} {us:List (Nat×Tree)} (hu:∀ p∈us,p.1<l.length):∀ q∈Jq9 (l.map (·.1)) us,∃ r∈l,q.1=r.1:=by
 intro q hq;obtain ⟨p,hp,rfl⟩:=Eap.1 hq;have:=hu p hp;refine ⟨l[p.1],Eb1 this,?_⟩;simp[Eaj,Eaa this]
theorem J2c {l:List KT} (hr:Rise l) {us:List (Nat×Tree)} (hi:us.Pairwise fun a b=>a.1<b.1) (hu:∀ p∈us,p.1<l.length):Rise (Jq9 (l.map (·.1)) us):=by
 unfold Rise Jq9;rw[Ecu];refine List.Pairwise.imp_of_mem ?_ hi;intro a b ha hb hab;have h1:=hu a ha;have h2:=hu b hb;have:=List.pairwise_iff_getElem.1 hr a.1 b.1 h1 h2 hab;simpa[Eaj,Eaa h1,Eaa h2] using this
def preB (us:List Tree):Except Nat (List Tree)->Except Nat (List Tree)
 | .ok l=>.ok (us ++ l)
 | .error e=>.error e
theorem J0u {obj:Bool} {v u:Tree} {f:Tree->Except Nat Tree} {fs:List (Tree->Except Nat Tree)} (h:f v=.ok u) (us:List Tree):preB us (Jrn obj v (f :: fs))=preB (us ++ [u]) (Jrn obj v fs):=by
 rw[Jrn,h];cases Jrn obj v fs with
 | ok ks=>simp[preB]
 | error e=>rfl
theorem Ju1 {obj:Bool} {v:Tree} {f:Tree->Except Nat Tree} {fs:List (Tree->Except Nat Tree)} {e:Nat} (h:f v=.error e) (he:e=5\/obj=true) (us:List Tree):preB us (Jrn obj v (f :: fs))=.error e:=by
 rw[Jrn,h];simp only;rw[if_pos he];rfl
theorem J0y {v:Tree} {f:Tree->Except Nat Tree} {fs:List (Tree->Except Nat Tree)} {e:Nat} (h:f v=.error e) (he:e≠5) (us:List Tree):preB us (Jrn false v (f :: fs))=preB us (Jrn false v fs):=by
 rw[Jrn,h];simp only;rw[if_neg (by simp[he])]
theorem J6j {a:List (List UInt8)} {b:List Tree} (h:a.length=b.length):(a.zip b).map (·.1)=a:=by
 induction a generalizing b with
 | nil=>rfl
 | cons x a ih =>
  cases b with
  | nil=>simp at h
  | cons y b=>rw[List.zip_cons_cons,Eaq,ih (by simpa using h)]
theorem J57 {a:List (List UInt8)} {b:List Tree} (h:a.length=b.length):(a.zip b).map (·.2)=b:=by
 induction a generalizing b with
 | nil=>cases b with
  | nil=>rfl
  | cons y b=>simp at h
 | cons x a ih =>
  cases b with
  | nil=>simp at h
  | cons y b=>rw[List.zip_cons_cons,Eaq,ih (by simpa using h)]
def resB:Except Nat Bool->Bool
 | .ok b=>b
 | .error _=>false
def resC:Except Nat Bool->Int
 | .ok _=>0
 | .error e=>e
theorem Kbg {c:Node} (h:Js2 c):valL ((ndT c).enc [])=[[.int .i64 c.kind,.int .i64 c.many,.str c.name,.str c.s,.bool c.neg,.int .i64 c.e]]:=by
 obtain ⟨h1,h2,h3⟩:=h;have h4:c.many=0:=by
  unfold G3 at h3;split at h3
  ·exact h3.1
  ·split at h3
   ·exact h3.1
   ·split at h3
    ·exact h3.2.1
    ·split at h3
     ·omega
     ·exact h3.elim
 unfold ndT;rw[A6,Bl,h2,h4];rfl
theorem Kbb (c:Node):((ndT c).enc []).length=1:=by unfold ndT;rw[A6,Bl];rfl
theorem Jya {p:RKT} {kids:RF} (hp:p∈kids.list):(p.2.enc p.1).length<=kids.enc.length:=by
 rw[<- Jt5 kids,Js7];have:∀ l:List RKT,p∈l->(p.2.enc p.1).length<=(l.flatMap fun q=>q.2.enc q.1).length:=by
  intro l
  induction l with
  | nil=>intro h;cases h
  | cons a l ih =>
   intro h;rw[Ec5,Eac];rcases Eak.1 h with rfl | h
   ·omega
   ·have:=ih h;omega
 exact this _ hp
theorem Jvh:∀ (n:Nat) (f:RT) (v:Tree) (e:Nat),(f.enc []).length<=n->Jrf f v=.error e->e=5
 | 0,f,v,e,h,_=>by have:=Jsi f [];omega
 | n+1,.mk op s m c kids,v,e,h,hh=>by
  rw[Jqs,Ead] at h;rw[Jwx] at hh;have hkid:∀ p∈kids.list,∀ v e,Jrf p.2 v=.error e->e=5:=fun p hp v e he=>by
   have hl:(p.2.enc p.1).length<=kids.enc.length:=Jya hp;rw[Jvw p.2 p.1] at hl;exact Jvh n p.2 v e omg he
  unfold J15 at hh;split at hh
  ·split at hh
   ·rename_i h1;cases hh;exact Jsp h1
   ·cases hh
  ·rw[Jtr] at hh;cases hks:kids.list with
   | nil=>rw[hks] at hh;cases hh
   | cons p r =>
    rw[hks] at hh;simp only[Eaq] at hh;have hp:=hkid p (by rw[hks];exact Eaf);split at hh
    ·rename_i h1;cases hh;exact hp v _ h1
    ·split at hh
     ·cases hh
     ·split at hh
      ·cases hh
      ·cases r with
       | nil=>cases hh
       | cons q r=>exact hkid q (by rw[hks];exact Eai _ Eaf) v e hh
theorem Ye {n:Node}:∀ {l:List KT},n∈(A1 l).enc->∃ p∈l,n∈p.2.enc p.1
 | [],h=>by simp[A1,Bl] at h
 | p :: l,h=>by
  rw[A1,A0,Eax] at h;rcases h with h | h
  ·exact ⟨p,Eaf,h⟩
  ·obtain ⟨q,h1,h2⟩:=Ye h;exact ⟨q,Eai _ h1,h2⟩
theorem Jli {k:Int} {l:List KT} (h:∀ p∈l,p.1.length<=1000000/\FitT p.2):FitT (nd k l):=by
 intro n hn;unfold nd at hn;rw[A6] at hn;rcases Eak.1 hn with rfl | hn
 ·exact ⟨by simp,by simp,by simp only;omega,by simp only;omega⟩
 ·obtain ⟨p,h1,h2⟩:=Ye hn;exact Y3 (h p h1).2 (h p h1).1 n h2
theorem Jnz {t w y:Tree} {x:Step} (hf:FitT t) (hw:Way t x w) (hy:FitT y):FitT (putT t x y):=by
 cases hw with
 | list l h hp hn hi =>
  subst h;rw[Cr hp hn];refine Jli fun p hp'=>?_
  rcases Eb3 hp' with hp' | rfl
  ·have:=Mg (k:=5) (s:=[]) (g:=false) (e:=0) (kids:=A1 l) hf (p:=p) (by rw[Ea];exact hp');exact this
  ·exact ⟨by simp,hy⟩
 | obj l h hp hr hi =>
  subst h;rw[C7 hp hr hi];refine Jli fun p hp'=>?_
  obtain ⟨q,hq,rfl⟩:=Eap.1 hp';have:=Mg (k:=6) (s:=[]) (g:=false) (e:=0) (kids:=A1 l) hf (p:=q) (by rw[Ea];exact hq);split
  ·rename_i he;exact ⟨by simp only;rw[<- he];exact this.1,hy⟩
  ·exact this
theorem Jdv:∀ {p:List Step} {t u y:Tree},okT t->okT u->FitT t->FitT u->setT p t u=.ok y->FitT y
 | [],t,u,y,_,_,_,hu,h=>by cases h;exact hu
 | x :: p,t,u,y,ht,hu,ft,fu,h=>by
  rw[setT] at h;cases hi:inT t x with
  | error e=>rw[hi] at h;cases h
  | ok w =>
   rw[hi] at h;simp only at h;have hw:=Jv ht hi;cases hz:setT p w u with
   | error e=>rw[hz] at h;cases h
   | ok z =>
    rw[hz] at h;simp only at h;cases h;exact Jnz ft hw (Jdv (Ig ht hw) hu (Ji9 ft hi) fu hz)
structure QFit (r:YRow):Prop where
 s:r.s.length<=1000000
 name:r.name.length<=1000000
def FitQ (f:RT):Prop:=∀ r∈f.enc [],QFit r
theorem Jsj {op:Int} {s:List UInt8} {n:Int} {c:Node} {kids:RF} (h:FitQ (.mk op s n c kids)) {p:RKT} (hp:p∈kids.list):p.1.length<=1000000/\FitQ p.2:=by
 have hk:∀ r∈p.2.enc p.1,QFit r:=fun r hr=>by
  refine h r ?_;rw[Jqs,<- Jt5 kids,Js7];exact Eai _ (List.mem_flatMap.2 ⟨p,hp,hr⟩)
 obtain ⟨nm,t⟩:=p;obtain ⟨k',s',n',c',kids'⟩:=t;simp only[Jqs] at hk;refine ⟨(hk _ Eaf).name,fun r hr=>?_⟩;simp only[Jqs] at hr;rcases Eak.1 hr with rfl | hr
 ·exact ⟨(hk _ Eaf).s,Eau _⟩
 ·exact hk r (Eai _ hr)
theorem Jz6 (n:Nat) (l:List Tree):Jqn (l.drop n)<=Jqn l:=by
 conv=>rhs;rw[<- Ebk n l,Jtk]
 omega
theorem Jx7 (n:Nat) (l:List Tree):Jqn (l.eraseIdx n)<=Jqn l:=by
 rw[List.eraseIdx_eq_take_drop_succ,Jtk]
 conv=>rhs;rw[<- Ebk n l,Jtk]
 have:=Jz6 1 (l.drop n);rw[Ebj] at this;omega
theorem Jy1:∀ {p:List Step} {t:Tree} {e:Nat},delT p t=.error e->e=5
 | [],t,e,h=>by rw[delT] at h;cases h
 | x :: p,t,e,h=>by
  rw[delT] at h;split at h
  ·cases h
  ·cases hi:inT t x with
   | error er =>
    rw[hi] at h;simp only at h;split at h
    ·cases h
    ·cases h;rfl
   | ok u =>
    rw[hi] at h;simp only at h;split at h
    ·cases h
    ·cases hd:delT p u with
     | error er=>rw[hd] at h;cases h;exact Jy1 hd
     | ok w=>rw[hd] at h;simp only[setT,hi] at h;cases h
theorem Khg {t u:Tree} {x:Step} (ht:GT t) (h:inT t x=.ok u):GT (J01 t x)/\((J01 t x).enc []).length<=(t.enc []).length:=by
 have hk:=Jtw ht;have hsz:=Jq1 t;obtain ⟨k,s,g,e,kids⟩:=t;cases hp:x.part with
 | true =>
  have e1:J01 (.mk k s g e kids) x=listT ((Jqe (.mk k s g e kids)).eraseIdx x.n.toNat):=if_pos hp;rw[e1];refine ⟨Jti fun y hy=>hk y ((List.eraseIdx_sublist _ _).subset hy),?_⟩;rw[Jsb];have:=Jx7 x.n.toNat (Jqe (.mk k s g e kids));omega
 | false =>
  have e1:J01 (.mk k s g e kids) x=nd k (A8 x.name kids.list):=if_neg (by rw[hp];decide);rw[e1];by_cases k6:k=6
  ·subst k6;refine ⟨J49 (Rise.kept ((Lu.1 ht.1).2.1.2.2 rfl) _) fun p hp=>Jt9 ht (Jto hp).1,?_⟩;unfold nd;rw[A6,A6,Ead,Ead];have:=El x.name kids;omega
  ·rw[Iw hp k6] at h;cases h
theorem J30:∀ {p:List Step} {t w:Tree},GT t->delT p t=.ok w->GT w/\(w.enc []).length<=(t.enc []).length
 | [],t,w,ht,h=>by
  rw[delT] at h;cases h;refine ⟨Jwp,?_⟩;rw[Jt1];exact Et t []
 | x :: p,t,w,ht,h=>by
  rw[delT] at h;split at h
  ·cases h;exact ⟨ht,Eah _⟩
  ·cases hi:inT t x with
   | error er =>
    rw[hi] at h;simp only at h;split at h
    ·cases h;exact ⟨ht,Eah _⟩
    ·cases h
   | ok u =>
    rw[hi] at h;simp only at h;split at h
    ·cases h;exact Khg ht hi
    ·cases hd:delT p u with
     | error er=>rw[hd] at h;cases h
     | ok w' =>
      rw[hd] at h;simp only at h;have hu:GT u:=⟨Ig ht.1 (Jv ht.1 hi),Ji9 ht.2 hi⟩
      obtain ⟨h1,h2⟩:=J30 hu hd;have hs:=h;obtain ⟨w2,a1,a2,a3,a4,a5,a6⟩:=Kg ht.1 h1.1 h;have:w2=u:=by simp only[getT,hi] at a1;cases a1;rfl
      subst this;exact ⟨⟨a4,Jdv ht.1 h1.1 ht.2 h1.2 hs⟩,omg⟩
theorem J12:∀ (rs:List Int) (s:List UInt8) (f i:Nat),AllR rs->s.drop i=utfs rs->s.length<i+f->Jub s f i=rs.map utf
 | [],s,0,i,_,_,_=>rfl
 | r :: rs,s,0,i,ha,h,hf=>by
  have:=congrArg List.length h;rw[Ea5,Ki,Eac] at this;have:=I4 r;omega
 | [],s,f+1,i,_,h,_=>by
  have hl:=congrArg List.length h;simp[utfs] at hl;rw[Jub,if_neg omg];rfl
 | r :: rs,s,f+1,i,ha,h,hf=>by
  rw[Ki] at h;obtain ⟨h1,_⟩:=Rp ha.head (utfs rs);rw[<- h,Ny,Nat.add_zero] at h1;have hp:=I4 r;have hd:s.drop (i+rlen s i)=utfs rs:=by
   rw[<- Ebj,h,h1,Edh]
  have hlt:i<s.length:=by
   have:=congrArg List.length h;rw[Ea5,Eac] at this;omega
  rw[Jub,if_pos hlt,show max (rlen s i) 1=rlen s i by omega,J12 rs s f _ ha.tail hd omg,h,h1,List.take_left];rfl
theorem Ju4 {rs:List Int} (h:AllR rs):Jrx (utfs rs)=rs.map utf:=J12 rs _ _ 0 h rfl omg
theorem J4r (rs:List Int):(rs.map utf).flatten=utfs rs:=rfl
theorem Kci {s:List UInt8} (h:valid s=true):valid (Jrx s).reverse.flatten=true:=by
 obtain ⟨rs,ha,rfl⟩:=Jb.1 h;rw[Ju4 ha,<- List.map_reverse,J4r];exact Jb.2 ⟨_,fun r hr=>ha r (List.mem_reverse.1 hr),rfl⟩
theorem Kad {s:List UInt8} (n:Nat) (h:valid s=true):valid ((Jrx s).drop n).flatten=true:=by
 obtain ⟨rs,ha,rfl⟩:=Jb.1 h;rw[Ju4 ha,<- Ec2,J4r];exact Jb.2 ⟨_,fun r hr=>ha r (Ea6 hr),rfl⟩
theorem Kdf {es:List (Tree->Except Nat Tree)} (h:∀ f∈es,∀ v e,f v=.error e->e=5\/e=6) (v:Tree) (e:Nat) (he:(es.headD fun _=>.error 5) v=.error e):e=5\/e=6:=by
 cases es with
 | nil=>cases he;exact .inl rfl
 | cons f fs=>exact h f Eaf v e he
theorem Kd3 {es:List (Tree->Except Nat Tree)} (h:∀ f∈es,∀ v e,f v=.error e->e=5\/e=6) (v:Tree) (e:Nat) (he:(es.getD 1 fun _=>.error 5) v=.error e):e=5\/e=6:=by
 rw[Eaj] at he;cases hf:es[1]? with
 | none=>rw[hf] at he;cases he;exact .inl rfl
 | some f=>rw[hf] at he;exact h f (Eag hf) v e he
theorem J2b {f:Tree->Except Nat Tree}:∀ {l:List Tree} {e:Nat},mapE f l=.error e->e=5
 | [],e,h=>by cases h
 | t :: l,e,h=>by
  rw[mapE] at h;cases hf:f t with
  | error e' =>
   rw[hf] at h;simp only at h;split at h
   ·cases h;rfl
   ·exact J2b h
  | ok u =>
   rw[hf] at h;cases hk:mapE f l with
   | error e'=>rw[hk] at h;cases h;exact J2b hk
   | ok us=>rw[hk] at h;cases h
theorem J2o {f:Tree->Except Nat Tree}:∀ {l:List KT} {e:Nat},mapN f l=.error e->e=5
 | [],e,h=>by cases h
 | t :: l,e,h=>by
  rw[mapN] at h;cases hf:f t.2 with
  | error e' =>
   rw[hf] at h;simp only at h;split at h
   ·cases h;rfl
   ·exact J2o h
  | ok u =>
   rw[hf] at h;cases hk:mapN f l with
   | error e'=>rw[hk] at h;cases h;exact J2o hk
   | ok us=>rw[hk] at h;cases h
theorem Kag {f:Tree->Except Nat Tree} {b:Bool} {v:Tree} {e:Nat} (h:Jr7 f b v=.error e):e=5:=by
 unfold Jr7 at h;split at h
 ·split at h
  ·split at h
   ·rename_i h1;cases h;exact J2o h1
   ·cases h
  ·split at h
   ·rename_i h1;cases h;exact J2b h1
   ·cases h
 ·cases h;rfl
theorem Jx1 {obj:Bool} {v:Tree}:∀ {fs:List (Tree->Except Nat Tree)} {e:Nat},(∀ f∈fs,∀ v e,f v=.error e->e=5\/e=6)->Jrn obj v fs=.error e->e=5\/e=6
 | [],e,_,h=>by cases h
 | f :: fs,e,hf,h=>by
  rw[Jrn] at h;cases hv:f v with
  | error e' =>
   rw[hv] at h;simp only at h;split at h
   ·cases h;exact hf f Eaf v _ hv
   ·exact Jx1 (fun g hg=>hf g (Eai _ hg)) h
  | ok u =>
   rw[hv] at h;cases hk:Jrn obj v fs with
   | error e'=>rw[hk] at h;cases h;exact Jx1 (fun g hg=>hf g (Eai _ hg)) hk
   | ok us=>rw[hk] at h;cases h
theorem J8h {p:List Step}:∀ {l:List Tree} {e:Nat},Jru p l=.error e->e=5
 | [],e,h=>by cases h
 | t :: l,e,h=>by
  rw[Jru] at h;cases hf:Jrd p t with
  | error e'=>rw[hf] at h;cases h;exact Jsp hf
  | ok u =>
   rw[hf] at h;cases hk:Jru p l with
   | error e'=>rw[hk] at h;cases h;exact J8h hk
   | ok us=>rw[hk] at h;cases h
theorem Jy4:∀ (n:Nat) (f:RT) (v:Tree) (e:Nat),(f.enc []).length<=n->Jql f v=.error e->e=5\/e=6
 | 0,f,v,e,h,_=>by have:=Jsi f [];omega
 | n+1,.mk op s m c kids,v,e,hl,h=>by
  rw[Jqs,Ead] at hl;have hkid:∀ f∈Jqp kids,∀ v e,f v=.error e->e=5\/e=6:=fun f hf v e he=>by
   rw[Jrs] at hf;obtain ⟨p,hp,rfl⟩:=Eap.1 hf;have:=Jya hp;rw[Jvw p.2 p.1] at this;exact Jy4 n p.2 v e omg he
  rw[Jww] at h;unfold Jrv at h;by_cases o0:op=0
  ·rw[if_pos o0] at h;cases h
  rw[if_neg o0] at h;by_cases o1:op=1
  ·rw[if_pos o1] at h;exact .inl (Juj h)
  rw[if_neg o1] at h;by_cases o2:op=2
  ·rw[if_pos o2] at h;exact .inl (Juj h)
  rw[if_neg o2] at h;by_cases o3:op=3
  ·rw[if_pos o3] at h;obtain ⟨k,a,b,c',d⟩:=v;have h:(if k=0 then (.ok nilT:Except Nat Tree) else if k=5 then .ok (listT ((d.list.map (·.2)).drop m.toNat)) else if k=4 then .ok (strT ((Jrx a).drop m.toNat).flatten) else .error 5)=.error e:=h;split at h
   ·cases h
   ·split at h
    ·cases h
    ·split at h
     ·cases h
     ·cases h;exact .inl rfl
  rw[if_neg o3] at h;by_cases o5:op=5\/op=6
  ·rw[if_pos o5] at h;exact .inl (Kag h)
  rw[if_neg o5] at h;by_cases o8:op=8\/op=9
  ·rw[if_pos o8] at h;unfold Jrr at h;split at h
   ·rename_i h1;cases h;exact Jx1 hkid h1
   ·cases h
  rw[if_neg o8] at h;by_cases o10:op=10
  ·rw[if_pos o10] at h;unfold toE at h;split at h
   ·cases h
   ·split at h
    ·cases h
    ·cases h;exact .inl rfl
  rw[if_neg o10] at h;by_cases o11:op=11
  ·rw[if_pos o11] at h;unfold Jud at h;split at h
   ·split at h
    ·cases h
    ·cases h;exact .inl rfl
   ·cases h;exact .inl rfl
  rw[if_neg o11] at h;by_cases o12:op=12\/op=13
  ·rw[if_pos o12] at h;unfold Jte at h;split at h
   ·split at h
    ·rename_i h1;cases h;exact .inl (J8h h1)
    ·cases h
   ·cases h;exact .inl rfl
  rw[if_neg o12] at h;by_cases o14:op=14
  ·rw[if_pos o14] at h;obtain ⟨k,a,b,c',d⟩:=v;have h:(if k=0 then (.ok (listT []):Except Nat Tree) else if k=5 then .ok (listT (d.list.map (·.2)).reverse) else if k=4 then .ok (strT (Jrx a).reverse.flatten) else .error 5)=.error e:=h;split at h
   ·cases h
   ·split at h
    ·cases h
    ·split at h
     ·cases h
     ·cases h;exact .inl rfl
  rw[if_neg o14] at h;by_cases o15:op=15
  ·rw[if_pos o15] at h;exact .inl (Jy1 h)
  rw[if_neg o15] at h;by_cases o7:op=7
  ·rw[if_pos o7,Jtr] at h;cases hks:kids.list with
   | nil=>rw[hks] at h;cases h;exact .inl rfl
   | cons p r =>
    rw[hks] at h;simp only[Eaq,List.headD_cons] at h;cases hh:Jrf p.2 v with
    | error er =>
     rw[hh] at h;cases h;exact .inl (Jvh _ p.2 v _ (Eah _) hh)
    | ok b =>
     rw[hh] at h;cases b with
     | true=>cases h
     | false=>cases h;exact .inr rfl
  rw[if_neg o7] at h;cases hh:(Jqp kids).headD (fun _=>.error 5) v with
  | error er=>rw[hh] at h;cases h;exact Kdf hkid v _ hh
  | ok b=>rw[hh] at h;exact Kd3 hkid _ _ h
def GW (w:Nat) (t u:Tree):Prop:=GT u/\(u.enc []).length<=w * (t.enc []).length
def EvGT (f:RT):Prop:=∀ t u,GT t->(t.enc []).length * wgt f<=10 ^ 18->Jql f t=.ok u->GW (wgt f) t u
def GK (p:KT):Prop:=valid p.1=true/\p.1.length<=1000000/\GT p.2
theorem J6u (k:Int) (l:List KT):((nd k l).enc []).length=Jqn (l.map (·.2))+1:=by
 unfold nd;rw[A6,Ead,Jsu]
theorem Jyv {k:Int} {s:List UInt8} {g:Bool} {e:Int} {kids:Forest} (h:GT (.mk k s g e kids)):s.length<=1000000/\(k=4->valid s=true):=by
 refine ⟨(h.2 ⟨k,kids.len,[],s,g,e⟩ (by rw[A6];exact Eaf)).s,fun h4=>?_⟩;have:=(Lu.1 h.1).1;subst h4;simp[G3] at this;exact this.1
theorem J5y {f:Tree->Except Nat Tree} {w:Nat}:∀ {l us:List Tree},mapE f l=.ok us->(∀ t∈l,∀ u,f t=.ok u->GW w t u)->(∀ u∈us,GT u)/\Jqn us<=w * Jqn l
 | [],us,h,_=>by
  rw[mapE] at h;cases h;exact ⟨fun u hu=>(by cases hu),Eau _⟩
 | t :: l,us,h,hl=>by
  have hl':=fun x hx=>hl x (Eai t hx)
  rw[mapE] at h;rw[Jq8,Nat.mul_add];cases hf:f t with
  | error e =>
   rw[hf] at h;simp only at h;split at h
   ·cases h
   ·obtain ⟨a,b⟩:=J5y h hl';exact ⟨a,omg⟩
  | ok u =>
   rw[hf] at h;simp only at h;cases hk:mapE f l with
   | error e=>rw[hk] at h;cases h
   | ok us' =>
    rw[hk] at h;cases h;obtain ⟨a,b⟩:=J5y hk hl';have hu:=hl t Eaf u hf;have h2:=hu.2;refine ⟨fun x hx=>?_,by rw[Jq8];omega⟩;rcases Eak.1 hx with rfl | hx
    ·exact hu.1
    ·exact a x hx
theorem J6e {f:Tree->Except Nat Tree} {w:Nat}:∀ {l us:List KT},mapN f l=.ok us->(∀ t∈l,∀ u,f t.2=.ok u->GW w t.2 u)->(us.map (·.1)).Sublist (l.map (·.1))/\(∀ u∈us,GT u.2)/\Jqn (us.map (·.2))<=w * Jqn (l.map (·.2))
 | [],us,h,_=>by
  rw[mapN] at h;cases h;exact ⟨.slnil,fun u hu=>(by cases hu),Eau _⟩
 | t :: l,us,h,hl=>by
  have hl':=fun x hx=>hl x (Eai t hx)
  rw[mapN] at h;rw[Eaq,Eaq,Jq8,Nat.mul_add];cases hf:f t.2 with
  | error e =>
   rw[hf] at h;simp only at h;split at h
   ·cases h
   ·obtain ⟨c,a,b⟩:=J6e h hl';exact ⟨c.cons _,a,omg⟩
  | ok u =>
   rw[hf] at h;simp only at h;cases hk:mapN f l with
   | error e=>rw[hk] at h;cases h
   | ok us' =>
    rw[hk] at h;cases h;obtain ⟨c,a,b⟩:=J6e hk hl';have hu:=hl t Eaf u hf;have h2:=hu.2;refine ⟨by rw[Eaq];exact c.cons_cons _,fun x hx=>?_,by simp only[Eaq];rw[Jq8];omega⟩;rcases Eak.1 hx with rfl | hx
    ·exact hu.1
    ·exact a x hx
theorem Kfc {a b:List KT} (h:(a.map (·.1)).Sublist (b.map (·.1))) (hb:Rise b):Rise a:=by
 unfold Rise at *
 have h1:(b.map (·.1)).Pairwise fun x y=>Op.bytesLess x y=true:=Ecu.2 hb
 exact Ecu.1 (h1.sublist h)
theorem Kcw {f:Tree->Except Nat Tree} {w:Nat} (hw:1<=w) {b:Bool} {t u:Tree} (ht:GT t) (hl:∀ x∈Jqe t,∀ u,f x=.ok u->GW w x u) (h:Jr7 f b t=.ok u):GW w t u:=by
 have hsz:=Jq1 t;have hm:w * (t.enc []).length=w * Jqn (Jqe t)+w:=by rw[<- hsz,Nat.mul_add,Ect]
 unfold Jr7 at h;split at h
 ·split at h
  ·rename_i hk;cases hm':mapN f t.kids.list with
   | error e=>rw[hm'] at h;cases h
   | ok us =>
    rw[hm'] at h;cases h;obtain ⟨k,s,g,e,kids⟩:=t;obtain ⟨_,k6⟩:=hk;have k6:k=6:=k6;subst k6;obtain ⟨c,a,b'⟩:=J6e hm' (fun q hq u hu=>hl q.2 (Eap.2 ⟨q,hq,rfl⟩) u hu);refine ⟨J49 (Kfc c ((Lu.1 ht.1).2.1.2.2 rfl)) fun p hp=>?_,?_⟩
    ·obtain ⟨q,hq,e1⟩:=Eap.1 (c.subset (Eap.2 ⟨p,hp,rfl⟩));have hg:=Jt9 ht hq;rw[<- e1];exact ⟨hg.1,hg.2.1,a p hp⟩
    ·rw[J6u,hm];have:Jqn (us.map (·.2))<=w * Jqn (Jqe (.mk 6 s g e kids)):=b';omega
  ·cases hm':mapE f (Jqe t) with
   | error e=>rw[hm'] at h;cases h
   | ok us =>
    rw[hm'] at h;cases h;obtain ⟨a,b'⟩:=J5y hm' hl;refine ⟨Jti a,?_⟩;rw[Jsb,hm];omega
 ·cases h
theorem J0e {obj:Bool} {v:Tree}:∀ {fs:List (Tree->Except Nat Tree)} {ws:List Nat} {us:List Tree},fs.length=ws.length->(∀ p∈fs.zip ws,∀ u,p.1 v=.ok u->GW p.2 v u)->Jrn obj v fs=.ok us->(∀ u∈us,GT u)/\Jqn us<=ws.sum * (v.enc []).length/\(obj=true->us.length=fs.length)
 | [],ws,us,_,_,h=>by
  rw[Jrn] at h;cases h;exact ⟨fun u hu=>(by cases hu),Eau _,fun _=>rfl⟩
 | f :: fs,[],us,hn,_,_=>by simp at hn
 | f :: fs,w :: ws,us,hn,hf,h=>by
  have hf':∀ p∈fs.zip ws,∀ u,p.1 v=.ok u->GW p.2 v u:=fun p hp=>hf p (by rw[List.zip_cons_cons];exact Eai _ hp)
  have hn':fs.length=ws.length:=by simpa using hn
  rw[Jrn] at h;rw[List.sum_cons,Ebl];cases hv:f v with
  | error e =>
   rw[hv] at h;simp only at h;split at h
   ·cases h
   ·rename_i he;obtain ⟨a,b,c⟩:=J0e hn' hf' h;exact ⟨a,omg,fun ho=>absurd (.inr ho) he⟩
  | ok u =>
   rw[hv] at h;simp only at h;cases hk:Jrn obj v fs with
   | error e=>rw[hk] at h;cases h
   | ok us' =>
    rw[hk] at h;cases h;obtain ⟨a,b,c⟩:=J0e hn' hf' hk;have hu:=hf (f,w) (by rw[List.zip_cons_cons];exact Eaf) u hv;have h2:=hu.2;simp only at h2;refine ⟨fun x hx=>?_,by rw[Jq8];omega,fun ho=>by rw[Ead,Ead,c ho]⟩;rcases Eak.1 hx with rfl | hx
    ·exact hu.1
    ·exact a x hx
theorem Kgu {t:Tree} {p:List UInt8×Tree} (ht:GT t) (h:entR t=some p):GK p/\(p.2.enc []).length<=(t.enc []).length:=by
 obtain ⟨k,s,g,e,kids⟩:=t;rw[Jzf] at h;split at h
 ·cases hk:Ch sKey kids.list with
  | none=>rw[hk] at h;cases h
  | some u =>
   rw[hk] at h;obtain ⟨k',s',g',e',kids'⟩:=u;simp only at h;split at h
   ·rename_i k6 k4;cases h;obtain ⟨q,hq,e1,e2⟩:=Kj7 hk;have hg:=(Jt9 ht hq).2.2;rw[e1] at hg;have htx:=Jyv hg;refine ⟨⟨htx.2 k4,htx.1,?_⟩,?_⟩
    ·show GT ((Ch sVal kids.list).getD nilT);cases hv:Ch sVal kids.list with
     | none=>exact Jwp
     | some w =>
      obtain ⟨r,hr,e3,e4⟩:=Kj7 hv;rw[Option.getD_some,<- e3];exact (Jt9 ht hr).2.2
    ·show (((Ch sVal kids.list).getD nilT).enc []).length<=_;rw[A6,Ead];cases hv:Ch sVal kids.list with
     | none=>rw[Option.getD_none,Jt1];omega
     | some w =>
      obtain ⟨r,hr,e3,e4⟩:=Kj7 hv;rw[Option.getD_some,<- e3];have:=Jd7 hr;omega
   ·cases h
 ·cases h
theorem J7n:∀ {l:List Tree} {out res:List KT},(∀ t∈l,GT t)->Rise out->(∀ p∈out,GK p)->Jt2 l out=some res->Rise res/\(∀ p∈res,GK p)/\(A1 res).enc.length<=(A1 out).enc.length+Jqn l
 | [],out,res,_,hr,ho,h=>by
  rw[Jt2] at h;cases h;exact ⟨hr,ho,Nat.le_add_right _ _⟩
 | t :: l,out,res,hl,hr,ho,h=>by
  rw[Jt2] at h;cases he:entR t with
  | none=>rw[he] at h;cases h
  | some p =>
   rw[he] at h;simp only at h;obtain ⟨h1,h2⟩:=Kgu (hl t Eaf) he;obtain ⟨a,b,c⟩:=J7n (fun x hx=>hl x (Eai _ hx)) (Kh (hr.kept _) fun q hq=>(Jto hq).2) (fun q hq=>by
    rcases Jjz.1 hq with rfl | hq
    ·exact h1
    ·exact ho q (Jto hq).1) h
   have h3:=Iv p.1 p.2 (A8 p.1 out);have h4:=J1u p.1 out;exact ⟨a,b,by rw[Jq8];omega⟩
theorem toE_gt {t u:Tree} (ht:GT t) (hb:(t.enc []).length<=10 ^ 18) (h:toE t=.ok u):GW 3 t u:=by
 have hsz:=Jq1 t;have hll:=Jrh (Jqe t);obtain ⟨k,s,g,e,kids⟩:=t;have hkl:(Jqe (.mk k s g e kids)).length=kids.list.length:=Ea1 ..
 have hsk:Jqn (kids.list.map (·.2))=Jqn (Jqe (.mk k s g e kids)):=rfl;unfold toE at h;split at h
 ·cases h;refine ⟨Jti fun x hx=>?_,?_⟩
  ·obtain ⟨p,hp,rfl⟩:=Eap.1 hx;have hg:=Jt9 ht hp;exact J63 (Kaj hg.1 hg.2.1) hg.2.2
  ·rw[Jsb];have:Jqn (Jr6 kids.list)=2 * kids.list.length+Jqn (Jqe (.mk k s g e kids)):=Jvu kids.list;show Jqn (Jr6 kids.list)+1<=_;omega
 ·split at h
  ·cases h;have hall:∀ (l:List KT) (i:Nat),(∀ p∈l,GT p.2)->i+l.length<10 ^ 20->∀ x∈Jr3 i l,GT x:=by
    intro l
    induction l with
    | nil=>intro i _ _ x hx;cases hx
    | cons p l ih =>
     intro i hl hi x hx;rw[Jr3] at hx;rw[Ead] at hi;rcases Eak.1 hx with rfl | hx
     ·exact J63 (gt_num omg) (hl p Eaf)
     ·exact ih (i+1) (fun q hq=>hl q (Eai _ hq)) omg x hx
   refine ⟨Jti (hall _ 0 (fun p hp=>(Jt9 ht hp).2.2) (by show 0+kids.list.length<_;omega)),?_⟩;rw[Jsb];have:Jqn (Jr3 0 kids.list)=2 * kids.list.length+Jqn (Jqe (.mk k s g e kids)):=Jwj kids.list 0;show Jqn (Jr3 0 kids.list)+1<=_;omega
  ·cases h
theorem Kfs {t u:Tree} (ht:GT t) (h:Jud t=.ok u):GW 1 t u:=by
 have hsz:=Jq1 t;unfold Jud at h;split at h
 ·cases hf:Jt2 (Jqe t) [] with
  | none=>rw[hf] at h;cases h
  | some l =>
   rw[hf] at h;cases h;obtain ⟨a,b,c⟩:=J7n (Jtw ht) .nil (fun p hp=>by cases hp) hf;refine ⟨J49 a b,?_⟩;rw[J6u,<- Jsu];rw[show A1 []=.nil from rfl,Bl,Ea8] at c;omega
 ·cases h
theorem Kba {l:List Tree} (h:∀ x∈l,GT x) (S:List Nat):∀ x∈Jqo l S,GT x:=fun x hx=>by
 obtain ⟨i,_,rfl⟩:=Eap.1 hx;unfold Jq3;rw[Eaj];cases hi:l[i]? with
 | none=>exact Jwp
 | some y=>exact h y (Eag hi)
theorem Kds {grp:Bool} {s:List UInt8} {t u:Tree} (ht:GT t) (h:Jte grp s t=.ok u):GW 2 t u:=by
 have hsz:=Jq1 t;have hk:=Jtw ht;unfold Jte at h;split at h
 ·cases hf:Jru (Je s).1 (Jqe t) with
  | error e=>rw[hf] at h;cases h
  | ok ks =>
   rw[hf] at h;obtain ⟨okk,hkl,_⟩:=Jzo (fun x hx=>(hk x hx).1) hf;cases grp with
   | true =>
    cases h;refine ⟨Jti fun x hx=>?_,?_⟩
    ·obtain ⟨g,_,rfl⟩:=Eap.1 hx;exact Jti (Kba hk g)
    ·have:=Jw1 okk hkl;show ((listT ((Jri ks).map fun g=>listT (Jqo (Jqe t) g))).enc []).length<=_;rw[Jsb];omega
   | false =>
    cases h;refine ⟨Jti (Kba hk _),?_⟩;have:=Jxo hkl;show ((listT (Jqo (Jqe t) (Jra ks))).enc []).length<=_;rw[Jsb];omega
 ·cases h
theorem Kgv {t u:Tree} (ht:GT t) (h:revE t=.ok u):GW 1 t u:=by
 have hsz:=Jq1 t;have hk:=Jtw ht;have hpos:=Et t [];obtain ⟨k,s,g,e,kids⟩:=t;have htx:=Jyv ht;have h:(if k=0 then (.ok (listT []):Except Nat Tree) else if k=5 then .ok (listT (Jqe (.mk k s g e kids)).reverse) else if k=4 then .ok (strT (Jrx s).reverse.flatten) else .error 5)=.ok u:=h;split at h
 ·cases h;exact ⟨Jti fun x hx=>(by cases hx),by rw[Jsb,J3y];omega⟩
 ·split at h
  ·cases h;refine ⟨Jti fun x hx=>hk x (List.mem_reverse.1 hx),?_⟩;have:Jqn (Jqe (.mk k s g e kids)).reverse=Jqn (Jqe (.mk k s g e kids)):=by
    unfold Jqn;rw[List.map_reverse,List.sum_reverse]
   rw[Jsb];omega
  ·split at h
   ·rename_i k4;cases h;refine ⟨Kaj (Kci (htx.2 k4)) ?_,by rw[Jy8];omega⟩;rw[Jvx,Ju7];exact htx.1
   ·cases h
theorem Kdx {n:Nat} {t u:Tree} (ht:GT t) (h:Jue n t=.ok u):GW 1 t u:=by
 have hsz:=Jq1 t;have hk:=Jtw ht;have hpos:=Et t [];obtain ⟨k,s,g,e,kids⟩:=t;have htx:=Jyv ht;have h:(if k=0 then (.ok nilT:Except Nat Tree) else if k=5 then .ok (listT ((Jqe (.mk k s g e kids)).drop n)) else if k=4 then .ok (strT ((Jrx s).drop n).flatten) else .error 5)=.ok u:=h;split at h
 ·cases h;exact ⟨Jwp,by rw[Jt1];omega⟩
 ·split at h
  ·cases h;refine ⟨Jti fun x hx=>hk x (Ea6 hx),?_⟩;have:=Jz6 n (Jqe (.mk k s g e kids));rw[Jsb];omega
  ·split at h
   ·rename_i k4;cases h;refine ⟨Kaj (Kad n (htx.2 k4)) ?_,by rw[Jy8];omega⟩;have:=Jxu (Jrx s) n;rw[Ju7] at this;omega
   ·cases h
theorem GW.mono {a b:Nat} {t u:Tree} (h:GW a t u) (hab:a<=b):GW b t u:=⟨h.1,Nat.le_trans h.2 (Ea3 _ hab)⟩
theorem Jzj:∀ (n:Nat) (f:RT),(f.enc []).length<=n->okQ f->¬ Jrm f.kind->FitQ f->EvGT f
 | 0,f,h,_,_,_=>by have:=Jsi f [];omega
 | n+1,.mk op s m c kids,hl,ok,hnc,hfq=>by
  intro t u ht hb h;obtain ⟨h1,h2,h3⟩:=Jwl.1 ok;have hnc:¬ Jrm op:=hnc;rw[Jqs,Ead] at hl;have hpos:=Et t [];have hsz:=Jq1 t;have hkid:∀ p∈kids.list,op≠7->EvGT p.2:=fun p hp o7=>by
   have:=Jya hp;rw[Jvw p.2 p.1] at this;refine Jzj n p.2 omg (Jsn.1 h3 p hp) (fun hc=>?_) (Jsj hfq hp).2;rcases (h2.1 p hp).1.1 hc with hc | hc
   ·exact hnc hc
   ·exact o7 hc
  have hkl:=Jq4 kids;rw[J2d] at hb ⊢;rw[Jww] at h;unfold Jrv at h;have hself:GW 1 t t:=⟨ht,omg⟩
  by_cases o4:op=4
  ·subst o4;have hk2:kids.len=2:=by simp[Jqq] at h1;omega
   have h:(match (Jqp kids).headD (fun _=>.error 5) t with
    | .error e=>.error e
    | .ok x=>((Jqp kids).getD 1 fun _=>.error 5) x:Except Nat Tree)=.ok u:=h
   rw[show wK 4 (wgtL kids)=(wgtL kids).headD 1 * (wgtL kids).getD 1 1 from rfl] at hb ⊢;rw[Jsq] at hb ⊢;rw[Jrs] at h;cases hks:kids.list with
   | nil=>rw[hks] at hkl;simp at hkl;omega
   | cons p0 r0 =>
    cases r0 with
    | nil=>rw[hks] at hkl;simp at hkl;omega
    | cons p1 r1 =>
     rw[hks] at h hb;have hb:(t.enc []).length * (wgt p0.2 * wgt p1.2)<=10 ^ 18:=hb;show GW (wgt p0.2 * wgt p1.2) t u;have h:(match Jql p0.2 t with
      | .error e=>.error e
      | .ok x=>Jql p1.2 x:Except Nat Tree)=.ok u:=h
     have I0:=hkid p0 (by rw[hks];exact Eaf) de;have I1:=hkid p1 (by rw[hks];exact Eai _ Eaf) de;have w1:=Jtj p1.2;cases hx:Jql p0.2 t with
     | error e=>rw[hx] at h;cases h
     | ok x =>
      rw[hx] at h;have hb0:(t.enc []).length * wgt p0.2<=10 ^ 18:=by
       have:=Ecc (t.enc []).length (Ecp (wgt p0.2) w1);omega
      obtain ⟨g0,l0⟩:=I0 t x ht hb0 hx;have hb1:(x.enc []).length * wgt p1.2<=10 ^ 18:=by
       have:=Ea3 (wgt p1.2) l0;rw[Ecg (wgt p0.2),Eb6] at this;omega
      obtain ⟨g1,l1⟩:=I1 x u g0 hb1 h;refine ⟨g1,Nat.le_trans l1 ?_⟩;have:=Ecc (wgt p1.2) l0;rw[<- Eb6,Ecg (wgt p1.2) (wgt p0.2)] at this;exact this
  by_cases o5:op=5\/op=6
  ·have o0:¬ op=0/\¬ op=1/\¬ op=2/\¬ op=3/\op≠7:=by omega
   have hk1:kids.len=1:=by rcases o5 with rfl | rfl<;>simp[Jqq] at h1<;>omega
   rw[if_neg o0.1,if_neg o0.2.1,if_neg o0.2.2.1,if_neg o0.2.2.2.1,if_pos o5] at h;unfold wK at hb ⊢;rw[if_neg o4,if_pos o5] at hb ⊢;rw[Jsq] at hb ⊢;rw[Jrs] at h;cases hks:kids.list with
   | nil=>rw[hks] at hkl;simp at hkl;omega
   | cons p0 r0 =>
    rw[hks] at h hb;have hb:(t.enc []).length * wgt p0.2<=10 ^ 18:=hb;show GW (wgt p0.2) t u;have I0:=hkid p0 (by rw[hks];exact Eaf) o0.2.2.2.2;exact Kcw (Jtj _) ht (fun x hx u hu=>I0 x u (Jtw ht x hx) (by
     have h5:=Jr0 hx;have:=Ea3 (wgt p0.2) (show (x.enc []).length<=(t.enc []).length by omega);omega) hu) h
  by_cases o8:op=8\/op=9
  ·have o0:¬ op=0/\¬ op=1/\¬ op=2/\¬ op=3/\op≠7:=by omega
   rw[if_neg o0.1,if_neg o0.2.1,if_neg o0.2.2.1,if_neg o0.2.2.2.1,if_neg o5,if_pos o8] at h;unfold wK at hb ⊢;rw[if_neg o4,if_neg o5,if_pos o8] at hb ⊢;rw[Jsq] at hb ⊢;rw[Jrs] at h;unfold Jrr at h;cases hx:Jrn (decide (op=8)) t (kids.list.map fun p=>Jql p.2) with
   | error e=>rw[hx] at h;cases h
   | ok us =>
    rw[hx] at h;obtain ⟨a,b,c'⟩:=J0e (ws:=kids.list.map fun p=>wgt p.2) (by rw[Ea1,Ea1]) (fun q hq u hu=>by
     rw[List.zip_map'] at hq;obtain ⟨p,hp,rfl⟩:=Eap.1 hq;refine hkid p hp o0.2.2.2.2 t u ht ?_ hu;have h5:=Jsk (Eap.2 ⟨p,hp,rfl⟩:wgt p.2∈kids.list.map fun p=>wgt p.2);have:=Ecc (t.enc []).length (show wgt p.2<=1+(kids.list.map fun p=>wgt p.2).sum by omega);omega) hx
    rw[Ea1] at c';have hsum:Jqn us+1<=(1+(kids.list.map fun p=>wgt p.2).sum) * (t.enc []).length:=by rw[Ebl,Ec0];omega
    by_cases e8:op=8
    ·subst e8;have h:(.ok (nd 6 (Lp ((kids.list.map (·.1)).zip us))):Except Nat Tree)=.ok u:=h;cases h;have hul:=c' rfl;have hz1:=J6j (a:=kids.list.map (·.1)) (b:=us) (by rw[Ea1];exact hul.symm);have hz2:=J57 (a:=kids.list.map (·.1)) (b:=us) (by rw[Ea1];exact hul.symm);refine ⟨J49 (Jj (by rw[hz1];exact h2.2.2 rfl)) fun q hq=>?_,?_⟩
     ·have hq:=(E3 _).mem_iff.1 hq;have e1:q.1∈kids.list.map (·.1):=by rw[<- hz1];exact Eap.2 ⟨q,hq,rfl⟩
      have e2:q.2∈us:=by rw[<- hz2];exact Eap.2 ⟨q,hq,rfl⟩
      obtain ⟨p,hp,e3⟩:=Eap.1 e1;rw[<- e3];exact ⟨(h2.1 p hp).2.2 rfl,(Jsj hfq hp).1,a _ e2⟩
     ·rw[J6u,<- Jsu,Hm (E3 _),Jsu,hz2];exact hsum
    ·have h:(.ok (if decide (op=8)=true then nd 6 (Lp ((kids.list.map (·.1)).zip us)) else listT us):Except Nat Tree)=.ok u:=h;rw[if_neg (by rw[decide_eq_true_eq];exact e8)] at h;cases h;exact ⟨Jti a,by rw[Jsb];exact hsum⟩
  have hw:wK op (wgtL kids)=3:=by unfold wK;rw[if_neg o4,if_neg o5,if_neg o8]
  rw[hw] at hb ⊢;by_cases o0:op=0
  ·rw[if_pos o0] at h;cases h;exact hself.mono omg
  rw[if_neg o0] at h;by_cases o1:op=1
  ·rw[if_pos o1] at h;exact ⟨J6k ht h,by have:=Jvo h;omega⟩
  rw[if_neg o1] at h;by_cases o2:op=2
  ·rw[if_pos o2] at h;exact ⟨J6k ht h,by have:=Jvo h;omega⟩
  rw[if_neg o2] at h;by_cases o3:op=3
  ·rw[if_pos o3] at h;exact (Kdx ht h).mono omg
  rw[if_neg o3,if_neg o5,if_neg o8] at h;by_cases o10:op=10
  ·rw[if_pos o10] at h;exact toE_gt ht omg h
  rw[if_neg o10] at h;by_cases o11:op=11
  ·rw[if_pos o11] at h;exact (Kfs ht h).mono omg
  rw[if_neg o11] at h;by_cases o12:op=12\/op=13
  ·rw[if_pos o12] at h;exact (Kds ht h).mono omg
  rw[if_neg o12] at h;by_cases o14:op=14
  ·rw[if_pos o14] at h;exact (Kgv ht h).mono omg
  rw[if_neg o14] at h;by_cases o15:op=15
  ·rw[if_pos o15] at h;have:=J30 ht h;exact ⟨this.1,by have:=this.2;omega⟩
  rw[if_neg o15] at h;by_cases o7:op=7
  ·rw[if_pos o7] at h;split at h
   ·cases h
   ·split at h
    ·cases h;exact hself.mono omg
    ·cases h
  exfalso;unfold Jrm at hnc;have:∀ P:Prop,P->P:=fun _ h=>h
  simp only[Jqq] at h1
  repeat' split at h1
  all_goals first|exact h1 | omega
theorem J89 {x:Step} {p:List Step} {s:List UInt8} {g:Bool} {e:Int} {kids:Forest}:delT (x :: p) (.mk 0 s g e kids)=.ok (.mk 0 s g e kids):=by rw[delT];exact if_pos rfl
end Go.LX
namespace Go.LX
open Go Go.RowKit Go.Proofs Go.Proofs.Tryz
attribute [local irreducible] Al SWP Bi
theorem Jtp (l:List Tree) (h:Jqn l<=1350000000000):Det cx 69 [.p (.sl (Jqd l))] [] (.p (.sl (valL ((listT l).enc [])))) []:=by
 have:=Kfd (unT l) (by rw[J1i,J1d];exact h);rw[J1i,<- J3z] at this;exact this
theorem Jwu (v:Tree) (hv:(v.enc []).length<=1500000000000):Det cx 68 [.p (.sl (valL (v.enc [])))] [] (.p (.sl (Jqd (Jqe v)))) []:=by
 obtain ⟨k,s,g,e,kids⟩:=v;have:=Px [] k s g e kids (by rw[A6] at hv;simp at hv;omega);rw[Jst] at this;exact this
theorem J87 (v:Tree) (hv:(v.enc []).length<=1500000000000):Det cx 68 [.p (.sl (valL (v.enc [])))] [] (.own 900 0 (Jqe v).length) [(900,.row 25 1 (Jqd (Jqe v)))]:=by
 obtain ⟨k,s,g,e,kids⟩:=v;have:=Jc9 [] k s g e kids (by rw[A6] at hv;simp at hv;omega);rw[Jst,<- Jqh] at this;rw[show (Jqe (.mk k s g e kids)).length=kids.list.length from Ea1 ..];exact this
theorem J0o:∀ (l:List Tree) (j:Nat),(Jqd l).eraseIdx j=Jqd (l.eraseIdx j)
 | [],_=>rfl
 | _ :: _,0=>rfl
 | t :: l,j+1=>by
  rw[show Jqd (t :: l)=[.sl (valL (t.enc []))] :: Jqd l from rfl,List.eraseIdx_cons_succ,List.eraseIdx_cons_succ,J0o l j];rfl
theorem Jz5:∀ (p:List Step) (t:Tree),p.length<=1000->(∀ x∈p,Bc x)->GT t->(t.enc []).length<=150000000000->Det cx 22 [.p (.sl (Bb p)),.p (.sl (valL (t.enc [])))] [] (getR (delT p t)) []
 | [],t,_,_,_,_=>by
  rw[delT,getR];(refine bgo func22 ?_;simp only[go_sem,simprocAttr,Aq]);(repeat'(first|((refine Jqa J1a ?_);simp only[go_sem,simprocAttr])|fail))
 | x :: p,t,hp,hok,hg,hv=>by
  rw[Ead] at hp;have hok':∀ y∈p,Bc y:=fun y hy=>hok y (Eai _ hy)
  have hst:=hok x Eaf;have ih:=fun u hu hv=>Jz5 p u omg hok' hu hv
  have hI:=Kbd x t hst hg.1 omg;have hG:=M1 [x] t sm (fun y hy=>by simp at hy;subst hy;exact hst) omg;rw[J8w] at hG;have hgx:(Bb (x :: p))[0]? = some [.bool x.part,.str x.name,.int .i64 x.n]:=rfl;have hl1:(x :: p).length=p.length+1:=rfl;have htk1:(Bb (x :: p)).take 1=Bb [x]:=rfl;have hdx:(Bb (x :: p)).drop 1=Bb p:=rfl;have hel3:∀ q∈Bb (x :: p),q.length=3:=by
   intro q hq;obtain ⟨y,_,rfl⟩:=Eap.1 hq;rfl
  have htk:(Bb p).take p.length=Bb p:=Eae (by rw[Aq];exact Eah _);have c0:(((p.length+1:Nat):Int)=0)=False:=eq_false omg;by_cases k0:t.kind=0
  ·obtain ⟨k,s,g,e,kids⟩:=t;have k0:k=0:=k0;subst k0;have h5:inT (.mk 0 s g e kids) x=.error 5:=by
    cases hx:x.part with
    | true=>exact Iz hx de
    | false=>exact Iw hx de
   have h0:Jrc x (.mk 0 s g e kids)=.ok nilT:=by unfold Jrc;exact if_pos rfl
   rw[h5,getR] at hG;rw[h0,getR] at hI;rw[J89,getR];generalize valL ((Tree.mk 0 s g e kids).enc [])=V at *
   (refine bgo func22 ?_;simp only[go_sem,simprocAttr,Aq,hgx,hl1,c0]);(repeat'(first|refine And.intro hel3 ?_|refine Jqj ?_|((first|refine Jqa hI ?_|refine Jqa hG ?_);simp only[go_sem,simprocAttr,Aq,hl1,htk1])|fail))
   all_goals rfl
  ·rw[delT,if_neg k0];cases hi:inT t x with
   | error e =>
    rw[hi,getR] at hG;rcases M2 hi with rfl | rfl
    ·have h5:Jrc x t=.error 5:=by
      obtain ⟨k,s,g,e,kids⟩:=t;have k0:¬ k=0:=k0;obtain ⟨b,nm,n⟩:=x;cases b with
      | true =>
       by_cases k5:k=5
       ·subst k5;rw[Tm rfl] at hi;simp only at hi;split at hi<;>cases hi
       ·exact J3l k0 k5
      | false =>
       by_cases k6:k=6
       ·subst k6;rw[Tp rfl] at hi;simp only at hi;split at hi<;>cases hi
       ·exact Jyn k0 k6
     rw[h5,getR] at hI;change Det cx _ _ _ (getR (.error 5)) _;rw[getR];generalize valL (t.enc [])=V at *
     (refine bgo func22 ?_;simp only[go_sem,simprocAttr,Aq,hgx,hl1,c0]);(repeat'(first|((refine Jqa hI ?_);simp only[go_sem,simprocAttr])|fail))
     all_goals rfl
    ·have h6:∃ u,Jrc x t=.ok u:=by
      cases hs:Jrc x t with
      | ok u=>exact ⟨u,rfl⟩
      | error e =>
       exfalso;obtain ⟨k,s,g,e',kids⟩:=t;have k0:¬ k=0:=k0;obtain ⟨b,nm,n⟩:=x;cases b with
       | true =>
        by_cases k5:k=5
        ·subst k5;rw[Jza] at hs;cases hs
        ·rw[Iz rfl k5] at hi;cases hi
       | false =>
        by_cases k6:k=6
        ·subst k6;rw[Jw4] at hs;cases hs
        ·rw[Iw rfl k6] at hi;cases hi
     obtain ⟨u,h6⟩:=h6;rw[h6,getR] at hI;change Det cx _ _ _ (getR (.ok t)) _;rw[getR];generalize valL (t.enc [])=V at *
     (refine bgo func22 ?_;simp only[go_sem,simprocAttr,Aq,hgx,hl1,c0]);(repeat'(first|refine And.intro hel3 ?_|refine Jqj ?_|((first|refine Jqa hI ?_|refine Jqa hG ?_);simp only[go_sem,simprocAttr,Aq,hl1,htk1])|fail))
     all_goals rfl
   | ok u =>
    rw[hi,getR] at hG;have hs:Jrc x t=.ok u:=by
     obtain ⟨k,s,g,e',kids⟩:=t;obtain ⟨b,nm,n⟩:=x;cases b with
     | true =>
      by_cases k5:k=5
      ·subst k5;rw[Jza];rw[Tm rfl] at hi;simp only at hi;cases hq:kids.list[n.toNat]? with
       | none=>rw[hq] at hi;cases hi
       | some q=>rw[hq] at hi;cases hi;rfl
      ·rw[Iz rfl k5] at hi;cases hi
     | false =>
      by_cases k6:k=6
      ·subst k6;rw[Jw4];rw[Tp rfl] at hi;simp only at hi;cases hq:Ch nm kids.list with
       | none=>rw[hq] at hi;cases hi
       | some q=>rw[hq] at hi;cases hi;rfl
      ·rw[Iw rfl k6] at hi;cases hi
    rw[hs,getR] at hI;have hgu:GT u:=J6k hg hs;have hul:=Q7 hi;cases p with
    | nil =>
     obtain ⟨k,s,g,e',kids⟩:=t;obtain ⟨b,nm,n⟩:=x;cases b with
     | true =>
      have k5:k=5:=by
       by_cases k5:k=5
       ·exact k5
       ·rw[Iz rfl k5] at hi;cases hi
      subst k5;obtain ⟨_,hn0,_⟩:=hst;have hn0:0<=n:=hn0;obtain ⟨j,rfl⟩:∃ j:Nat,n=j:=⟨n.toNat,omg⟩
      rw[Tm rfl] at hi;have hjl:j<kids.list.length:=by
       rcases Eds j kids.list.length with h | h
       ·exact h
       ·simp only[Int.toNat_natCast,Edd h] at hi;cases hi
      have hkl:(Jqe (.mk 5 s g e' kids)).length=kids.list.length:=Ea1 ..
      have hsz:=Jq1 (.mk 5 s g e' kids);have hsl:=Jrh (Jqe (.mk 5 s g e' kids));have hP:=J87 (.mk 5 s g e' kids) omg;have hD:=J6d (Jqd (Jqe (.mk 5 s g e' kids))) (Jqe (.mk 5 s g e' kids)).length j sm omg omg;rw[J0o] at hD;have hL:=Jtp ((Jqe (.mk 5 s g e' kids)).eraseIdx j) (by have:=Jx7 j (Jqe (.mk 5 s g e' kids));omega);have htl:(Jqd ((Jqe (.mk 5 s g e' kids)).eraseIdx j)).take ((Jqe (.mk 5 s g e' kids)).length - 1)=Jqd ((Jqe (.mk 5 s g e' kids)).eraseIdx j):=Eae (by rw[Jqf,Edl];split<;>omega);have hel1:=Jvr ((Jqe (.mk 5 s g e' kids)).eraseIdx j);have w1:IntKind.i64.wrap ((j:Int)+1)=((j+1:Nat):Int):=by rw[Aa omg omg];omega
      change Det cx _ _ _ (.tup [.sl (valL ((listT ((Jqe (.mk 5 s g e' kids)).eraseIdx j)).enc [])),.int .i64 0]) _;generalize valL ((Tree.mk 5 s g e' kids).enc [])=V at *
      generalize Jqe (.mk 5 s g e' kids)=K at *
      have hke:(K.length - 1<=(K.eraseIdx j).length)=True:=eq_true (by rw[Edl];split<;>omega);(refine bgo func22 ?_;simp only[go_sem,simprocAttr,Aq,hgx,hl1]);(repeat'(first|refine And.intro hel3 ?_|((first|refine Jqa hI ?_|refine Jqa hG ?_|refine Jqa hP ?_);simp only[go_sem,simprocAttr,Aq,hgx,hl1,htk1])|fail));(refine Gi 10 hm kr kr ?_;simp only[go_sem,simprocAttr,hgx,w1]);(repeat'(first|((first|refine Jqa hD ?_|refine Jqa hL ?_);simp only[go_sem,simprocAttr,htl,Jqf,hke])|fail))
      all_goals rfl
     | false =>
      have k6:k=6:=by
       by_cases k6:k=6
       ·exact k6
       ·rw[Iw rfl k6] at hi;cases hi
      subst k6;have hW:=Jfw [] s g e' kids nm (by rw[A6] at hv;simp at hv;omega);rw[show Tree.mk 6 [] false 0 (A1 (A8 nm kids.list))=nd 6 (A8 nm kids.list) from rfl] at hW;change Det cx _ _ _ (.tup [.sl (valL ((nd 6 (A8 nm kids.list)).enc [])),.int .i64 0]) _;generalize valL ((nd 6 (A8 nm kids.list)).enc [])=R at *
      generalize valL ((Tree.mk 6 s g e' kids).enc [])=V at *
      (refine bgo func22 ?_;simp only[go_sem,simprocAttr,Aq,hgx,hl1]);(repeat'(first|refine And.intro hel3 ?_|((first|refine Jqa hI ?_|refine Jqa hG ?_|refine Jqa hW ?_);simp only[go_sem,simprocAttr,Aq,hgx,hl1,htk1])|fail))
      all_goals rfl
    | cons y p =>
     have hIu:=ih u hgu omg;have hl2:(y :: p).length=p.length+1:=rfl;have c2:((1:Int)<((p.length+1+1:Nat):Int))=True:=eq_true omg;have c0:(((p.length+1+1:Nat):Int)=0)=False:=eq_false omg;simp only[reduceCtorEq,if_false];cases hd:delT (y :: p) u with
     | error er =>
      rw[hd,getR] at hIu;have:=Jy1 hd;subst this;simp only[getR];generalize valL (t.enc [])=V at *
      (refine bgo func22 ?_;simp only[go_sem,simprocAttr,Aq,hgx,hl1,hl2,c0]);(repeat'(first|refine And.intro hel3 ?_|refine Jqj ?_|((first|refine Jqa hI ?_|refine Jqa hG ?_|refine Jqa hIu ?_);simp only[go_sem,simprocAttr,Aq,hl1,hl2,htk1,c2,hdx])|fail))
      all_goals rfl
     | ok w =>
      rw[hd,getR] at hIu;have hw:=J30 hgu hd;have hS:=L8 [x] t w sm (fun z hz=>by simp only[Eak,Ebg,or_false] at hz;subst hz;exact hst) hg.1 hw.1.1 omg;simp only;rw[Jqz] at hS ⊢;generalize valL (t.enc [])=V at *
      (refine bgo func22 ?_;simp only[go_sem,simprocAttr,Aq,hgx,hl1,hl2,c0]);(repeat'(first|refine And.intro hel3 ?_|refine Jqj ?_|((first|refine Jqa hI ?_|refine Jqa hG ?_|refine Jqa hIu ?_|refine Jqa hS ?_);simp only[go_sem,simprocAttr,Aq,hl1,hl2,htk1,c2,hdx])|fail))
      all_goals rfl
theorem Kdr (c:List PV) (cs:List (List PV)) (h6:∀ q∈c :: cs,q.length=11) (hl:cs.length<=850000000000):Det cx 133 [.p (.sl (c :: cs))] [] (.own 900 0 (cs.length+1)) [(900,.row 38 11 (c :: cs))]:=by
 (refine bgoR true [(7,900)] func133 ?_;simp only[go_sem,simprocAttr]);(repeat'(first|refine Jqj ?_|fail));omega
theorem Kgj (v:List YRow):Det cx 84 [.p (.sl (rowL v))] [] (.fn 132 [900]) [(900,.var 23 [.p (.sl (rowL v))])]:=by
 (refine bgoR true [(1,900)] func84 ?_;simp only[go_sem,simprocAttr])
def Js3 (f:RF):List (List PV):=f.list.map fun p=>[.str p.1,.sl (rowL (p.2.enc []))]
theorem Jyp (f:RF):(Js3 f).length=f.len:=by simp[Js3,Jq4]
theorem Kgz (nm:List UInt8) (kd:Int) (s:List UInt8) (g:Int) (e:Node) (kids:RF) (hv:kids.enc.length<=849999999999):Tb cx 132 [.eptr [.sl (rowL ((RT.mk kd s g e kids).enc nm))]] (Js3 kids):=by
 have hl:=Jq7 kids;generalize hvv:(RT.mk kd s g e kids).enc nm=v;have h0:v.drop 0=⟨kd,kids.len,nm,s,g,e⟩ :: kids.enc:=by rw[<- hvv,Jqs];rfl
 have hg0:=Js5 h0;rw[Jr5] at hg0;have hvl:v.length=kids.enc.length+1:=by rw[<- hvv,Jqs];rfl
 (refine Juw (X:=cx) func132 kr rfl kr (by simp only[Ead,Ea8,ntmps132];decide) fun l=>?_;refine N9 _ _ _ _ ?_;simp only[ntmps132,go_sem,simprocAttr,hg0]);refine JWP.loop (fun x:Nat×Nat×RF=>(some x.1,⟨Ba 45 [(0,.yld l),(1,.eptr [.sl (rowL v)]),(3,.p (.int .i64 x.2.1)),(10,.p (.int .i64 kids.len)),(11,.p (.int .i64 x.1))],[]⟩)) (fun x=>x.1+x.2.2.len=kids.len/\v.drop x.2.1=x.2.2.enc/\x.2.1+x.2.2.enc.length=v.length/\(Js3 kids).drop x.1=Js3 x.2.2) (fun x=>x.2.2.enc.length) (0,1,kids) rfl Jqc ⟨by simp,by rw[<- hvv,Jqs];rfl,by simp only;omega,rfl⟩ ?_;rintro ⟨k,j,F⟩ ⟨h1,h2,h3,h4⟩;simp only at h1 h2 h3 h4 ⊢
 match F,h1,h2,h3,h4 with
 | .nil,h1,h2,h3,h4 =>
  simp only[RF.len] at h1;have c1:((k:Int)<(kids.len:Int))=False:=eq_false omg;(refine N9 _ _ _ _ ?_;simp only[go_sem,simprocAttr,c1]);rw[Jyp];exact .inl (by first|(congr 1;done)|(congr 1;omega))
 | .cons nm' (.mk k' s' g' e' kids') r,h1,h2,h3,h4 =>
  rw[Jve] at h1;rw[Jqv] at h2 h3;rw[Eac] at h3;have hs:=J4p h2;rw[Jqs] at h3;simp only[Ead] at h3;have hs':((rowL v).drop j).take (j+((RT.mk k' s' g' e' kids').enc nm').length - j)=[.int .i64 k',.int .i64 kids'.len,.str nm',.str s',.int .i64 g',.int .i64 e'.kind,.int .i64 e'.many,.str e'.name,.str e'.s,.bool e'.neg,.int .i64 e'.e] :: rowL kids'.enc:=by
   rw[Ec4,hs,Jqs,Jxf,Jr5]
  have h2':=h2;rw[Jqs] at h2';have hg:=Js5 h2';rw[Jr5] at hg;have hel:((RT.mk k' s' g' e' kids').enc nm').length=kids'.enc.length+1:=by rw[Jqs];rfl
  have h6:∀ q∈[.int .i64 k',.int .i64 kids'.len,.str nm',.str s',.int .i64 g',.int .i64 e'.kind,.int .i64 e'.many,.str e'.name,.str e'.s,.bool e'.neg,.int .i64 e'.e] :: rowL kids'.enc,q.length=11:=fun q hq=>J1h ((RT.mk k' s' g' e' kids').enc nm') q (by rw[Jqs];exact hq)
  have htk:(rowL kids'.enc).take kids'.enc.length=rowL kids'.enc:=Eae sm;have c1:((k:Int)<(kids.len:Int))=True:=eq_true omg;(refine N9 _ _ _ _ ?_;simp only[go_sem,simprocAttr,c1,wj1 (i:=k) omg]);refine JWP.loop (fun x:Nat×Nat×RF=>(some k,⟨Ba 45 [(0,.yld l),(1,.eptr [.sl (rowL v)]),(3,.p (.int .i64 j)),(4,.p (.int .i64 x.1)),(5,.p (.int .i64 x.2.1)),(10,.p (.int .i64 kids.len)),(11,.p (.int .i64 k))],[]⟩)) (fun x=>x.2.1=x.2.2.len/\v.drop x.1=x.2.2.enc ++ r.enc/\x.1+x.2.2.enc.length=j+((RT.mk k' s' g' e' kids').enc nm').length) (fun x=>x.2.2.enc.length) (j,1,.cons nm' (.mk k' s' g' e' kids') .nil) rfl Jqc ⟨rfl,by simp[Jqv,Jsd,h2],by simp[Jqv,Jsd]⟩ ?_;rintro ⟨i,left,G⟩ ⟨p0,p1,p2⟩;simp only at p0 p1 p2
  match G,p0,p1,p2 with
  | .nil,p0,p1,p2 =>
   rw[Jsd] at p2;simp only[Ea8,Nat.add_zero] at p2;simp only[RF.len] at p0;subst p0;subst p2;(refine N9 _ _ _ _ ?_;simp only[go_sem,simprocAttr,hs',Jq0,wj1 (i:=k) omg]);(repeat'(first|(refine And.intro (J1h _) ?_)|refine Jqj ?_|((refine Jqa (Kdr _ _ h6 (by rw[Jq0];omega)) ?_);simp only[go_sem,simprocAttr,htk,Eah,hg,Jq0,wj1 (i:=k) omg])|fail));refine ⟨?_,⟨(k+1,j+((RT.mk k' s' g' e' kids').enc nm').length,r),⟨by simp only;omega,by simp only;rw[<- Ebj,h2,Edh],by simp only;omega,by simp only;rw[<- Ebj,h4];rfl⟩,by simp only[Jqv,Eac];omega,rfl,Jqc⟩,.inr trivial⟩;have:=congrArg (·[0]?) h4;simp only[Eco,Nat.add_zero] at this;rw[this];simp[Js3,RF.list,Jqs,Jxf,Jr5]
  | .cons nm2 (.mk k2 s2 g2 e2 kids2) r2,p0,p1,p2 =>
   rw[Jve] at p0;rw[Jqv,Jqs] at p1 p2;have hg2:=Js5 p1;rw[Jr5] at hg2;simp only[Ead,Eac] at p2;have hl1:=Jq7 kids2;have hl2:=Jq7 r2;have w0:IntKind.i64.wrap ((kids2.len:Int) - 1)=(kids2.len:Int) - 1:=Aa omg omg;have w1:IntKind.i64.wrap ((left:Int)+((kids2.len:Int) - 1))=((r2.len+kids2.len:Nat):Int):=by rw[Aa omg omg];omega
   have c2:((0:Int)<(left:Int))=True:=eq_true omg;(refine N9 _ _ _ _ ?_;simp only[go_sem,simprocAttr,wj1 (i:=k) omg,c2,wj1 (i:=i) omg,hg2,w0,w1])
   all_goals exact ⟨(i+1,r2.len+kids2.len,kids2.app r2),⟨by simp only[Jsr];omega,by
    simp only[Jq6];rw[<- Ebj,p1];simp,by simp only[Jq6,Eac];omega⟩,by simp only[Jq6,Jqv,Jqs,Eac,Ead];omega,Jqc⟩
theorem J6s {f:RF} {k:Nat} {x:List PV} (h:(Js3 f)[k]? = some x):∃ p,f.list[k]? = some p/\x=[.str p.1,.sl (rowL (p.2.enc []))]:=by
 unfold Js3 at h;rw[Eam] at h;obtain ⟨p,h1,h2⟩:=Eal.1 h;exact ⟨p,h1,h2.symm⟩
theorem J6b {f:RF} {x:List PV} (h:x∈Js3 f):x.length=2:=by
 obtain ⟨p,_,rfl⟩:=Eap.1 h;rfl
theorem J1o (nm:List UInt8) (kd:Int) (s:List UInt8) (g:Int) (e:Node) (kids:RF) (hv:kids.enc.length<=849999999999):Det cx 35 [.p (.sl (rowL ((RT.mk kd s g e kids).enc nm)))] [] (.p (.sl (Jrk kids.list))) []:=by
 (refine bgo func35 ?_;simp only[go_sem,simprocAttr]);(repeat'(first|((refine Jqa (Kgj _) ?_);simp only[go_sem,simprocAttr])|fail));(refine SWP.range (Js3 kids) 15 [(13,900)] sm _ _ _ _ _ (fun k R=>R=if k=0 then [(1000,.var 39 [.p .snil])] else [(900,.row 23 1 (Jrk (kids.list.take k))),(1000,.var 39 [.own 900 0 k])]) (fun _ _=>False) (by rfl) (by rfl) (by rfl) (Kgz nm kd s g e kids hv) (by simp only[go_sem,simprocAttr]<;>rfl) (by first|rfl | simp[Cg]) sm ?hps (by simp only[go_sem,simprocAttr]<;>rfl) (by simp only[go_sem,simprocAttr]<;>rfl) (by simp only[go_sem,simprocAttr]<;>rfl) ?h0 ?hkI ?hkS ?hSn ?round ?done ?stop)
 case hps=>exact fun x hx=>J6b hx
 case h0=>rfl
 case hkI=>rintro k R rfl;split<;>simp[Hg,findKey]
 case hkS=>exact fun _ _ h=>h.elim
 case hSn=>exact fun _ h=>h
 case stop=>exact fun _ _ h=>h.elim
 case round =>
  rintro k x R l hx rfl;obtain ⟨p,hp,rfl⟩:=J6s hx;by_cases hk:k=0
  ·subst hk;rw[if_pos rfl];simp only[go_sem,simprocAttr];(refine lws ?_;simp only[go_sem,simprocAttr]);refine ⟨by simp,_,rfl,?_⟩;rw[Jwq hp];exact (Jqt (by simp only[Ar]) (by simp (disch:=omega) [Az,A3,Aw,Am,Af,Ai,Au,Aa]) (by simp[Ay]))
  ·rw[if_neg hk];have hkl:=(Eab.1 hp).1;rw[Jq4] at hkl;have hll:=Jq7 kids;simp only[go_sem,simprocAttr];(refine lws ?_;simp only[go_sem,simprocAttr]);refine ⟨by simp,by rw[Jrg,Eay,Jq4];omega,omg,omg,_,rfl,?_⟩;rw[Jwq hp];exact (Jqt (by simp only[Ar]) (by simp (disch:=omega) [Az,A3,Aw,Am,Af,Ai,Au,Aa]) (by simp[Ay]))
 case done =>
  rintro R rfl;rw[Jyp];have hll:=Jq4 kids;have hle:=Jq7 kids;by_cases hk:kids.len=0
  ·rw[if_pos hk];have hnil:kids.list=[]:=Ean omg;rw[hnil];simp only[go_sem,simprocAttr];refine ⟨⟨Ba 15 [(3,.ptr 3 0 0)],[(3,.var 39 [.p (.sl [])])]⟩,Jqc,?_⟩;simp only[go_sem,simprocAttr];rfl
  ·rw[if_neg hk];have htk:kids.list.take kids.len=kids.list:=Eae omg;rw[htk];have hpl:(kids.len<=(Jrk kids.list).length)=True:=eq_true (by rw[Jrg];omega);have hpt:(Jrk kids.list).take kids.len=Jrk kids.list:=Eae (by rw[Jrg];omega);simp only[go_sem,simprocAttr];refine ⟨_,St.Le.refl _,?_⟩;simp only[go_sem,simprocAttr,hpl,hpt]
def Kef (f:RT):Prop:=∀ v:Tree,GT v->(v.enc []).length<=450000000000->Det cx 18 [.p (.sl (rowL (f.enc []))),.p (.sl (valL (v.enc [])))] [] (.tup [.bool (resB (Jrf f v)),.int .i64 (resC (Jrf f v))]) []
theorem J25:∀ (n:Nat) (f:RT),(f.enc []).length<=n->okQ f->Jrm f.kind->FitQ f->(f.enc []).length<=150000000000->Kef f
 | 0,f,h,_,_,_,_=>by have:=Jsi f [];omega
 | n+1,.mk op s m c kids,h,ok,hc,hf,hl=>by
  intro v hg hv;obtain ⟨h1,h2,h3⟩:=Jwl.1 ok;have hc:Jrm op:=hc;rw[Jqs,Ead] at h hl;have hfs:s.length<=1000000:=(hf ⟨op,kids.len,[],s,m,c⟩ (by rw[Jqs];exact Eaf)).s;have hg0:(rowL ((RT.mk op s m c kids).enc []))[0]? = some [.int .i64 op,.int .i64 kids.len,.str [],.str s,.int .i64 m,.int .i64 c.kind,.int .i64 c.many,.str c.name,.str c.s,.bool c.neg,.int .i64 c.e]:=by rw[Jqs];rfl
  by_cases o16:op=16
  ·subst o16;have hcp:Js2 c:=by simp[Jqq] at h1;exact h1.2.2.2.2
   have hN:=Kbg hcp;obtain ⟨hpl,hpo⟩:=Jvs s;have hP:=Jz1 s hfs;have hF:=J40 (Je s).1 v omg hpo hg.1 omg;have hR:Jrf (.mk 16 s m c kids) v=match Jrd (Je s).1 v with
    | .error e=>.error e
    | .ok x=>.ok (J0l m (cmpT x (ndT c))):=by
     rw[Jwx];unfold J15;rw[if_pos rfl];cases Jrd (Je s).1 v<;>rfl
   rw[hR];cases hfo:Jrd (Je s).1 v with
   | error e =>
    rw[hfo,getR] at hF;have:=Jsp hfo;subst this;simp only[resB,resC];generalize rowL ((RT.mk 16 s m c kids).enc [])=rows at *
    generalize (Je s).1=P at *
    (refine bgo func18 ?_;simp only[go_sem,simprocAttr,hg0]);(repeat'(first|((first|refine Jqa hP ?_|refine Jqa hF ?_);simp only[go_sem,simprocAttr])|fail))
    all_goals rfl
   | ok x =>
    rw[hfo,getR] at hF;have hC:=Ke2 _ x (ndT c) (Eah _) (Jxm hg.1 hfo) (J9y hcp) (by have:=Jxh hfo;omega) (by rw[Kbb];omega);have hS:=Khn m (cmpT x (ndT c)) (by simp[Jqq] at h1;omega) (by simp[Jqq] at h1;omega);rw[hN] at hC;simp only[resB,resC];generalize rowL ((RT.mk 16 s m c kids).enc [])=rows at *
    generalize (Je s).1=P at *
    (refine bgo func18 ?_;simp only[go_sem,simprocAttr,hg0]);(repeat'(first|((first|refine Jqm ?_|refine Jqa hP ?_|refine Jqa hF ?_|refine Jqb hC ?_|refine Jqb hS ?_);simp only[go_sem,simprocAttr])|fail))
  ·have hkl:=Jq4 kids;have hll:=Jq7 kids;have h1m:1<=kids.len/\(op≠19->kids.len=2):=by
    obtain ⟨a,b⟩:=hc;have:op=17\/op=18\/op=19:=by omega
    rcases this with rfl | rfl | rfl<;>simp[Jqq] at h1<;>omega
   have hT:=J1o [] op s m c kids omg;have hR:Jrf (.mk op s m c kids) v=match Jrb kids with
    | []=>.ok false
    | h :: hs=>match h v with
     | .error e=>.error e
     | .ok a=>if op=19 then .ok (!a) else if a=decide (op=18) then .ok a else match hs with
      | []=>.ok false
      | h2 :: _=>h2 v:=by
     rw[Jwx];unfold J15;rw[if_neg o16];cases Jrb kids with
     | nil=>rfl
     | cons a l=>cases l<;>(simp only;cases a v<;>rfl)
   rw[Jtr] at hR;have hlen:∀ p∈kids.list,(p.2.enc []).length<=n/\(p.2.enc []).length<=150000000000:=fun p hp=>by
    have:=Jya hp;rw[Jvw p.2 p.1] at this;omega
   have hI:∀ p∈kids.list,Det cx 18 [.p (.sl (rowL (p.2.enc []))),.p (.sl (valL (v.enc [])))] [] (.tup [.bool (resB (Jrf p.2 v)),.int .i64 (resC (Jrf p.2 v))]) []:=fun p hp=>J25 n p.2 (hlen p hp).1 (Jsn.1 h3 p hp) ((h2.1 p hp).1.2 (.inl hc)) (Jsj hf hp).2 (hlen p hp).2 v hg hv
   generalize rowL ((RT.mk op s m c kids).enc [])=rows at *
   cases hks:kids.list with
   | nil=>rw[hks] at hkl;simp only[Ea8] at hkl;omega
   | cons p0 r0 =>
    have I0:=hI p0 (by rw[hks];exact Eaf);have g0:(Jrk kids.list)[0]? = some [.sl (rowL (p0.2.enc []))]:=Jr8 (by rw[hks];rfl);rw[hks,Eaq] at hR;simp only at hR;rw[hR];have e16:=eq_false o16;cases hh:Jrf p0.2 v with
    | error e =>
     have:=Jvh _ _ _ _ (Eah _) hh;subst this;rw[hh] at I0;simp only[resB,resC] at I0 ⊢;(refine bgo func18 ?_;simp only[go_sem,simprocAttr,hg0,e16]);(repeat'(first|((first|refine Jqa hT ?_|refine Jqa I0 ?_);simp only[go_sem,simprocAttr,g0])|fail))
     all_goals rfl
    | ok a =>
     rw[hh] at I0;simp only[resB,resC] at I0;by_cases o19:op=19
     ·subst o19;change Det cx _ _ _ (.tup [.bool (!a),.int .i64 0]) _;(refine bgo func18 ?_;simp only[go_sem,simprocAttr,hg0]);(repeat'(first|((first|refine Jqa hT ?_|refine Jqa I0 ?_);simp only[go_sem,simprocAttr,g0])|fail))
      all_goals rfl
     ·have o78:op=17\/op=18:=by obtain ⟨x,y⟩:=hc;omega
      cases r0 with
      | nil =>
       have:=h1m.2 o19;rw[hks] at hkl;simp only[Ead,Ea8] at hkl;omega
      | cons p1 r1 =>
       have I1:=hI p1 (by rw[hks];exact Eai _ Eaf);have g1:(Jrk kids.list)[1]? = some [.sl (rowL (p1.2.enc []))]:=Jr8 (by rw[hks];rfl);rcases o78 with rfl | rfl
       ·cases a with
        | false =>
         change Det cx _ _ _ (.tup [.bool false,.int .i64 0]) _;(refine bgo func18 ?_;simp only[go_sem,simprocAttr,hg0]);(repeat'(first|((first|refine Jqa hT ?_|refine Jqa I0 ?_);simp only[go_sem,simprocAttr,g0])|fail))
         all_goals rfl
        | true =>
         change Det cx _ _ _ (.tup [.bool (resB (Jrf p1.2 v)),.int .i64 (resC (Jrf p1.2 v))]) _;(refine bgo func18 ?_;simp only[go_sem,simprocAttr,hg0]);(repeat'(first|((first|refine Jqa hT ?_|refine Jqa I0 ?_|refine Jqa I1 ?_);simp only[go_sem,simprocAttr,g0,g1])|fail))
         all_goals rfl
       ·cases a with
        | true =>
         change Det cx _ _ _ (.tup [.bool true,.int .i64 0]) _;(refine bgo func18 ?_;simp only[go_sem,simprocAttr,hg0]);(repeat'(first|((first|refine Jqa hT ?_|refine Jqa I0 ?_);simp only[go_sem,simprocAttr,g0])|fail))
         all_goals rfl
        | false =>
         change Det cx _ _ _ (.tup [.bool (resB (Jrf p1.2 v)),.int .i64 (resC (Jrf p1.2 v))]) _;(refine bgo func18 ?_;simp only[go_sem,simprocAttr,hg0]);(repeat'(first|((first|refine Jqa hT ?_|refine Jqa I0 ?_|refine Jqa I1 ?_);simp only[go_sem,simprocAttr,g0,g1])|fail))
         all_goals rfl
theorem J4c (l:List Tree) (S:List Nat) (hS:∀ i∈S,i<l.length) (hSl:S.length<=1350000000000) (hz:Jqn (Jqo l S)<=1350000000000):Det cx 94 [.p (.sl (Jqd l)),.p (.sl (natL S))] [] (.p (.sl (valL ((listT (Jqo l S)).enc [])))) []:=by
 have hL:=Jtp (Jqo l S) hz;have hpl:(Jqo l S).length=S.length:=by simp[Jqo]
 (refine bgo func94 ?_;simp only[go_sem,simprocAttr,Jqx]);refine Jqg (Jrw _ (i:=5) (d:=20) 25 1 (.inl de) rfl) ?_;simp only[St.nilOwn,St.nilReg,go_sem,simprocAttr,Jqx];refine SWP.loop (fun k:Nat=>⟨Ba 24 [(0,.p (.sl (Jqd l))),(5,.own 20 0 k),(8,.p (.sl (natL S))),(9,.p (.int .i64 S.length)),(10,.p (.int .i64 k))],[(20,.row 25 1 (Jqd (Jqo l (S.take k))))]⟩) (fun k=>k<=S.length) (fun k=>S.length - k) 0 Jqc (Eau _) ?_;rintro k hk;by_cases hlt:k<S.length
 ·have c1:((k:Int)<(S.length:Int))=True:=eq_true omg;obtain ⟨i,hi⟩:∃ i,S[k]? = some i:=⟨_,Eaa hlt⟩
  have hil:=hS i (Eag hi);obtain ⟨t,ht⟩:∃ t,l[i]? = some t:=⟨_,Eaa hil⟩
  have g1:=Juk hi;have g2:=Jq5 ht;have hln:(Jqd (Jqo l (S.take k))).length=k:=by rw[Jqf];simp[Jqo];omega
  have htk:Jqd (Jqo l (S.take (k+1)))=Jqd (Jqo l (S.take k)) ++ [[.sl (valL (t.enc []))]]:=by
   rw[Jry hi];unfold Jqo;rw[Ebm,Jrl,Eaq,Eca,Jrq ht];rfl
  (refine lws ?_;simp only[go_sem,simprocAttr,c1,g1,g2,hln,wj1 (i:=k) omg]);(repeat'(first|(refine And.intro (by first|(simp;done)|(simp;omega)) ?_)|refine Jqj ?_|fail))
  all_goals exact ⟨k+1,omg,omg,by rw[htk];exact Jqc⟩
 ·obtain rfl:k=S.length:=by omega
  have c1:((S.length:Int)<(S.length:Int))=False:=eq_false omg;have ht1:S.take S.length=S:=Eae (Eah _);have ht2:(Jqd (Jqo l S)).take S.length=Jqd (Jqo l S):=Eae (by simp[hpl]);have hle:(S.length<=(Jqd (Jqo l S)).length)=True:=eq_true (by simp[hpl]);(refine lws ?_;simp only[go_sem,simprocAttr,c1,ht1,ht2,hle]);(repeat'(first|((refine Jqa hL ?_);simp only[go_sem,simprocAttr])|fail))
theorem J9f:Det cx 69 [.p .snil] [] (.p (.sl (valL ((listT []).enc [])))) []:=by
 have:=Jtp [] de;exact J04 (by simp[Aw,LLe,J0h]) this
theorem Kat (es:List (List PV)) (n:Nat) (hn:es.length=n) (hb:n<=1500000000000):Det cx 97 [.own 1000 0 n] [(1000,.row 21 1 es)] (.tup []) [(1000,.row 21 1 es.reverse)]:=by
 unfold Det Al;refine ⟨enters_of func97 kr rfl,fun β Im w vs hg hf=>?_⟩;obtain ⟨v,rfl,hv⟩:=fit1 hf;rcases Jy9 hf hv hn with ⟨rfl,rfl⟩ | ⟨loc,cap,d,hβ,rfl,hc,hdl,hnc,hcm,hH,hd⟩
 ·have he:es=[]:=Ean hn;subst he;have h:Calls Tryz.prog 97 #[.slice none 0 0] w fun e w'=>e=.returned (.tuple #[])/\w'=w:=AnyE.slices_Reverse_empty Jw6 none 0 w
  refine h.mono ?_;rintro e w' ⟨rfl,rfl⟩;exact ⟨_,_,_,β,Im,rfl,⟨rfl,rfl⟩,⟨[],rfl,rfl,by simp⟩,J0f hf⟩
 ·subst hdl;have h:Calls Tryz.prog 97 #[.slice (some ⟨loc.blk,0,none⟩) d.length cap] w fun e w'=>e=.returned (.tuple #[])/\∃ q,w'=Sort.putRow v1 (Sort.ahead w q) loc.blk 0 d.reverse.toArray:=AnyE.slices_Reverse Jw6 v1 Kak loc.blk 0 cap d w hH omg
  refine h.mono ?_;rintro e w' ⟨rfl,q,rfl⟩;refine ⟨_,_,_,β,Im,rfl,⟨rfl,rfl⟩,⟨[],rfl,rfl,by simp⟩,Jy7 hf hβ (k:=q) (os:=#[]) (d:=d.reverse) (by rw[Sort.grow_empty]) (by rw[Ece];omega) (by rw[Ece,Ece];omega) fun i x e hx he=>?_⟩;have hil:=(Eab.1 hx).1;rw[Ece] at hil;rw[List.getElem?_reverse omg] at hx;rw[List.getElem?_reverse omg,hn] at he;exact hd _ x e hx he
theorem Kdz (p:RT) (v:Tree) (hH:Det cx 18 [.p (.sl (rowL (p.enc []))),.p (.sl (valL (v.enc [])))] [] (.tup [.bool (resB (Jrf p v)),.int .i64 (resC (Jrf p v))]) []):Det cx 39 [.p (.sl (rowL (p.enc []))),.p (.sl (valL (v.enc [])))] [] (getR (match Jrf p v with
  | .error e=>.error e
  | .ok b=>if b=true then .ok v else .error 6)) []:=by
 cases hh:Jrf p v with
 | error e =>
  have:=Jvh _ _ _ _ (Eah _) hh;subst this;rw[hh] at hH;simp only[resB,resC] at hH;simp only[getR];(refine bgo func39 ?_;simp only[go_sem,simprocAttr]);(repeat'(first|((refine Jqa hH ?_);simp only[go_sem,simprocAttr])|fail))
  all_goals rfl
 | ok b =>
  rw[hh] at hH;simp only[resB,resC] at hH;cases b with
  | true =>
   change Det cx _ _ _ (.tup [.sl (valL (v.enc [])),.int .i64 0]) _;(refine bgo func39 ?_;simp only[go_sem,simprocAttr]);(repeat'(first|((refine Jqa hH ?_);simp only[go_sem,simprocAttr])|fail))
   all_goals rfl
  | false =>
   change Det cx _ _ _ (.tup [.snil,.int .i64 6]) _;(refine bgo func39 ?_;simp only[go_sem,simprocAttr]);(repeat'(first|((refine Jqa hH ?_);simp only[go_sem,simprocAttr])|fail))
   all_goals rfl
theorem J0t:∀ (rs:List Int) (s:List UInt8) (b i:Nat),AllR rs->s.drop i=utfs rs->s.length<=i+b->Jtv ⟨⟨s⟩⟩ b i=rs
 | [],s,0,i,_,_,_=>rfl
 | r :: rs,s,0,i,ha,h,hf=>by
  have:=congrArg List.length h;rw[Ea5,Ki,Eac] at this;have:=I4 r;omega
 | [],s,b+1,i,_,h,_=>by
  have hl:=congrArg List.length h;simp[utfs] at hl;rw[Jtv,if_neg (show ¬ i<ByteArray.size ⟨⟨s⟩⟩ from by show ¬ i<s.length;omega)]
 | r :: rs,s,b+1,i,ha,h,hf=>by
  rw[Ki] at h;obtain ⟨h1,h2⟩:=Rp ha.head (utfs rs);have hp:=I4 r;have hd:dec s i=(code (utf r ++ utfs rs) 0,(utf r).length):=by
   have:=Qy s i 0;rw[Nat.add_zero] at this;rw[<- this,h,Kkb,if_neg (by rw[h1];omega),h1]
  have hlt:i<s.length:=by
   have:=congrArg List.length h;rw[Ea5,Eac] at this;omega
  have hdr:s.drop (i+(utf r).length)=utfs rs:=by rw[<- Ebj,h,Edh]
  rw[Jtv,if_pos (show i<ByteArray.size ⟨⟨s⟩⟩ from hlt),H6,hd];simp only;rw[J0t rs s b _ ha.tail hdr omg];congr 1
theorem J2e {rs:List Int} (h:AllR rs):Jwm (utfs rs)=rs.map fun n=>[.int .i32 n]:=by
 unfold Jwm;rw[J0t rs (utfs rs) _ 0 h rfl omg]
theorem J7k (rs:List Int):rs.length<=(utfs rs).length:=by
 induction rs with
 | nil=>exact Eah _
 | cons r rs ih=>rw[Ki,Eac,Ead];have:=I4 r;omega
theorem J7d (rs:List Int):(rs.flatMap fun n=>(Utf8.encode n).data.toList)=utfs rs:=by simp only[R8];rfl
def runR (rs:List Int):List (List PV):=rs.map fun n=>[.int .i32 n]
@[simp] theorem Jyw (rs:List Int):(runR rs).length=rs.length:=by simp[runR]
theorem Ka4 {rs:List Int}:Jui (runR rs)=some rs:=J0r
theorem Kfb (rs:List Int):(runR rs).reverse=runR rs.reverse:=by simp[runR]
theorem Kb3 (rs:List Int) (n:Nat):(runR rs).drop n=runR (rs.drop n):=by simp[runR]
theorem Ka7 (rs:List Int):∀ q∈runR rs,q.length=1:=fun q hq=>by
 obtain ⟨n,_,rfl⟩:=Eap.1 hq;rfl
theorem Kcr (rs:List Int):(runR rs).take rs.length=runR rs:=Eae sm
theorem J7v (v:Tree) (ok:okT v) (hf:FitT v) (hv:(v.enc []).length<=1350000000000):Det cx 44 [.p (.sl (valL (v.enc [])))] [] (getR (revE v)) []:=by
 have hP:=J87 v omg;have hsz:=Jq1 v;have hsl:=Jrh (Jqe v);obtain ⟨k,s,g,e,kids⟩:=v;have hgv:=Cc [] k s g e kids;have hgx:=Jyv (⟨ok,hf⟩:GT (.mk k s g e kids));by_cases k0:k=0
 ·subst k0;rw[show revE (.mk 0 s g e kids)=.ok (listT []) from rfl,getR];generalize valL ((Tree.mk 0 s g e kids).enc [])=V at *
  (refine bgo func44 ?_;simp only[go_sem,simprocAttr,hgv]);(repeat'(first|((refine Jqa J9f ?_);simp only[go_sem,simprocAttr])|fail))
 ·by_cases k5:k=5
  ·subst k5;have hrs:Jqn (Jqe (.mk 5 s g e kids)).reverse=Jqn (Jqe (.mk 5 s g e kids)):=by
    unfold Jqn;rw[List.map_reverse,List.sum_reverse]
   have hL:=Jtp (Jqe (.mk 5 s g e kids)).reverse omg;have hR:=Kb5 (Jqd (Jqe (.mk 5 s g e kids))) (Jqe (.mk 5 s g e kids)).length sm omg;have hrv:(Jqd (Jqe (.mk 5 s g e kids))).reverse=Jqd (Jqe (.mk 5 s g e kids)).reverse:=by simp[Jqd]
   rw[hrv] at hR;have htk:(Jqd (Jqe (.mk 5 s g e kids)).reverse).take (Jqe (.mk 5 s g e kids)).length=Jqd (Jqe (.mk 5 s g e kids)).reverse:=Eae sm;have hel:=Jvr (Jqe (.mk 5 s g e kids)).reverse;rw[show revE (.mk 5 s g e kids)=.ok (listT (Jqe (.mk 5 s g e kids)).reverse) from rfl,getR];generalize valL ((Tree.mk 5 s g e kids).enc [])=V at *
   generalize Jqe (.mk 5 s g e kids)=K at *
   (refine bgo func44 ?_;simp only[go_sem,simprocAttr,hgv]);(repeat'(first|((first|refine Jqa hP ?_|refine Jqa hR ?_|refine Jqa hL ?_);simp only[go_sem,simprocAttr,htk,Jqf,Ece,Eah])|fail))
  ·by_cases k4:k=4
   ·subst k4;obtain ⟨rs,hrs,rfl⟩:=Jb.1 (hgx.2 rfl);have hul:=J7k rs;have hR:=Kat (runR rs) rs.length sm omg;rw[Kfb] at hR;have hT:=J5u (utfs rs.reverse);have hrl:Jwm (utfs rs)=runR rs:=J2e hrs;have hfl:(Jrx (utfs rs)).reverse.flatten=utfs rs.reverse:=by rw[Ju4 hrs,<- List.map_reverse];rfl
    have htk:(runR rs.reverse).take rs.length=runR rs.reverse:=Eae sm;have hel:=Ka7 rs.reverse;rw[show revE (.mk 4 (utfs rs) g e kids)=.ok (strT (Jrx (utfs rs)).reverse.flatten) from rfl,getR,hfl];have hsl8:(utfs rs).length<=70368744177664:=by omega
    generalize valL ((Tree.mk 4 (utfs rs) g e kids).enc [])=V at *
    (refine bgo func44 ?_;simp only[go_sem,simprocAttr,hgv,hrl,Jyw]);(repeat'(first|refine Jqj ?_|((first|refine Jqa hR ?_|refine Jqa hT ?_);simp only[go_sem,simprocAttr,Ka4,J7d,htk,Jyw,Ece,Eah])|fail))
   ·have e0:=eq_false k0;have e5:=eq_false k5;have e4:=eq_false k4;rw[show revE (.mk k s g e kids)=.error 5 by simp only[revE,if_neg k0,if_neg k5,if_neg k4],getR];(refine bgo func44 ?_;simp only[go_sem,simprocAttr,hgv,e0,e5,e4])
    all_goals rfl
theorem Kg4 (n:Nat) (v:Tree) (hn:n<=1500000000000) (ok:okT v) (hf:FitT v) (hv:(v.enc []).length<=1350000000000):Det cx 37 [.p (.int .i64 n),.p (.sl (valL (v.enc [])))] [] (getR (Jue n v)) []:=by
 have hP:=Jwu v omg;have hsz:=Jq1 v;have hsl:=Jrh (Jqe v);obtain ⟨k,s,g,e,kids⟩:=v;have hgv:=Cc [] k s g e kids;have hgx:=Jyv (⟨ok,hf⟩:GT (.mk k s g e kids));by_cases k0:k=0
 ·subst k0;rw[show Jue n (.mk 0 s g e kids)=.ok nilT from rfl,getR,<- Kbh ok rfl];generalize valL ((Tree.mk 0 s g e kids).enc [])=V at *
  (refine bgo func37 ?_;simp only[go_sem,simprocAttr,hgv])
  skip
 ·by_cases k5:k=5
  ·subst k5;have hds:Jqn ((Jqe (.mk 5 s g e kids)).drop n)<=Jqn (Jqe (.mk 5 s g e kids)):=Jz6 n _;have hL:=Jtp ((Jqe (.mk 5 s g e kids)).drop n) omg;rw[show Jue n (.mk 5 s g e kids)=.ok (listT ((Jqe (.mk 5 s g e kids)).drop n)) from rfl,getR];generalize valL ((Tree.mk 5 s g e kids).enc [])=V at *
   generalize Jqe (.mk 5 s g e kids)=l at *
   have hmn:min (n:Int) (l.length:Int)=((min n l.length:Nat):Int):=by omega
   have hdr:(Jqd l).drop (min n l.length)=Jqd (l.drop n):=by
    unfold Jqd;rw[Ec2];by_cases h:n<=l.length
    ·rw[Ecx h]
    ·rw[Nat.min_eq_right omg,Eao sm,Eao (by simp;omega)]
   have hel:=Jvr l;have hml:min n l.length<=l.length:=Nat.min_le_right _ _;generalize min n l.length=m at *
   (refine bgo func37 ?_;simp only[go_sem,simprocAttr,hgv]);(repeat'(first|(refine And.intro (by first|exact hel | (simp;done)|(simp;omega)) ?_)|((first|refine Jqa hP ?_|refine Jqa hL ?_);simp only[go_sem,simprocAttr,Jqf,hmn,hdr])|fail))
  ·by_cases k4:k=4
   ·subst k4;obtain ⟨rs,hrs,rfl⟩:=Jb.1 (hgx.2 rfl);have hul:=J7k rs;have hT:=J5u (utfs (rs.drop n));have hrl:Jwm (utfs rs)=runR rs:=J2e hrs;have hfl:((Jrx (utfs rs)).drop n).flatten=utfs (rs.drop n):=by rw[Ju4 hrs,<- Ec2];rfl
    have hmn:min (n:Int) (rs.length:Int)=((min n rs.length:Nat):Int):=by omega
    have hdr:(runR rs).drop (min n rs.length)=runR (rs.drop n):=by
     rw[Kb3];by_cases h:n<=rs.length
     ·rw[Ecx h]
     ·rw[Nat.min_eq_right omg,Eao (Eah _),Eao omg]
    have hel:=Ka7 rs;have hml:min n rs.length<=rs.length:=Nat.min_le_right _ _;have hm2:(min n rs.length+(rs.length - min n rs.length)<=rs.length)=True:=eq_true omg;have htk2:(runR (rs.drop n)).take (rs.length - min n rs.length)=runR (rs.drop n):=Eae (by rw[Jyw,Ea5];omega);rw[show Jue n (.mk 4 (utfs rs) g e kids)=.ok (strT ((Jrx (utfs rs)).drop n).flatten) from rfl,getR,hfl];have hsl8:(utfs rs).length<=70368744177664:=by omega
    generalize valL ((Tree.mk 4 (utfs rs) g e kids).enc [])=V at *
    generalize min n rs.length=m at *
    (refine bgo func37 ?_;simp only[go_sem,simprocAttr,hgv,hrl,Ka4,J7d,Jyw,hmn,hdr,Kcr,hm2,htk2]);(repeat'(first|(refine And.intro (by first|exact hel | (simp;done)|(simp;omega)) ?_)|refine Jqj ?_|((refine Jqa hT ?_);simp only[go_sem,simprocAttr])|fail))
   ·have e0:=eq_false k0;have e5:=eq_false k5;have e4:=eq_false k4;rw[show Jue n (.mk k s g e kids)=.error 5 by simp only[Jue,if_neg k0,if_neg k5,if_neg k4],getR];(refine bgo func37 ?_;simp only[go_sem,simprocAttr,hgv,e0,e5,e4])
    all_goals rfl
theorem J5v (v:Tree) (ok:okT v) (hfit:FitT v) (hv:(v.enc []).length<=150000000000):Det cx 42 [.p (.sl (valL (v.enc [])))] [] (getR (Jud v)) []:=by
 have hsz:=Jq1 v;have hP:=Jwu v omg;by_cases hk:v.kind=5
 ·obtain ⟨r,hg0⟩:=row0 v;rw[hk] at hg0;have hkids:∀ t∈Jqe v,okT t/\FitT t/\(t.enc []).length<=150000000000:=fun t ht=>by
   refine ⟨Jyu ok t ht,?_,by have:=Jr0 ht;omega⟩;obtain ⟨k,s',g,e,kids⟩:=v;obtain ⟨p,hp,rfl⟩:=Eap.1 ht;exact (Mg hfit hp).2
  have hfe:Jud v=match Jt2 (Jqe v) [] with
   | some l=>.ok (nd 6 l)
   | none=>.error 5:=by unfold Jud;rw[if_pos hk]<;>rfl
  rw[hfe];have hlen:=Jrh (Jqe v);have hnil:valL ((nd 6 []).enc [])=[[.int .i64 6,.int .i64 0,.str [],.str [],.bool false,.int .i64 0]]:=by
   unfold nd;rw[A6,show A1 []=.nil from rfl,Bl];rfl
  generalize valL (v.enc [])=V at *
  generalize Jqe v=l at *
  (refine bgo func42 ?_;simp only[go_sem,simprocAttr,hg0]);(repeat'(first|((refine Jqa hP ?_);simp only[go_sem,simprocAttr,Jqf])|fail));refine Jqg (Jty _ (d:=16)) ?_;simp only[go_sem,simprocAttr];refine SWP.loop (fun x:Nat×List KT=>⟨Ba 55 [(4,.p (.sl (valL ((nd 6 x.2).enc [])))),(18,.p (.sl (Jqd l))),(19,.p (.int .i64 l.length)),(20,.p (.int .i64 x.1))],[]⟩) (fun x=>x.1<=l.length/\Jt2 l []=Jt2 (l.drop x.1) x.2/\Rise x.2/\(∀ p∈x.2,valid p.1=true/\p.1.length<=1000000)/\(A1 x.2).enc.length<=Jqn (l.take x.1)) (fun x=>l.length - x.1) (0,[]) (by simp only;rw[hnil];exact Jqc) ⟨Eau _,rfl,.nil,by simp,by rw[show A1 []=.nil from rfl,Bl];exact Eau _⟩ ?_;rintro ⟨i,out⟩ ⟨hi,h2,h3,h4,h5⟩;simp only at hi h2 h3 h4 h5 ⊢;by_cases hlt:i<l.length
  ·have c1:((i:Int)<(l.length:Int))=True:=eq_true omg;obtain ⟨t,ht⟩:∃ t,l[i]? = some t:=⟨_,Eaa hlt⟩
   have hg:=Jq5 ht;obtain ⟨okt,fitt,lent⟩:=hkids t (Eag ht);have hd:l.drop i=t :: l.drop (i+1):=by rw[Eaz hlt];congr 1;rw[Eaa hlt] at ht;exact Ebd ht
   rw[hd,J2a] at h2;have hts:=J4w ht;have htl:=Jzg l (i+1);have hF1:=J2v t sKey omg;have hF2:=J2v t sVal omg;obtain ⟨tk,ts,tg,te,tkids⟩:=t;by_cases k6:tk=6
   ·subst k6;have hlk:tkids.enc.length<=150000000000:=by rw[A6,Ead] at lent;omega
    rw[show Jyj (.mk 6 ts tg te tkids) sKey=Ch sKey tkids.list from rfl] at hF1;rw[show Jyj (.mk 6 ts tg te tkids) sVal=Ch sVal tkids.list from rfl] at hF2;cases f1:Ch sKey tkids.list with
    | none =>
     rw[J4x f1] at h2;simp only at h2;rw[f1] at hF1;unfold Oo at hF1;rw[h2];(refine lws ?_;simp only[go_sem,simprocAttr,c1,hg]);(repeat'(first|((refine Jqa hF1 ?_);simp only[go_sem,simprocAttr])|fail))
     all_goals rfl
    | some key =>
     obtain ⟨kk,ks,kg,ke,kkids⟩:=key;have hgk:=Cc [] kk ks kg ke kkids;obtain ⟨pk,mk1,ek,_⟩:=Kj7 f1;have okk:=Jvb okt mk1;have fitk:=(Mg fitt mk1).2;rw[ek] at okk fitk;have hksl:1000000 ≥ ks.length:=(fitk ⟨kk,kkids.len,[],ks,kg,ke⟩ (by rw[A6];exact Eaf)).s;rw[f1] at hF1;unfold Oo at hF1;by_cases k4:kk=4
     ·subst k4;rw[J76 f1] at h2;simp only at h2;have hvk:valid ks=true:=by
       have:=(Lu.1 okk).1;simp[G3] at this;exact this.1
      have hkle:=J1u ks out;have hW:∀ x:Tree,(x.enc []).length<=150000000000->Det cx 93 [.p (.sl (valL ((nd 6 out).enc []))),.p (.str ks),.p (.sl (valL (x.enc [])))] [] (.p (.sl (valL ((nd 6 (putL ks x (A8 ks out))).enc [])))) []:=fun x hx=>by
       have hw:=Kel [] [] false 0 (A1 out) ks x omg omg (by rw[Hd];exact h3.kept ks);rw[Hd] at hw;exact hw
      have hnext:∀ x:Tree,(x.enc []).length<=((Tree.mk 6 ts tg te tkids).enc []).length->Rise (putL ks x (A8 ks out))/\(∀ p∈putL ks x (A8 ks out),valid p.1=true/\p.1.length<=1000000)/\(A1 (putL ks x (A8 ks out))).enc.length<=Jqn (l.take (i+1)):=fun x hx=>by
       refine ⟨Kh (h3.kept ks) fun p hp=>(Jto hp).2,fun p hp=>?_,?_⟩
       ·have:=(Hv ks x (A8 ks out)).mem_iff.1 hp;rcases Eak.1 this with rfl | h
        ·exact ⟨hvk,hksl⟩
        ·exact h4 p (Jto h).1
       ·rw[Iv,hts];omega
      cases f2:Ch sVal tkids.list with
      | none =>
       rw[f2] at hF2 h2;unfold Oo at hF2;rw[Option.getD_none] at h2;have hWx:=hW nilT (by rw[Jt1];decide);obtain ⟨n1,n2,n3⟩:=hnext nilT (by rw[Jt1];exact Et _ _);(refine lws ?_;simp only[go_sem,simprocAttr,c1,hg,wj1 (i:=i) omg]);(repeat'(first|((first|refine Jqa hF1 ?_|refine Jqa hF2 ?_|refine Jqa J1a ?_|refine Jqa hWx ?_);simp only[go_sem,simprocAttr,hgk,wj1 (i:=i) omg])|fail))
       all_goals exact ⟨(i+1,putL ks nilT (A8 ks out)),⟨by simp only;omega,h2,n1,n2,n3⟩,by simp only;omega,Jqc⟩
      | some x =>
       rw[f2] at hF2 h2;unfold Oo at hF2;rw[Option.getD_some] at h2;obtain ⟨px,mx,ex,_⟩:=Kj7 f2;have hxl:=Jd7 mx;rw[ex] at hxl;have hWx:=hW x omg;obtain ⟨n1,n2,n3⟩:=hnext x (by rw[A6,Ead];omega);(refine lws ?_;simp only[go_sem,simprocAttr,c1,hg,wj1 (i:=i) omg]);(repeat'(first|((first|refine Jqa hF1 ?_|refine Jqa hF2 ?_|refine Jqa hWx ?_);simp only[go_sem,simprocAttr,hgk,wj1 (i:=i) omg])|fail))
       all_goals exact ⟨(i+1,putL ks x (A8 ks out)),⟨by simp only;omega,h2,n1,n2,n3⟩,by simp only;omega,Jqc⟩
     ·rw[Ka8 f1 k4] at h2;simp only at h2;rw[h2];have c4:=eq_false k4;(refine lws ?_;simp only[go_sem,simprocAttr,c1,hg]);(repeat'(first|((refine Jqa hF1 ?_);simp only[go_sem,simprocAttr,hgk,c4])|fail))
      all_goals rfl
   ·rw[show Jyj (.mk tk ts tg te tkids) sKey=none from if_neg k6] at hF1;rw[J8k k6] at h2;simp only at h2;rw[h2];unfold Oo at hF1;(refine lws ?_;simp only[go_sem,simprocAttr,c1,hg]);(repeat'(first|((refine Jqa hF1 ?_);simp only[go_sem,simprocAttr])|fail))
    all_goals rfl
  ·obtain rfl:i=l.length:=by omega
   have c1:((l.length:Int)<(l.length:Int))=False:=eq_false omg;rw[Eao (Eah _),Jt2] at h2;rw[h2];(refine lws ?_;simp only[go_sem,simprocAttr,c1])
   all_goals rfl
 ·rw[show Jud v=.error 5 by unfold Jud;rw[if_neg hk],getR];obtain ⟨k,s',g,e,kids⟩:=v;have c1:(k=5)=False:=eq_false hk;(refine bgo func42 ?_;simp only[go_sem,simprocAttr,Cc,c1,not_false_eq_true])
  all_goals rfl
theorem J6l {l:List (List UInt8)} {i:Nat} {s:List UInt8} (h:l[i]? = some s):(strL l)[i]? = some [.str s]:=by simp[strL,h]
theorem Ke9 {l:List (List UInt8)} {x:List PV} (h:x∈strL l):x.length=1:=by
 obtain ⟨s,_,rfl⟩:=Eap.1 h;rfl
theorem Jsx (l:List (List UInt8)):(strL l).length=l.length:=by simp[strL]
theorem Kgn {l:List (List UInt8)} {k:Nat} {s:List UInt8} (h:l[k]? = some s):strL (l.take (k+1))=strL (l.take k) ++ [[.str s]]:=by
 rw[Ebc,h];simp[strL]
theorem Khm {l:List (List UInt8)} {k:Nat} {x:List PV} (h:(strL l)[k]? = some x):∃ s,l[k]? = some s/\x=[.str s]:=by
 unfold strL at h;rw[Eam] at h;obtain ⟨p,h1,h2⟩:=Eal.1 h;exact ⟨p,h1,h2.symm⟩
theorem Kev (ns:List (List UInt8)):Det cx 136 [.p (.sl (strL ns))] [] (.fn 167 [900]) [(900,.var 61 [.p (.sl (strL ns))])]:=by
 (refine bgoR true [(1,900)] func136 ?_;simp only[go_sem,simprocAttr])
theorem Kdy (ns:List (List UInt8)) (hn:ns.length<=1500000000000):Tb cx 167 [.eptr [.sl (strL ns)]] (strL ns):=by
 (refine Juw (X:=cx) func167 kr rfl kr (by simp only[Ead,Ea8,ntmps167];decide) fun l=>?_;refine N9 _ _ _ _ ?_;simp only[ntmps167,go_sem,simprocAttr,Jsx]);refine JWP.loop (fun i:Nat=>(some i,⟨Ba 16 [(0,.yld l),(1,.eptr [.sl (strL ns)]),(5,.p (.sl (strL ns))),(6,.p (.int .i64 ns.length)),(7,.p (.int .i64 i))],[]⟩)) (fun i=>i<=ns.length) (fun i=>ns.length - i) 0 rfl Jqc (Eau _) ?_;rintro i hi;simp only at hi ⊢;by_cases hlt:i<ns.length
 ·have c1:((i:Int)<(ns.length:Int))=True:=eq_true omg;obtain ⟨s,hs⟩:∃ s,ns[i]? = some s:=⟨_,Eaa hlt⟩
  have hg:=J6l hs;(refine N9 _ _ _ _ ?_;simp only[go_sem,simprocAttr,Jsx,c1,hg,wj1 (i:=i) omg]);(repeat'(first|(trivial)|(refine And.intro ?_ ?_)|(exact ⟨i+1,omg,omg,rfl,Jqc⟩)|fail))
 ·obtain rfl:i=ns.length:=by omega
  have c1:((ns.length:Int)<(ns.length:Int))=False:=eq_false omg;(refine N9 _ _ _ _ ?_;simp only[go_sem,simprocAttr,Jsx,c1])
  all_goals first|trivial | exact .inl (by rw[Jsx])
theorem J9d (ns:List (List UInt8)) (hn:ns.length<=1500000000000):Det cx 193 [.p .snil,.fn 167 [1000]] [(1000,.var 61 [.p (.sl (strL ns))])] (.own 900 0 ns.length) [(900,.row 9 1 (strL ns))]:=by
 (refine bgoR true [(990,900),(500,900)] func193 ?_;simp only[go_sem,simprocAttr]);refine Jqg (Jq2 _ (b:=2) (j:=0) (d:=500) 9 1 (.inl de) (T':=61) (cs:=[.p .snil]) rfl rfl) ?_;simp only[St.nilCell,St.nilReg,Ms,go_sem,simprocAttr];(refine SWP.range (strL ns) 13 [(11,500000)] sm _ _ _ _ _ (fun k R=>R=[(500000,.row 9 1 (strL (ns.take k))),(1001,.var 61 [.own 500000 0 k])]) (fun _ _=>False) (by rfl) (by rfl) (by rfl) (Kdy ns hn) (by simp only[go_sem,simprocAttr]<;>rfl) (by first|rfl | simp[Cg]) sm ?hps (by simp only[go_sem,simprocAttr]<;>rfl) (by simp only[go_sem,simprocAttr]<;>rfl) (by simp only[go_sem,simprocAttr]<;>rfl) ?h0 ?hkI ?hkS ?hSn ?round ?done ?stop)
 case hps=>exact fun x hx=>Ke9 hx
 case h0=>rfl
 case hkI=>rintro k R rfl;simp[Hg,findKey]
 case hkS=>exact fun _ _ h=>h.elim
 case hSn=>exact fun _ h=>h
 case stop=>exact fun _ _ h=>h.elim
 case round =>
  rintro k x R l hx rfl;obtain ⟨p,hp,rfl⟩:=Khm hx;have hkl:=(Eab.1 hp).1;simp only[go_sem,simprocAttr];(refine lws ?_;simp only[go_sem,simprocAttr]);refine ⟨by simp,by rw[Jsx,Eay];omega,omg,omg,_,rfl,?_⟩;rw[Kgn hp];exact (Jqt (by simp only[Ar]) (by simp (disch:=omega) [Az,A3,Aw,Am,Af,Ai,Au,Aa]) (by simp[Ay]))
 case done =>
  rintro R rfl;rw[Jsx,Eae (Eah _)];simp only[go_sem,simprocAttr];refine ⟨_,St.Le.refl _,?_⟩;simp only[go_sem,simprocAttr]
theorem Kb7 (ns:List (List UInt8)) (hn:ns.length<=1500000000000):Det cx 165 [.fn 167 [1000]] [(1000,.var 61 [.p (.sl (strL ns))])] (.own 900 0 ns.length) [(900,.row 9 1 (strL ns))]:=by
 (refine bgoR true [(4,900)] func165 ?_;simp only[go_sem,simprocAttr]);(repeat'(first|((refine Jqa (J9d ns hn) ?_);simp only[go_sem,simprocAttr])|fail))
end Go.LX
namespace Go.Proofs
open Go.Shelf
def Tryz_lays190_renX:Go.Shelf.Ren:=⟨fun | 190=>166 | 125=>195 | 258=>194 | 128=>230 | 129=>231 | 302=>222 | 303=>223 | 304=>224 | 305=>225 | 306=>226 | 307=>227 | 308=>178 | 309=>228 | 310=>229 | 333=>253 | 329=>254 | 330=>255 | 334=>256 | 335=>257 | 336=>155 | 344=>271 | n=>n,fun | 31=>61 | 9=>9 | 3=>3 | 46=>165 | 0=>0 | 51=>224 | 53=>191 | 4=>4 | 183=>218 | 182=>217 | 131=>143 | 5=>5 | 218=>244 | 222=>248 | 228=>257 | 229=>214 | n=>n,fun | n=>n⟩
theorem Jx0:Go.Proofs.Lays.n190 Tryz.prog Tryz_lays190_renX:={
 mixed:=by kernel_rfl
 f125:=Tryz.func195.trans (congrArg some (by kernel_rfl))
 f128:=Tryz.func230.trans (congrArg some (by kernel_rfl))
 f129:=Tryz.func231.trans (congrArg some (by kernel_rfl))
 f190:=Tryz.func166.trans (congrArg some (by kernel_rfl))
 f258:=Tryz.func194.trans (congrArg some (by kernel_rfl))
 f302:=Tryz.func222.trans (congrArg some (by kernel_rfl))
 f303:=Tryz.func223.trans (congrArg some (by kernel_rfl))
 f304:=Tryz.func224.trans (congrArg some (by kernel_rfl))
 f305:=Tryz.func225.trans (congrArg some (by kernel_rfl))
 f306:=Tryz.func226.trans (congrArg some (by kernel_rfl))
 f307:=Tryz.func227.trans (congrArg some (by kernel_rfl))
 f308:=Tryz.func178.trans (congrArg some (by kernel_rfl))
 f309:=Tryz.func228.trans (congrArg some (by kernel_rfl))
 f310:=Tryz.func229.trans (congrArg some (by kernel_rfl))
 f329:=Tryz.func254.trans (congrArg some (by kernel_rfl))
 f330:=Tryz.func255.trans (congrArg some (by kernel_rfl))
 f333:=Tryz.func253.trans (congrArg some (by kernel_rfl))
 f334:=Tryz.func256.trans (congrArg some (by kernel_rfl))
 f335:=Tryz.func257.trans (congrArg some (by kernel_rfl))
 f336:=Tryz.func155.trans (congrArg some (by kernel_rfl))
 f344:=Tryz.func271.trans (congrArg some (by kernel_rfl))
 t0:=Tryz.underlying0
 a0:=Tryz.isAgg0
 z0:=Tryz.sizeOf0
 v0:=Tryz.zeroValue0
 t3:=Tryz.underlying3
 a3:=Tryz.isAgg3
 z3:=Tryz.sizeOf3
 v3:=Tryz.zeroValue3
 t4:=Tryz.underlying4
 a4:=Tryz.isAgg4
 z4:=Tryz.sizeOf4
 v4:=Tryz.zeroValue4
 t5:=Tryz.underlying5
 a5:=Tryz.isAgg5
 z5:=Tryz.sizeOf5
 v5:=Tryz.zeroValue5
 t9:=Tryz.underlying9
 a9:=Tryz.isAgg9
 z9:=Tryz.sizeOf9
 v9:=Tryz.zeroValue9
 t31:=Tryz.underlying61
 a31:=Tryz.isAgg61
 z31:=Tryz.sizeOf61
 v31:=Tryz.zeroValue61
 t46:=Tryz.underlying165
 a46:=Tryz.isAgg165
 z46:=Tryz.sizeOf165
 v46:=Tryz.zeroValue165
 t51:=Tryz.underlying224
 a51:=Tryz.isAgg224
 z51:=Tryz.sizeOf224
 v51:=Tryz.zeroValue224
 t53:=Tryz.underlying191
 a53:=Tryz.isAgg191
 z53:=Tryz.sizeOf191
 v53:=Tryz.zeroValue191
 t131:=Tryz.underlying143
 a131:=Tryz.isAgg143
 z131:=Tryz.sizeOf143
 v131:=Tryz.zeroValue143
 t182:=Tryz.underlying217
 a182:=Tryz.isAgg217
 z182:=Tryz.sizeOf217
 v182:=Tryz.zeroValue217
 t183:=Tryz.underlying218
 a183:=Tryz.isAgg218
 z183:=Tryz.sizeOf218
 v183:=Tryz.zeroValue218
 t218:=Tryz.underlying244
 a218:=Tryz.isAgg244
 z218:=Tryz.sizeOf244
 v218:=Tryz.zeroValue244
 t222:=Tryz.underlying248
 a222:=Tryz.isAgg248
 z222:=Tryz.sizeOf248
 v222:=Tryz.zeroValue248
 t228:=Tryz.underlying257
 a228:=Tryz.isAgg257
 z228:=Tryz.sizeOf257
 v228:=Tryz.zeroValue257
 t229:=Tryz.underlying214
 a229:=Tryz.isAgg214
 z229:=Tryz.sizeOf214
 v229:=Tryz.zeroValue214 }
open Go.Sort Go.RowKit in
theorem Tryz.slices_Sort_string (blk off cap:Nat) (ss:List (List UInt8)) (w:World) (hH:Holds encStr w blk off ss.toArray) (hblk:blk<w.heap.size) (hsz:ss.length<4611686018427387904) :
  Calls Tryz.prog 166 #[.slice (some ⟨blk,off,none⟩) ss.length cap] w fun e w' =>
   e=.returned (.tuple #[])/\∃ n os,w'=grow (putRow encStr (Sort.ahead w n) blk off (ss.mergeSort fun x y=>decide (x<=y)).toArray) os:=Any.slices_Sort_string Jx0 blk off cap ss w hH hblk hsz
open Go.RowKit Go.Sort in
theorem Tryz.slices_Sort_string_none (p:Option Addr) (cap:Nat) (w:World) :
  Calls Tryz.prog 166 #[.slice p 0 cap] w fun e w'=>e=.returned (.tuple #[])/\w'=w:=Any.slices_Sort_string_none Jx0 p cap w
end Go.Proofs
set_option maxRecDepth 100000
set_option maxHeartbeats 2000000
namespace Go.LX
open Go Go.RowKit Go.Proofs Go.Proofs.Tryz
attribute [local irreducible] Al SWP Bi
attribute [go_sem] ntmps89 results89 ntmps135 results135
def noT:Tree:=.mk 0 [] false 0 .nil
theorem Jy6 (x y:List UInt8):decide (x<=y) = !Op.bytesLess y x:=by
 rw[bytesLess_eq,Ea4];simp
theorem Kaf {l:List KT} (hn:(l.map (·.1)).Nodup):((l.map (·.1)).mergeSort fun x y=>decide (x<=y))=(Lp l).map (·.1):=by
 let A:=(l.map (·.1)).mergeSort fun x y=>decide (x<=y)
 have hA:A.Perm (l.map (·.1)):=List.mergeSort_perm _ _;have hAp:A.Pairwise fun x y=>decide (x<=y)=true:=List.pairwise_mergeSort (fun a b c h1 h2=>by
  rw[Jy6] at h1 h2 ⊢;simp only[Edn] at h1 h2 ⊢;exact Jg7 h1 h2) (fun a b=>by
  rw[Jy6,Jy6];cases h:Op.bytesLess b a with
  | false=>rfl
  | true=>rw[L3 h];rfl) _
 have hAn:A.Nodup:=hA.nodup_iff.2 hn;have hAr:Rise (A.map fun s=>(s,noT)):=by
  unfold Rise;rw[Ecu];refine (hAp.and hAn).imp ?_;rintro a b ⟨h1,h2⟩;rw[Jy6] at h1;simp only[Edn] at h1;exact Qf h1 (Ne.symm h2)
 have hB:((Lp l).map (·.1)).Perm (l.map (·.1)):=(E3 l).map _;have hBr:Rise (((Lp l).map (·.1)).map fun s=>(s,noT)):=by
  have:=Jj hn;unfold Rise at this ⊢;rw[Ecu,Ecu];exact this
 have:=congrArg (List.map Prod.fst) (Jy hAr hBr ((hA.trans hB.symm).map _));rw[Ebx,Ebx] at this;have e:∀ L:List (List UInt8),L.map (Prod.fst ∘ fun s=>(s,noT))=L:=fun L=>by simp[Function.comp_def]
 rw[e,e] at this;exact this
theorem Kcf (ns:List (List UInt8)) (hb:ns.length<=1500000000000):Det cx 166 [.own 1000 0 ns.length] [(1000,.row 9 1 (strL ns))] (.tup []) [(1000,.row 9 1 (strL (ns.mergeSort fun x y=>decide (x<=y))))]:=by
 unfold Det Al;refine ⟨enters_of func166 kr rfl,fun β Im w vs hg hf=>?_⟩;obtain ⟨v,rfl,hv⟩:=fit1 hf;rcases Jy9 hf hv (Jsx ns) with ⟨h0,rfl⟩ | ⟨loc,cap,d,hβ,rfl,hc,hdl,hnc,hcm,hH,hd⟩
 ·have he:ns=[]:=Ean h0;subst he;have h:Calls Tryz.prog 166 #[.slice none 0 0] w fun e w'=>e=.returned (.tuple #[])/\w'=w:=Tryz.slices_Sort_string_none none 0 w
  refine h.mono ?_;rintro e w' ⟨rfl,rfl⟩;exact ⟨_,_,_,β,Im,rfl,⟨rfl,by rw[List.mergeSort_nil]⟩,⟨[],rfl,rfl,by simp⟩,J0f hf⟩
 ·have hlt:=(hf.live 1000 _ loc Eaf hβ).1;have hH2:Sort.Holds encStr w loc.blk 0 ns.toArray:=fun j hj=>by
   have hjn:j<ns.length:=by simpa using hj
   have hjd:j<d.length:=by omega
   obtain ⟨a,b⟩:=hH j (by simpa using hjd);refine ⟨?_,b⟩;rw[a];obtain ⟨p,e1,e2,e3⟩:=hd j _ [.str ns[j]] (Eaa hjd) (J6l (Eaa hjn));cases e1;have:=Ks (β:=β) e3;have x1:d.toArray[j]! = d[j]:=by simp[hjd]
   have x2:ns.toArray[j]! = ns[j]:=by simp[hjn]
   rw[x1,x2];exact congrArg some this
  have h:Calls Tryz.prog 166 #[.slice (some ⟨loc.blk,0,none⟩) ns.length cap] w fun e w'=>e=.returned (.tuple #[])/\∃ q os,w'=Sort.grow (Sort.putRow encStr (Sort.ahead w q) loc.blk 0 (ns.mergeSort fun x y=>decide (x<=y)).toArray) os:=Tryz.slices_Sort_string loc.blk 0 cap ns w hH2 hlt omg
  refine h.mono ?_;rintro e w' ⟨rfl,q,os,rfl⟩;have hln:(ns.mergeSort fun x y=>decide (x<=y)).length=ns.length:=List.length_mergeSort _;refine ⟨_,_,_,β,Im,rfl,⟨rfl,rfl⟩,⟨[],rfl,rfl,by simp⟩,Jy7 hf hβ (k:=q) (os:=os) (enc:=encStr) (d:=ns.mergeSort fun x y=>decide (x<=y)) rfl (by rw[hln];omega) (by rw[Jsx];exact Eah _) fun i x e hx he=>?_⟩;rw[J6l hx] at he;cases he;exact ⟨.str x,rfl,rfl,PRep.str _⟩
theorem Kfy (ns:List (List UInt8)) (hb:ns.length<=1500000000000):Det cx 135 [.fn 167 [1000]] [(1000,.var 61 [.p (.sl (strL ns))])] (.p (.sl (strL (ns.mergeSort fun x y=>decide (x<=y))))) []:=by
 have hC:=Kb7 ns hb;have hS:=Kcf ns hb;have hln:(ns.mergeSort fun x y=>decide (x<=y)).length=ns.length:=List.length_mergeSort _;have htk:(strL (ns.mergeSort fun x y=>decide (x<=y))).take ns.length=strL (ns.mergeSort fun x y=>decide (x<=y)):=Eae (by rw[Jsx];omega);have hle:(ns.length<=(strL (ns.mergeSort fun x y=>decide (x<=y))).length)=True:=eq_true (by rw[Jsx];omega);generalize strL (ns.mergeSort fun x y=>decide (x<=y))=R at *
 (refine bgo func135 ?_;simp only[go_sem,simprocAttr]);(repeat'(first|((first|refine Jqa hC ?_|refine Jqa hS ?_);simp only[go_sem,simprocAttr,htk,hle])|fail))
def ValM (es:List (PV×PV)) (l:List KT):Prop:=MapF isStrKey es/\∀ k u,(k,u)∈es ↔ ∃ p∈l,k=.str p.1/\u=.sl (valL (p.2.enc []))
theorem Keh:ValM [] []:=⟨MapF.nil,by simp⟩
theorem Khj {es:List (PV×PV)} {l:List KT} (h:ValM es l) {p:KT} (hp:p∈l):∃ j,Cl (.str p.1) es 0=some (some (j,.sl (valL (p.2.enc [])))):=Jkm J5w h.1 ((h.2 _ _).2 ⟨p,hp,rfl,rfl⟩)
theorem Kfw {es:List (PV×PV)} {l:List KT} {nm:List UInt8} (h:ValM es l) (hn:∀ p∈l,p.1≠nm):Cl (.str nm) es 0=some none:=Jep J5w ⟨nm,rfl⟩ h.1 fun u hu=>by
 obtain ⟨p,hp,e,_⟩:=(h.2 _ _).1 hu;injection e with e
 exact hn p hp e.symm
theorem Keu {es:List (PV×PV)} {l:List KT} {p:KT} (h:ValM es l) (hn:∀ q∈l,q.1≠p.1):∃ es',mput (.str p.1) (.sl (valL (p.2.enc []))) es=some es'/\ValM es' (l ++ [p]):=by
 obtain ⟨es',h1,h2,h3⟩:=Jhy (v:=.sl (valL (p.2.enc []))) J5w (k:=.str p.1) ⟨p.1,rfl⟩ h.1;refine ⟨es',h1,h2,fun k u=>?_⟩;rw[h3];constructor
 ·rintro (⟨rfl,rfl⟩ | ⟨_,hk⟩)
  ·exact ⟨p,by simp,rfl,rfl⟩
  ·obtain ⟨q,hq,e1,e2⟩:=(h.2 _ _).1 hk;exact ⟨q,Eb9 _ hq,e1,e2⟩
 ·rintro ⟨q,hq,rfl,rfl⟩;rcases Eax.1 hq with hq | hq
  ·refine .inr ⟨fun e=>?_,(h.2 _ _).2 ⟨q,hq,rfl,rfl⟩⟩;injection e with e
   exact hn q hq e
  ·rw[Ea0] at hq;subst hq;exact .inl ⟨rfl,rfl⟩
theorem J3r (l:List KT) (hv:(A1 l).enc.length<=1350000000000) (hp:∀ p∈l,valid p.1=true/\p.1.length<=1000000) (hn:(l.map (·.1)).Nodup):Det cx 89 [.p (.sl (Bd l)),.p (.sl (A4 l))] [] (.tup [.sl (valL ((nd 6 (Lp l)).enc [])),.int .i64 0]) []:=by
 have hll:=Jqi (A1 l);rw[Ca] at hll;have hVa:=Kev (l.map (·.1));have hSo:=Kfy (l.map (·.1)) (by rw[Ea1];omega);rw[Kaf hn] at hSo;rw[<- Jco] at hVa hSo;rw[<- Jco] at hSo;have hilen:(Lp l).length=l.length:=(E3 l).length_eq;have hL:=Jkg (Lp l) (by rw[Hm (E3 l)];omega);rw[show Tree.mk 6 [] false 0 (A1 (Lp l))=nd 6 (Lp l) from rfl] at hL;generalize valL ((nd 6 (Lp l)).enc [])=res at *
 (refine bgo func89 ?_;simp only[go_sem,simprocAttr,A9,A5]);refine SWP.loop (fun x:Nat×List (PV×PV)=>⟨Ba 66 [(0,.p (.sl (Bd l))),(1,.p (.sl (A4 l))),(6,.mref 20),(21,.p (.sl (Bd l))),(22,.p (.int .i64 l.length)),(23,.p (.int .i64 x.1))],[(20,.obj (.mp x.2))]⟩) (fun x=>x.1<=l.length/\ValM x.2 (l.take x.1)) (fun x=>l.length - x.1) (0,[]) Jqc ⟨Eau _,Keh⟩ ?_;rintro ⟨i,es⟩ ⟨h1,h2⟩;simp only at h1 h2;by_cases hlt:i<l.length
 ·have c1:((i:Int)<(l.length:Int))=True:=eq_true omg;obtain ⟨p,hpi⟩:∃ p,l[i]? = some p:=⟨_,Eaa hlt⟩
  have hpm:=Eag hpi;obtain ⟨hpv,hpl⟩:=hp p hpm;have g1:(Bd l)[i]? = some [.str p.1]:=by simp[Bd,hpi]
  have g2:(A4 l)[i]? = some [.sl (valL (p.2.enc []))]:=by simp[A4,hpi]
  have hno:∀ q∈l.take i,q.1≠p.1:=fun q hq e=>by
   have h3:(l.take (i+1)).map (·.1)=(l.take i).map (·.1) ++ [p.1]:=by rw[Ebc,hpi];simp
   have h4:((l.take (i+1)).map (·.1)).Nodup:=by rw[Ec3];exact hn.sublist (List.take_sublist _ _)
   rw[h3,Eck] at h4;exact h4.2.2 q.1 (Eap.2 ⟨q,hq,rfl⟩) p.1 sm e
  have f1:=Kfw h2 hno;obtain ⟨es',f2,f3⟩:=Keu h2 hno;have hU:=Fi p.1 omg;rw[hpv] at hU;have htk:l.take (i+1)=l.take i ++ [p]:=by rw[Ebc,hpi];rfl
  (refine lws ?_;simp only[go_sem,simprocAttr,c1,g1,f1,wj1 (i:=i) omg]);(repeat'(first|((refine Jqa hU ?_);simp only[go_sem,simprocAttr,g2,f2,wj1 (i:=i) omg])|fail))
  all_goals exact ⟨(i+1,es'),⟨by simp only;omega,by simp only;rw[htk];exact f3⟩,by simp only;omega,Jqc⟩
 ·obtain rfl:i=l.length:=by omega
  have c1:((l.length:Int)<(l.length:Int))=False:=eq_false omg;rw[Edc] at h2;(refine lws ?_;simp only[go_sem,simprocAttr,c1]);(repeat'(first|((first|refine Jqa hVa ?_|refine Jqa hSo ?_);simp only[go_sem,simprocAttr,A9,hilen])|fail));refine Jqg (Jrw _ (i:=12) (d:=61) 25 1 (.inl de) rfl) ?_;simp only[St.nilOwn,St.nilReg,go_sem,simprocAttr,A9,A5,c1,hilen,if_false];generalize hK:Lp l=K at *
  refine SWP.loop (fun k:Nat=>⟨Ba 66 [(6,.mref 20),(11,.p (.sl (Bd K))),(12,.own 61 0 k),(50,.p (.sl (Bd K))),(51,.p (.int .i64 l.length)),(52,.p (.int .i64 k))],[(61,.row 25 1 (A4 (K.take k))),(20,.obj (.mp es))]⟩) (fun k=>k<=l.length) (fun k=>l.length - k) 0 Jqc (Eau _) ?_;rintro k hk;by_cases hlt:k<l.length
  ·have c2:((k:Int)<(l.length:Int))=True:=eq_true omg;obtain ⟨p,hpi⟩:∃ p,K[k]? = some p:=⟨_,Eaa omg⟩
   have hpm:p∈l:=by
    have:=Eag hpi;rw[<- hK] at this;exact (E3 l).mem_iff.1 this
   have g1:(Bd K)[k]? = some [.str p.1]:=by simp[Bd,hpi]
   obtain ⟨j,f1⟩:=Khj h2 hpm;have hln:(A4 (K.take k)).length=k:=by rw[A5,Eay];omega
   have htk:A4 (K.take (k+1))=A4 (K.take k) ++ [[.sl (valL (p.2.enc []))]]:=by rw[Ebc,hpi];simp[A4]
   (refine lws ?_;simp only[go_sem,simprocAttr,c2,g1,f1,hln,wj1 (i:=k) omg]);(repeat'(first|(refine And.intro (by first|(simp;done)|(simp;omega)) ?_)|refine Jqj ?_|fail))
   all_goals exact ⟨k+1,omg,omg,by rw[htk];exact Jqc⟩
  ·obtain rfl:k=l.length:=by omega
   have ht1:K.take l.length=K:=Eae omg;have ht2:(A4 K).take l.length=A4 K:=Eae (by rw[A5];omega);have hle:(l.length<=K.length)=True:=eq_true omg;(refine lws ?_;simp only[go_sem,simprocAttr,A5,c1,hilen,ht1,ht2,A5,Eah]);(repeat'(first|((refine Jqa hL ?_);simp only[go_sem,simprocAttr])|fail))
end Go.LX
namespace Go.Proofs
open Go.Shelf
def Tryz_lays161_renX:Go.Shelf.Ren:=⟨fun | 161=>138 | 231=>170 | 227=>171 | 233=>172 | 235=>173 | 228=>198 | 197=>199 | 151=>200 | 260=>234 | 152=>235 | 137=>190 | 119=>258 | 224=>259 | 225=>260 | 217=>217 | 266=>246 | n=>n,fun | 9=>9 | 4=>4 | 3=>3 | 5=>5 | 117=>172 | 116=>171 | 0=>0 | 124=>175 | 105=>196 | 21=>21 | 119=>161 | 46=>165 | 139=>164 | 138=>163 | n=>n,fun | 3=>0 | 4=>1 | n=>n⟩
theorem J33:Go.Proofs.Lays.n161 Tryz.prog Tryz_lays161_renX:={
 mixed:=by kernel_rfl
 f119:=Tryz.func258.trans (congrArg some (by kernel_rfl))
 f137:=Tryz.func190.trans (congrArg some (by kernel_rfl))
 f151:=Tryz.func200.trans (congrArg some (by kernel_rfl))
 f152:=Tryz.func235.trans (congrArg some (by kernel_rfl))
 f161:=Tryz.func138.trans (congrArg some (by kernel_rfl))
 f197:=Tryz.func199.trans (congrArg some (by kernel_rfl))
 f217:=Tryz.func217.trans (congrArg some (by kernel_rfl))
 f224:=Tryz.func259.trans (congrArg some (by kernel_rfl))
 f225:=Tryz.func260.trans (congrArg some (by kernel_rfl))
 f227:=Tryz.func171.trans (congrArg some (by kernel_rfl))
 f228:=Tryz.func198.trans (congrArg some (by kernel_rfl))
 f231:=Tryz.func170.trans (congrArg some (by kernel_rfl))
 f233:=Tryz.func172.trans (congrArg some (by kernel_rfl))
 f235:=Tryz.func173.trans (congrArg some (by kernel_rfl))
 f260:=Tryz.func234.trans (congrArg some (by kernel_rfl))
 f266:=Tryz.func246.trans (congrArg some (by kernel_rfl))
 t0:=Tryz.underlying0
 a0:=Tryz.isAgg0
 z0:=Tryz.sizeOf0
 v0:=Tryz.zeroValue0
 t3:=Tryz.underlying3
 a3:=Tryz.isAgg3
 z3:=Tryz.sizeOf3
 v3:=Tryz.zeroValue3
 t4:=Tryz.underlying4
 a4:=Tryz.isAgg4
 z4:=Tryz.sizeOf4
 v4:=Tryz.zeroValue4
 t5:=Tryz.underlying5
 a5:=Tryz.isAgg5
 z5:=Tryz.sizeOf5
 v5:=Tryz.zeroValue5
 t9:=Tryz.underlying9
 a9:=Tryz.isAgg9
 z9:=Tryz.sizeOf9
 v9:=Tryz.zeroValue9
 t21:=Tryz.underlying21
 a21:=Tryz.isAgg21
 z21:=Tryz.sizeOf21
 v21:=Tryz.zeroValue21
 t46:=Tryz.underlying165
 a46:=Tryz.isAgg165
 z46:=Tryz.sizeOf165
 v46:=Tryz.zeroValue165
 t105:=Tryz.underlying196
 a105:=Tryz.isAgg196
 z105:=Tryz.sizeOf196
 v105:=Tryz.zeroValue196
 t116:=Tryz.underlying171
 a116:=Tryz.isAgg171
 z116:=Tryz.sizeOf171
 t117:=Tryz.underlying172
 a117:=Tryz.isAgg172
 z117:=Tryz.sizeOf172
 v117:=Tryz.zeroValue172
 t119:=Tryz.underlying161
 a119:=Tryz.isAgg161
 z119:=Tryz.sizeOf161
 t124:=Tryz.underlying175
 a124:=Tryz.isAgg175
 z124:=Tryz.sizeOf175
 v124:=Tryz.zeroValue175
 t138:=Tryz.underlying163
 a138:=Tryz.isAgg163
 z138:=Tryz.sizeOf163
 v138:=Tryz.zeroValue163
 t139:=Tryz.underlying164
 a139:=Tryz.isAgg164
 z139:=Tryz.sizeOf164
 v139:=Tryz.zeroValue164
 g3:=by kernel_rfl
 g4:=by kernel_rfl }
open Go.RowKit in
theorem Tryz.strings_TrimLeft_one (s:ByteArray) (c:UInt8) (hc:c.toNat<128) (w:World) :
  Calls Tryz.prog 138 #[.string s,.string ⟨#[c]⟩] w fun e w'=>e=.returned (.string ⟨(Lib.trimLeftB s.data.toList c).toArray⟩)/\w'=w:=Any.strings_TrimLeft_one J33 s c hc w
def Tryz_lays162_renX:Go.Shelf.Ren:=⟨fun | 162=>139 | 232=>174 | 227=>171 | 234=>175 | 236=>176 | 228=>198 | 271=>201 | 151=>200 | 120=>236 | 197=>199 | 152=>235 | 260=>234 | 137=>190 | 119=>258 | 224=>259 | 225=>260 | 217=>217 | 266=>246 | n=>n,fun | 9=>9 | 4=>4 | 3=>3 | 5=>5 | 117=>172 | 116=>171 | 0=>0 | 124=>175 | 21=>21 | 105=>196 | 46=>165 | 119=>161 | 139=>164 | 138=>163 | n=>n,fun | 3=>0 | 4=>1 | n=>n⟩
theorem J37:Go.Proofs.Lays.n162 Tryz.prog Tryz_lays162_renX:={
 mixed:=by kernel_rfl
 f119:=Tryz.func258.trans (congrArg some (by kernel_rfl))
 f120:=Tryz.func236.trans (congrArg some (by kernel_rfl))
 f137:=Tryz.func190.trans (congrArg some (by kernel_rfl))
 f151:=Tryz.func200.trans (congrArg some (by kernel_rfl))
 f152:=Tryz.func235.trans (congrArg some (by kernel_rfl))
 f162:=Tryz.func139.trans (congrArg some (by kernel_rfl))
 f197:=Tryz.func199.trans (congrArg some (by kernel_rfl))
 f217:=Tryz.func217.trans (congrArg some (by kernel_rfl))
 f224:=Tryz.func259.trans (congrArg some (by kernel_rfl))
 f225:=Tryz.func260.trans (congrArg some (by kernel_rfl))
 f227:=Tryz.func171.trans (congrArg some (by kernel_rfl))
 f228:=Tryz.func198.trans (congrArg some (by kernel_rfl))
 f232:=Tryz.func174.trans (congrArg some (by kernel_rfl))
 f234:=Tryz.func175.trans (congrArg some (by kernel_rfl))
 f236:=Tryz.func176.trans (congrArg some (by kernel_rfl))
 f260:=Tryz.func234.trans (congrArg some (by kernel_rfl))
 f266:=Tryz.func246.trans (congrArg some (by kernel_rfl))
 f271:=Tryz.func201.trans (congrArg some (by kernel_rfl))
 t0:=Tryz.underlying0
 a0:=Tryz.isAgg0
 z0:=Tryz.sizeOf0
 v0:=Tryz.zeroValue0
 t3:=Tryz.underlying3
 a3:=Tryz.isAgg3
 z3:=Tryz.sizeOf3
 v3:=Tryz.zeroValue3
 t4:=Tryz.underlying4
 a4:=Tryz.isAgg4
 z4:=Tryz.sizeOf4
 v4:=Tryz.zeroValue4
 t5:=Tryz.underlying5
 a5:=Tryz.isAgg5
 z5:=Tryz.sizeOf5
 v5:=Tryz.zeroValue5
 t9:=Tryz.underlying9
 a9:=Tryz.isAgg9
 z9:=Tryz.sizeOf9
 v9:=Tryz.zeroValue9
 t21:=Tryz.underlying21
 a21:=Tryz.isAgg21
 z21:=Tryz.sizeOf21
 v21:=Tryz.zeroValue21
 t46:=Tryz.underlying165
 a46:=Tryz.isAgg165
 z46:=Tryz.sizeOf165
 v46:=Tryz.zeroValue165
 t105:=Tryz.underlying196
 a105:=Tryz.isAgg196
 z105:=Tryz.sizeOf196
 v105:=Tryz.zeroValue196
 t116:=Tryz.underlying171
 a116:=Tryz.isAgg171
 z116:=Tryz.sizeOf171
 t117:=Tryz.underlying172
 a117:=Tryz.isAgg172
 z117:=Tryz.sizeOf172
 v117:=Tryz.zeroValue172
 t119:=Tryz.underlying161
 a119:=Tryz.isAgg161
 z119:=Tryz.sizeOf161
 t124:=Tryz.underlying175
 a124:=Tryz.isAgg175
 z124:=Tryz.sizeOf175
 v124:=Tryz.zeroValue175
 t138:=Tryz.underlying163
 a138:=Tryz.isAgg163
 z138:=Tryz.sizeOf163
 v138:=Tryz.zeroValue163
 t139:=Tryz.underlying164
 a139:=Tryz.isAgg164
 z139:=Tryz.sizeOf164
 v139:=Tryz.zeroValue164
 g3:=by kernel_rfl
 g4:=by kernel_rfl }
open Go.RowKit in
theorem Tryz.strings_TrimRight_one (s:ByteArray) (c:UInt8) (hc:c.toNat<128) (w:World) (hs:s.size<=9223372036854775807) :
  Calls Tryz.prog 139 #[.string s,.string ⟨#[c]⟩] w fun e w'=>e=.returned (.string ⟨(Lib.trimRightB s.data.toList c).toArray⟩)/\w'=w:=Any.strings_TrimRight_one J37 s c hc w hs
end Go.Proofs
