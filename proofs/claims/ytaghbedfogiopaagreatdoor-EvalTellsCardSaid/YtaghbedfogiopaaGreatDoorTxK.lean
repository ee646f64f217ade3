/- Numbers, plain: the document's comparison is that of the values; the order's laws. -/
import Derived.Test.YtaghbedfogiopaaGreatDoorTxJ
import Derived.WalkSpells
set_option linter.all false
namespace Go.LX
open Go Go.RowKit Go.Proofs Go.Proofs.Tryz
def Kb2{s:List UInt8}(hf:MT s=true)(k:Nat):JN s/10^k%10=if k<s.length then BS s (s.length-1-k)-48 else 0:=by
 split
 ·rename_i hk;have h1:s=s.take (s.length-1-k)++([s[s.length-1-k]]++s.drop (s.length-k)):=by
   have e:s.length-k=(s.length-1-k)+1:=omg;rw[e,List.singleton_append,<-Mx,PO]
  have hl:(s.drop (s.length-k)).length=k:=by simp;omega
  have hv:MT (s.drop (s.length-k))=true:=by
   rw[h1]at hf;exact(uG.1 (uG.1 hf).2).2
  have hc:48<=s[s.length-1-k].toNat/\s[s.length-1-k].toNat<=57:=by
   rw[h1]at hf;exact(oE.1 (uG.1 (uG.1 hf).2).1).1
  have hd:=l5 hv;rw[hl]at hd
  conv=>lhs;rw[h1]
  rw[ÿ,ÿ,DC,hl];have e1:JN [s[s.length-1-k]]=s[s.length-1-k].toNat-48:=by simp[JN]
  rw[e1,Ql (show s.length-1-k<s.length by omega)];have:JN (s.take (s.length-1-k))*10^([s[s.length-1-k]].length+k)+((s[s.length-1-k].toNat-48)*10^k+JN (s.drop (s.length-k)))=(JN (s.take (s.length-1-k))*10+(s[s.length-1-k].toNat-48))*10^k+JN (s.drop (s.length-k)):=by
   simp only[DH,KM];rw[MF,fF,Nat.pow_one,ME,Qm];omega
  rw[this,YM,Nat.add_mul_div_right _ _ (YN de),gT hd];omega
 ·rename_i hk;have:JN s<10^k:=NB (l5 hf) (cj de omg);rw[gT this]
def Kch{s:List UInt8}(hf:MT s=true){i:Nat}(h:i<s.length):48<=BS s i/\BS s i<=57:=by
 rw[Ql h];simp only[MT,SQ]at hf;have:=hf _ (UN h);simpa[uD]using this
def J7e{n:Node}(hf:MT n.s=true)(he:-1000<=n.e)(k:Nat):QY n ((k:Int)-1000)=((OM n/10^k%10:Nat):Int):=by
 unfold QY OM;simp only;by_cases hp:(k:Int)-1000<n.e
 ·have e:(n.e+1000).toNat=((n.e+1000).toNat-k-1)+1+k:=omg;rw[e,fF,<-Qm,Nat.mul_div_cancel _ (YN de),Nat.pow_succ,<-Qm,Nat.mul_mod_left];by_cases h1:(n.s.length:Int)-1-(k-1000-n.e)<0
  ·rw[AB h1];rfl
  ·rw[AA h1,AB omg];rfl
 ·have e:k=(n.e+1000).toNat+(k-(n.e+1000).toNat):=omg;have e2:JN n.s*10^(n.e+1000).toNat/10^k=JN n.s/10^(k-(n.e+1000).toNat):=by
   conv=>lhs;rw[e,fF,<-oc,Nat.mul_div_cancel _ (YN de)]
  rw[e2,Kb2 hf];by_cases h1:k-(n.e+1000).toNat<n.s.length
  ·rw[AA omg,AA omg,AB h1];have e3:((n.s.length:Int)-1-(k-1000-n.e)).toNat=n.s.length-1-(k-(n.e+1000).toNat):=omg;rw[e3];have:=Kch hf (show n.s.length-1-(k-(n.e+1000).toNat)<n.s.length by omega);omega
  ·rw[AB omg,AA h1];rfl
def bc(MU:Int)(x y:Nat):Int:=if x<y then -MU else if y<x then MU else 0
def J1k{f g:Int->Int}{A B:Nat}(MU:Int)(hf:∀k:Nat,f ((k:Int)-1000)=((A/10^k%10:Nat):Int))(hg:∀k:Nat,g ((k:Int)-1000)=((B/10^k%10:Nat):Int))(k:Nat) :
  ∀m,A/10^(k+m)=B/10^(k+m)->ba f g MU m ((k:Int)+m-1-1000)=bc MU (A/10^k) (B/10^k)
 |0,h=>by simp only[Nat.add_zero]at h;simp[ba,bc,h]
 |m+1,h=>by
  have hp:((k:Int)+(m+1:Nat)-1-1000)=((k+m:Nat):Int)-1000:=omg;have aY:((k+m:Nat):Int)-1000-1=(k:Int)+m-1-1000:=omg;rw[hp,ba,hf,hg,aY];have d1:A/10^(k+(m+1))=A/10^(k+m)/10:=by rw[<-QO,Nat.pow_succ,oc]
  have d2:B/10^(k+(m+1))=B/10^(k+m)/10:=by rw[<-QO,Nat.pow_succ,oc]
  rw[d1,d2]at h;have a1:A/10^(k+m)=A/10^k/10^m:=by rw[fF,oc]
  have a2:B/10^(k+m)=B/10^k/10^m:=by rw[fF,oc]
  have mono:∀{x y:Nat},x/10^m<y/10^m->x<y:=fun{x y} hh=>by
   apply Classical.byContradiction;intro hc;have:=Nat.div_le_div_right (c:=10^m) (show y<=x by omega);omega
  by_cases c1:A/10^(k+m)%10<B/10^(k+m)%10
  ·rw[AB omg];have:A/10^k<B/10^k:=mono omg;simp[bc,this]
  ·rw[AA omg];by_cases c2:B/10^(k+m)%10<A/10^(k+m)%10
   ·rw[AB omg];have:B/10^k<A/10^k:=mono omg;simp only[bc];rw[AA omg,AB this]
   ·rw[AA omg];exact J1k MU hf hg k m omg
def Kbh{n:Node}{k:Nat}(h:(k:Int)<=n.e+1000):10^k∣OM n:=by
 unfold OM;exact Nat.dvd_trans (Nat.pow_dvd_pow 10 (show k<=(n.e+1000).toNat by omega)) (Nat.dvd_mul_left _ _)
def Kcx{a b:Node}(ha:EO a)(hb:EO b):Z7 a b=FT (sv a) (sv b):=by
 unfold Z7;simp only;by_cases hn:a.neg=b.neg
 ·rw[AA (by simp[hn])];have e1:=ha.e1;have e2:=hb.e1;generalize hs:(if a.neg=true then(-1:Int)else 1)=MU;have ta:=oF ha;have tb:=oF hb;obtain⟨k,hk⟩:∃k:Nat,(k:Int)=min a.e b.e+1000:=⟨(min a.e b.e+1000).toNat,omg⟩
  obtain⟨m,hm⟩:∃m:Nat,(m:Int)=max ((a.s.length:Int)+a.e) (b.s.length+b.e)-min a.e b.e+1:=⟨(max ((a.s.length:Int)+a.e) (b.s.length+b.e)-min a.e b.e+1).toNat,omg⟩
  have g1:(max ((a.s.length:Int)+a.e) (b.s.length+b.e)-min a.e b.e+1).toNat=m:=omg;have g2:max ((a.s.length:Int)+a.e) (b.s.length+b.e)=(k:Int)+m-1-1000:=omg;rw[g1,g2,J1k MU (J7e ha.figs e1) (J7e hb.figs e2) k m (by
   rw[gT (NB ta (cj de omg)),gT (NB tb (cj de omg))])]
  obtain⟨x,hx⟩:=Kbh (n:=a) (k:=k) omg;obtain⟨y,hy⟩:=Kbh (n:=b) (k:=k) omg;have IZ:0<10^k:=YN de;have q1:OM a/10^k=x:=by rw[hx];exact Nat.mul_div_cancel_left _ IZ
  have q2:OM b/10^k=y:=by rw[hy];exact Nat.mul_div_cancel_left _ IZ
  rw[q1,q2];have lt:∀{u v:Nat},u<v->10^k*u<10^k*v:=fun h=>Nat.mul_lt_mul_of_pos_left h IZ
  unfold bc sv;rw[<-hn];rcases nP x y with h|h|h
  ·rw[AB h];have:=lt h;rw[<-hx,<-hy]at this;cases na:a.neg<;>simp only[na,VM,↓reduceIte]at hs⊢
   ·rw[eG omg];omega
   ·rw[eH omg];omega
  ·rw[AA omg,AA omg,hx,hy,h];simp[FT]
  ·rw[AA omg,AB h];have:=lt h;rw[<-hx,<-hy]at this;cases na:a.neg<;>simp only[na,VM,↓reduceIte]at hs⊢
   ·rw[eH omg];omega
   ·rw[eG omg];omega
 ·rw[AB (by simpa using hn)];unfold sv;cases na:a.neg<;>cases nb:b.neg<;>simp only[na,nb,VM,↓reduceIte,not_true_eq_false]at hn⊢
  ·have:=cM hb (hb.neg_len nb);rw[eH omg]
  ·have:=cM ha (ha.neg_len na);rw[eG omg]
def Kar:∀(s t:List UInt8),MT s=true->MT t=true->s.length=t.length->JN s=JN t->s=t
 |[],[],_,_,_,_=>rfl
 |[],_::_,_,_,h,_=>by simp at h
 |_::_,[],_,_,h,_=>by simp at h
 |c::s,d::t,hs,ht,hl,h=>by
  rw[oE]at hs ht;have DB:s.length=t.length:=by simpa using hl
  rw[oD,oD,DB]at h;have b1:=l5 hs.2;have b2:=l5 ht.2;rw[DB]at b1;have hc:c.toNat-48=d.toNat-48:=by
   have e1:((c.toNat-48)*10^t.length+JN s)/10^t.length=((d.toNat-48)*10^t.length+JN t)/10^t.length:=by rw[h]
   rwa[YM,Nat.add_mul_div_right _ _ (YN de),gT b1,YM _ (JN t),Nat.add_mul_div_right _ _ (YN de),gT b2,MF,MF]at e1
  rw[hc]at h;have:c=d:=UInt8.toNat_inj.1 omg;rw[this,Kar s t hs.2 ht.2 DB omg]
def Kf3{a b:Node}(ha:EO a)(hb:EO b)(h:OM a=OM b):a.s=b.s/\a.e=b.e:=by
 by_cases a0:a.s.length=0
 ·by_cases b0:b.s.length=0
  ·exact⟨by rw[KH a0,KH b0],by rw[(ha.zero a0).2,(hb.zero b0).2]⟩
  ·have:=cM hb omg;rw[uI a0]at h;omega
 ·by_cases b0:b.s.length=0
  ·have:=cM ha omg;rw[uI b0]at h;omega
  ·have e1:=ha.e1;have e2:=hb.e1;have he:a.e=b.e:=by
    have key:∀{x y:Node},EO x->EO y->0<x.s.length->OM x=OM y->¬x.e<y.e:=by
     intro x y hx hy x0 QC BZ;have f1:=hx.e1;have:=(J81 x0 hx.figs (hx.last x0)).2;unfold OM at QC;have e:(y.e+1000).toNat=((y.e+1000).toNat-(x.e+1000).toNat-1)+1+(x.e+1000).toNat:=omg;rw[e,fF,<-Qm]at QC;have q:=Nat.eq_of_mul_eq_mul_right (YN de) QC;rw[q,Nat.pow_succ,<-Qm,Nat.mul_mod_left]at this;omega
    have:=key ha hb omg h;have:=key hb ha omg h.symm;omega
   have hl:a.s.length=b.s.length:=by
    have l1:=oF ha;have l2:=oF hb;have g1:=uH ha omg;have g2:=uH hb omg;rcases nP a.s.length b.s.length with hh|hh|hh
    ·have:10^(a.s.length+a.e+1000).toNat<=10^(b.s.length+b.e+999).toNat:=cj de omg;omega
    ·exact hh
    ·have:10^(b.s.length+b.e+1000).toNat<=10^(a.s.length+a.e+999).toNat:=cj de omg;omega
   refine⟨Kar _ _ ha.figs hb.figs hl ?_,he⟩;unfold OM at h;rw[he]at h;exact Nat.eq_of_mul_eq_mul_right (YN de) h
def l7{a b:Node}(ha:EO a)(hb:EO b)(h:sv a=sv b):a=b:=by
 have hm:OM a=OM b/\a.neg=b.neg:=by
  unfold sv at h;cases na:a.neg<;>cases nb:b.neg<;>simp only[na,nb,VM,↓reduceIte]at h
  ·exact⟨omg,rfl⟩
  ·have:=cM hb (hb.neg_len nb);omega
  ·have:=cM ha (ha.neg_len na);omega
  ·exact⟨omg,rfl⟩
 obtain⟨h1,h2⟩:=Kf3 ha hb hm.1;obtain⟨k1,m1,n1,s1,g1,e1⟩:=a;obtain⟨k2,m2,n2,s2,g2,e2⟩:=b;simp only at h1 h2 hm;have:=ha.kind;have:=hb.kind;have:=ha.many;have:=hb.many;have:=ha.name;have:=hb.name;simp_all
def Node.flip(n:Node):Node:={ n with neg:=!n.neg&&(n.s != []) }
def EO.flip{n:Node}(h:EO n):EO n.flip:=by
 obtain⟨g1,g2,g3,g4,g5,g6,g7,g8,g9,g10,g11⟩:=h;refine⟨g1,g2,g3,g4,g5,g6,g7,g8,fun h0=>⟨?_,(g9 h0).2⟩,g10,g11⟩;have:n.s=[]:=KH h0;simp[Node.flip,this]
def Kcv(a b:Int):FT b a = -FT a b:=by unfold FT;split<;>split<;>(try split)<;>omega
def Kdg(a b:Int):FT a b=0↔a=b:=by unfold FT;split<;>(try split)<;>omega
def Kcf(a b:Int):FT a b<0↔a<b:=by unfold FT;split<;>(try split)<;>omega
end Go.LX
set_option maxRecDepth 100000
set_option maxHeartbeats 2000000
namespace Go.LX
open Go Go.RowKit Go.Proofs Go.Proofs.Tryz
variable {α β:Type}{i j:Nat}(a:Int×Node)(k:Int){g g':Bool}{e e':Int}{BL:BO}{s' nm:List UInt8}(l:List BM)(t:BM){ks:List BM}(P:BM->Bool){x:CD}{st:List (List Nat)×List Nat}
section
attribute [local irreducible] Al Bi CL
def EP{α β:Type}(c:α->β->Int):List α->List β->Int|[],[]=>0|[],_::_=>-1|_::_,[]=>1|x::l,y::m=>if c x y=0 then EP c l m else c x y
def xw{c:α->β->Int}{l:List α}{m:List β}{x:α}{y:β}(hx:l[i]?=some x)(hy:m[i]?=some y) :
  EP c (l.drop i) (m.drop i)=if c x y=0 then EP c (l.drop (i+1)) (m.drop (i+1))else c x y:=by
 obtain⟨h1,rfl⟩:=DX.1 hx;obtain⟨h2,rfl⟩:=DX.1 hy;rw[Mx h1,Mx h2,EP]
def xx{c:α->β->Int}{l:List α}{m:List β}(h:l.length<=i)(hm:i<m.length):EP c (l.drop i) (m.drop i) = -1:=by
 rw[JD h,Mx hm,EP]
def xy{c:α->β->Int}{l:List α}{m:List β}(h:l.length<=i)(hm:m.length<=i):EP c (l.drop i) (m.drop i)=0:=by
 rw[JD h,JD hm,EP]
def xz{c:α->β->Int}{l:List α}{m:List β}(h:i<l.length)(hm:m.length<=i):EP c (l.drop i) (m.drop i)=1:=by
 rw[Mx h,JD hm,EP]
def l8(a:List UInt8):GX a a=0:=by simp[GX,E0]
def J39{a b:List UInt8}(h:GX a b=0):a=b:=by
 unfold GX at h;split at h
 ·omega
 ·split at h
  ·omega
  ·rename_i h1 h2;simp at h1 h2;exact h2 h1
def Kbe{a b:List UInt8}(h:¬a=b):GX a b=if Op.bytesLess a b=true then -1 else 1:=by
 unfold GX;split
 ·rfl
 ·rename_i h1;simp at h1;simp[h1,h]
def XG(s:List UInt8)(g:Bool)(e:Int):Node:=⟨3,0,[],s,g,e⟩
mutual
def DT:BM->BM->Int
 |.mk k s g e BL,.mk k' s' g' e' BT =>
  if k=k' then(if k=3 then eE (XG s g e) (XG s' g' e')else if k=4 then GX s s' else
   if k=6 then(if EP GX (BL.list.map (·.1)) (BT.list.map (·.1))=0 then RV BL BT.list else EP GX (BL.list.map (·.1)) (BT.list.map (·.1)))else
   if k=5 then RV BL BT.list else 0)else FT k k'
def RV:BO->List KT->Int|.nil,[]=>0|.nil,_::_=>-1|.cons _ _ _,[]=>1|.cons _ t r,q::l=>if DT t q.2=0 then RV r l else DT t q.2
end
def VY{k:Int}{s:List UInt8}{k':Int}{BT:BO}:DT (.mk k s g e BL) (.mk k' s' g' e' BT) =
  if k=k' then(if k=3 then eE (XG s g e) (XG s' g' e')else if k=4 then GX s s' else
   if k=6 then(if EP GX (BL.list.map (·.1)) (BT.list.map (·.1))=0 then RV BL BT.list else EP GX (BL.list.map (·.1)) (BT.list.map (·.1)))else
   if k=5 then RV BL BT.list else 0)else FT k k':=by rw[DT]
def l9:∀(f:BO) (l:List KT),RV f l=EP (fun p q:KT=>DT p.2 q.2) f.list l
 |.nil,[]=>by rw[RV];rfl
 |.nil,_::_=>by rw[RV];rfl
 |.cons _ _ _,[]=>by rw[RV];rfl
 |.cons _ t r,q::l=>by rw[RV,l9 r l];rfl
def fz{l:List KT}{p:KT}(h:l[i]?=some p):(Bd l)[i]?=some [.str p.1]:=by simp[Bd,h]
def x6{l:List KT}{p:KT}(h:l[i]?=some p):(l.map (·.1))[i]?=some p.1:=by simp[h]
def J3c(l m:List KT)(hl:l.length<=1500000000000)(ā:m.length<=1500000000000):CA cx 118 [.p (.sl (Bd l)),.p (.sl (Bd m))] [] (.p (.int .i64 (EP GX (l.map (·.1)) (m.map (·.1))))) []:=by
 have e1:(l.map (·.1)).length=l.length:=HM ..
 have e2:(m.map (·.1)).length=m.length:=HM ..
 (refine CK func118 ?_;simp only[go_sem,simprocAttr,A9]);refine CL.loop (fun i:Nat=>⟨Ba 36 [(0,.p (.sl (Bd l))),(1,.p (.sl (Bd m))),(9,.p (.sl (Bd l))),(10,.p (.int .i64 l.length)),(11,.p (.int .i64 i))],[]⟩) (fun i=>i<=l.length/\EP GX (l.map (·.1)) (m.map (·.1))=EP GX ((l.map (·.1)).drop i) ((m.map (·.1)).drop i)) (fun i=>l.length-i) 0 CH ⟨EK _,rfl⟩ ?_;rintro i ⟨h1,h3⟩;by_cases hi:i<l.length
 ·have c1:((i:Int)<(l.length:Int))=True:=AE omg;obtain⟨x,hx⟩:∃x,l[i]?=some x:=⟨_,C' hi⟩
  have EH:=fz hx;by_cases hj:i<m.length
  ·have c2:((m.length:Int)<=(i:Int))=False:=AD omg;obtain⟨y,hy⟩:∃y,m[i]?=some y:=⟨_,C' hj⟩
   have UD:=fz hy;have w1:=DM (i:=i) omg;have hk:=xw (c:=GX) (x6 hx) (x6 hy);(refine CC ?_;simp only[go_sem,simprocAttr,A9,c1,c2,EH,UD]);(repeat'(first|(apply BY<;>intro h)|((refine BU (þ _ _) ?_);simp only[go_sem,simprocAttr,w1])|fail))
   ·rw[h3,hk,AA h]
   ·exact⟨i+1,⟨omg,by rw[h3,hk,AB (JK.1 h)]⟩,omg,CH⟩
  ·have c2:((m.length:Int)<=(i:Int))=True:=AE omg;(refine CC ?_;simp only[go_sem,simprocAttr,A9,c1,c2,EH]);rw[h3,xz omg omg]
 ·have c1:((i:Int)<(l.length:Int))=False:=AD omg;(refine CC ?_;simp only[go_sem,simprocAttr,A9,c1]);(repeat'(apply BY<;>intro h))
  ·rw[h3,xx omg omg]
  ·rw[h3,xy omg omg]
def eJ(a b:Bool):CA cx 120 [.p (.bool a),.p (.bool b)] [] (.p (.int .i64 (if b=true then 0 else if a=true then -1 else 1))) []:=by
 (refine CB func120 ?_);cases a<;>cases b<;>(repeat'(apply BY<;>intro h))
 all_goals(first|rfl|simp_all)
def J8h(l m:List KT)(hl:l.length<=1500000000000)(ā:m.length<=1500000000000):CA cx 123 [.p (.sl (Bd l)),.p (.sl (Bd m))] [] (.p (.int .i64 (EP GX (l.map (·.1)) (m.map (·.1))))) []:=by
 have e1:(l.map (·.1)).length=l.length:=HM ..
 have e2:(m.map (·.1)).length=m.length:=HM ..
 (refine CB func123 ?_);refine CL.loop (fun i:Nat=>⟨Ba 48 [(0,.p (.sl (Bd l))),(1,.p (.sl (Bd m))),(5,.p (.int .i64 i))],[]⟩) (fun i=>i<=l.length/\i<=m.length/\EP GX (l.map (·.1)) (m.map (·.1))=EP GX ((l.map (·.1)).drop i) ((m.map (·.1)).drop i)) (fun i=>l.length-i) 0 CH ⟨EK _,EK _,rfl⟩ ?_;rintro i ⟨h1,h2,h3⟩;by_cases QS:i<l.length/\i<m.length
 ·have c1:((i:Int)<(l.length:Int))=True:=AE omg;have c2:((i:Int)<(m.length:Int))=True:=AE omg;obtain⟨x,hx⟩:∃x,l[i]?=some x:=⟨_,C' QS.1⟩
  obtain⟨y,hy⟩:∃y,m[i]?=some y:=⟨_,C' QS.2⟩
  have EH:=fz hx;have UD:=fz hy;have w1:=DM (i:=i) omg;have hk:=xw (c:=GX) (x6 hx) (x6 hy);(refine CC ?_;simp only[go_sem,simprocAttr,A9,c1,c2]);(repeat'(first|(apply BY<;>intro h)|((first|refine EG ?_|(refine DS (eJ _ _) ?_));simp only[go_sem,simprocAttr,EH,UD,w1])|fail))
  ·have h:=(show ¬x.1=y.1 by assumption)
   have DA:GX x.1 y.1≠0:=fun e=>h (J39 e)
   rw[h3,hk,AA DA,Kbe h]
  ·have h:=JK.1 (show ¬¬x.1=y.1 by assumption);exact⟨i+1,⟨omg,omg,by rw[h3,hk,h,l8,AB rfl]⟩,omg,CH⟩
 ·by_cases hi:i<l.length
  ·have c1:((i:Int)<(l.length:Int))=True:=AE omg;have c2:((i:Int)<(m.length:Int))=False:=AD omg;have c3:((l.length:Int)<(m.length:Int))=False:=AD omg;have c4:((l.length:Int)=(m.length:Int))=False:=AD omg;(refine CC ?_;simp only[go_sem,simprocAttr,A9,c1,c2,c3,decide_false,decide_true]);(repeat'(first|((refine BU (eJ _ _) ?_);simp only[go_sem,simprocAttr,c4])|fail));rw[h3,xz omg omg]
  ·have c1:((i:Int)<(l.length:Int))=False:=AD omg;by_cases hj:i<m.length
   ·have c3:((l.length:Int)<(m.length:Int))=True:=AE omg;have c4:((l.length:Int)=(m.length:Int))=False:=AD omg;(refine CC ?_;simp only[go_sem,simprocAttr,A9,c1,c3,decide_false,decide_true]);(repeat'(first|((refine BU (eJ _ _) ?_);simp only[go_sem,simprocAttr,c4])|fail));rw[h3,xx omg omg]
   ·have c3:((l.length:Int)<(m.length:Int))=False:=AD omg;have c4:((l.length:Int)=(m.length:Int))=True:=AE omg;(refine CC ?_;simp only[go_sem,simprocAttr,A9,c1,c3,decide_false]);(repeat'(first|((refine BU (eJ _ _) ?_);simp only[go_sem,simprocAttr,c4])|fail));rw[h3,xy omg omg]
def x7{l:List KT}{p:KT}(h:l[i]?=some p):(A4 l)[i]?=some [.sl (BP (p.2.enc []))]:=by simp[A4,h]
def cN(a:Int):FT a a=0:=by simp[FT]
abbrev PL (p q:KT):Int:=DT p.2 q.2
def J3v(l m:List KT)(hl:l.length<=1500000000000)(ā:m.length<=1500000000000)(hc:∀p∈l,∀q∈m,CA cx 62 [.p (.sl (BP (p.2.enc []))),.p (.sl (BP (q.2.enc [])))] [] (.p (.int .i64 (PL p q))) []) :
  CA cx 119 [.p (.sl (A4 l)),.p (.sl (A4 m)),.fn 62 []] [] (.p (.int .i64 (EP PL l m))) []:=by
 (refine CK func119 ?_;simp only[go_sem,simprocAttr,A5]);refine CL.loop (fun i:Nat=>⟨Ba 39 [(0,.p (.sl (A4 l))),(1,.p (.sl (A4 m))),(2,.fn 62 []),(11,.p (.sl (A4 l))),(12,.p (.int .i64 l.length)),(13,.p (.int .i64 i))],[]⟩) (fun i=>i<=l.length/\EP PL l m=EP PL (l.drop i) (m.drop i)) (fun i=>l.length-i) 0 CH ⟨EK _,rfl⟩ ?_;rintro i ⟨h1,h3⟩;by_cases hi:i<l.length
 ·have c1:((i:Int)<(l.length:Int))=True:=AE omg;obtain⟨x,hx⟩:∃x,l[i]?=some x:=⟨_,C' hi⟩
  have EH:=x7 hx;by_cases hj:i<m.length
  ·have c2:((m.length:Int)<=(i:Int))=False:=AD omg;obtain⟨y,hy⟩:∃y,m[i]?=some y:=⟨_,C' hj⟩
   have UD:=x7 hy;have w1:=DM (i:=i) omg;have hk:=xw (c:=PL) hx hy;have QC:=hc x (D4 hx) y (D4 hy);(refine CC ?_;simp only[go_sem,simprocAttr,A5,c1,c2,EH,UD]);(repeat'(first|(apply BY<;>intro h)|((refine BU QC ?_);simp only[go_sem,simprocAttr,w1])|fail))
   ·rw[h3,hk,AA h]
   ·exact⟨i+1,⟨omg,by rw[h3,hk,AB (JK.1 h)]⟩,omg,CH⟩
  ·have c2:((m.length:Int)<=(i:Int))=True:=AE omg;(refine CC ?_;simp only[go_sem,simprocAttr,A5,c1,c2,EH]);rw[h3,xz omg omg]
 ·have c1:((i:Int)<(l.length:Int))=False:=AD omg;(refine CC ?_;simp only[go_sem,simprocAttr,A5,c1]);(repeat'(apply BY<;>intro h))
  ·rw[h3,xx omg omg]
  ·rw[h3,xy omg omg]
def J9n(l m:List KT)(hl:l.length<=1500000000000)(ā:m.length<=1500000000000)(hc:∀p∈l,∀q∈m,CA cx 64 [.p (.sl (BP (p.2.enc []))),.p (.sl (BP (q.2.enc [])))] [] (.p (.int .i64 (PL p q))) []) :
  CA cx 122 [.p (.sl (A4 l)),.p (.sl (A4 m))] [] (.p (.int .i64 (EP PL l m))) []:=by
 (refine CB func122 ?_);refine CL.loop (fun i:Nat=>⟨Ba 42 [(0,.p (.sl (A4 l))),(1,.p (.sl (A4 m))),(5,.p (.int .i64 i))],[]⟩) (fun i=>i<=l.length/\i<=m.length/\EP PL l m=EP PL (l.drop i) (m.drop i)) (fun i=>l.length-i) 0 CH ⟨EK _,EK _,rfl⟩ ?_;rintro i ⟨h1,h2,h3⟩;by_cases QS:i<l.length/\i<m.length
 ·have c1:((i:Int)<(l.length:Int))=True:=AE omg;have c2:((i:Int)<(m.length:Int))=True:=AE omg;obtain⟨x,hx⟩:∃x,l[i]?=some x:=⟨_,C' QS.1⟩
  obtain⟨y,hy⟩:∃y,m[i]?=some y:=⟨_,C' QS.2⟩
  have EH:=x7 hx;have UD:=x7 hy;have w1:=DM (i:=i) omg;have hk:=xw (c:=PL) hx hy;have QC:=hc x (D4 hx) y (D4 hy);(refine CC ?_;simp only[go_sem,simprocAttr,A5,c1,c2]);(repeat'(first|(apply BY<;>intro h)|((first|refine EG ?_|refine DS QC ?_);simp only[go_sem,simprocAttr,EH,UD,w1])|fail))
  ·rw[h3,hk,AA h]
  ·exact⟨i+1,⟨omg,omg,by rw[h3,hk,AB (JK.1 h)]⟩,omg,CH⟩
 ·by_cases hi:i<l.length
  ·have c1:((i:Int)<(l.length:Int))=True:=AE omg;have c2:((i:Int)<(m.length:Int))=False:=AD omg;have c3:((l.length:Int)<(m.length:Int))=False:=AD omg;have c4:((l.length:Int)=(m.length:Int))=False:=AD omg;(refine CC ?_;simp only[go_sem,simprocAttr,A5,c1,c2,c3,decide_false,decide_true]);(repeat'(first|((refine BU (eJ _ _) ?_);simp only[go_sem,simprocAttr,c4])|fail));rw[h3,xz omg omg]
  ·have c1:((i:Int)<(l.length:Int))=False:=AD omg;by_cases hj:i<m.length
   ·have c3:((l.length:Int)<(m.length:Int))=True:=AE omg;have c4:((l.length:Int)=(m.length:Int))=False:=AD omg;(refine CC ?_;simp only[go_sem,simprocAttr,A5,c1,c3,decide_false,decide_true]);(repeat'(first|((refine BU (eJ _ _) ?_);simp only[go_sem,simprocAttr,c4])|fail));rw[h3,xx omg omg]
   ·have c3:((l.length:Int)<(m.length:Int))=False:=AD omg;have c4:((l.length:Int)=(m.length:Int))=True:=AE omg;(refine CC ?_;simp only[go_sem,simprocAttr,A5,c1,c3,decide_false]);(repeat'(first|((refine BU (eJ _ _) ?_);simp only[go_sem,simprocAttr,c4])|fail));rw[h3,xy omg omg]
def x8{k m:Int}{s:List UInt8}(h:Yz s g e):Node.small ⟨k,m,nm,s,g,e⟩:=by
 obtain⟨_,h1,h2,h3,_⟩:=h;exact⟨by show s.length<=_;omega,by show _<=e;omega,by show e<=_;omega⟩
def gA{s:List UInt8}(h:Yz s g e):EO (XG s g e):=by
 obtain⟨h0,h1,h2,h3,h4,h5⟩:=h;refine⟨rfl,rfl,rfl,h0,h1,h2,h3,h4,fun hz=>?_,fun hp=>?_,fun hp=>?_⟩
 ·have:s=[]:=KH hz;rw[AB this]at h5;exact h5
 ·have:s≠[]:=by intro e;subst e;exact(Nat.lt_irrefl 0 hp).elim
  rw[AA this]at h5;exact h5.1
 ·have:s≠[]:=by intro e;subst e;exact(Nat.lt_irrefl 0 hp).elim
  rw[AA this]at h5;exact h5.2
def J98{s:List UInt8}(h:Yz s g e)(h':Yz s' g' e'):Z7 (XG s g e) (XG s' g' e')=eE (XG s g e) (XG s' g' e'):=by
 rw[Kcx (gA h) (gA h'),J33 (gA h) (gA h')]
def cO{k m:Int}{s:List UInt8}(h:G3 k s g e m)(hk:k=3):Yz s g e:=by
 subst hk;unfold G3 at h;simp at h;exact h.2
def mA(m m':Int)(nm DJ s s':List UInt8)(g g':Bool)(e e':Int)(h:Yz s g e)(h':Yz s' g' e'):CA cx 116 [.p (.agg [.int .i64 3,.int .i64 m,.str nm,.str s,.bool g,.int .i64 e]),.p (.agg [.int .i64 3,.int .i64 m',.str DJ,.str s',.bool g',.int .i64 e'])] [] (.p (.int .i64 (eE (XG s g e) (XG s' g' e')))) []:=by
 have:=Kfw ⟨3,m,nm,s,g,e⟩ ⟨3,m',DJ,s',g',e'⟩ (x8 h) (x8 h');exact this
def Keu(s s':List UInt8)(g g':Bool)(e e':Int)(h:Yz s g e)(h':Yz s' g' e'):CA cx 121 [.p (.agg [.int .i64 3,.int .i64 0,.str [],.str s,.bool g,.int .i64 e]),.p (.agg [.int .i64 3,.int .i64 0,.str [],.str s',.bool g',.int .i64 e'])] [] (.p (.int .i64 (eE (XG s g e) (XG s' g' e')))) []:=by
 have:=Kd9 ⟨3,0,[],s,g,e⟩ ⟨3,0,[],s',g',e'⟩ (x8 h) (x8 h');rw[<-J98 h h'];exact this
def Ă{a b:Int}(h:¬a=b):¬FT a b=0:=by
 unfold FT;split
 ·decide
 ·split
  ·decide
  ·omega
def cP{k:Int}{s:List UInt8}(h:EZ (.mk k s g e BL)){p:KT}(hp:p∈BL.list):EZ p.2:=xn.1 (Lu.1 h).2.2 p hp
def x9(n:Nat)(t u:BM)(hn:(t.enc []).length<=n)(ht:EZ t)(hu:EZ u)(hs:(t.enc []).length<=1500000000000)(QP:(u.enc []).length<=1500000000000):CA cx 62 [.p (.sl (BP (t.enc []))),.p (.sl (BP (u.enc [])))] [] (.p (.int .i64 (DT t u))) []:=by
 induction n generalizing t u with
 |zero=>have:=Et t [];omega
 |succ n ih =>
 cases t with
 |mk k s g e BL =>
 cases u with
 |mk k' s' g' e' BT =>
 have GZ:=Lu.1 ht;have MP:=Lu.1 hu;rw[A6,DH]at hn hs QP;have hg:=Cc [] k s g e BL;have PE:=Cc [] k' s' g' e' BT;have GB:=KE BL;have ă:=KE BT;have DV:=LU BL;have hkl':=LU BT;have hc:∀p∈BL.list,∀q∈BT.list,CA cx 62 [.p (.sl (BP (p.2.enc []))),.p (.sl (BP (q.2.enc [])))] [] (.p (.int .i64 (PL p q))) []:=fun p hp q hq=>ih p.2 q.2 (by have:=YE hp;omega) (cP ht hp) (cP hu hq) (by have:=YE hp;omega) (by have:=YE hq;omega)
 have uJ:=J3v BL.list BT.list omg omg hc;by_cases HE:k=k'
 ·subst HE;by_cases h3:k=3
  ·subst h3;refine CB func62 ?_;(repeat'(first|(apply BY<;>intro h)|((first|refine EG ?_|refine DS (l3 _ _) ?_|refine DS (mA _ _ _ _ _ _ _ _ _ _ (cO GZ.1 rfl) (cO MP.1 rfl)) ?_);simp only[go_sem,simprocAttr,hg,PE])|fail))
   all_goals first
    |exact absurd (cN _) AN
    |(rw[VY,AB rfl,AB rfl];done)
  ·by_cases h4:k=4
   ·subst h4;refine CB func62 ?_;(repeat'(first|(apply BY<;>intro h)|((first|refine EG ?_|refine DS (l3 _ _) ?_|refine DS (þ _ _) ?_);simp only[go_sem,simprocAttr,hg,PE])|fail))
    all_goals first
     |exact absurd (cN _) AN
     |(rw[VY,AB rfl,AA de,AB rfl];done)
   ·by_cases h6:k=6
    ·subst h6;refine CB func62 ?_;(repeat'(first|(apply BY<;>intro h)|((first|refine EG ?_|refine DS (l3 _ _) ?_|refine BU (Ρ [] s g e BL omg) ?_|refine BU (Ρ [] s' g' e' BT omg) ?_|refine BU (J3c _ _ omg omg) ?_|refine BU (Px [] 6 s g e BL omg) ?_|refine BU (Px [] 6 s' g' e' BT omg) ?_|refine BU uJ ?_);simp only[go_sem,simprocAttr,hg,PE])|fail))
     all_goals first
      |exact absurd (cN _) AN
      |(rw[VY,AB rfl,AA de,AA de,AB rfl,AA AN];done)
      |(rw[VY,AB rfl,AA de,AA de,AB rfl,AB (JK.1 AN),l9];done)
    ·by_cases h5:k=5
     ·subst h5;refine CB func62 ?_;(repeat'(first|(apply BY<;>intro h)|((first|refine EG ?_|refine DS (l3 _ _) ?_|refine BU (Px [] 5 s g e BL omg) ?_|refine BU (Px [] 5 s' g' e' BT omg) ?_|refine BU uJ ?_);simp only[go_sem,simprocAttr,hg,PE])|fail))
      all_goals first
       |exact absurd (cN _) AN
       |(rw[VY,AB rfl,AA de,AA de,AA de,AB rfl,l9];done)
     ·refine CB func62 ?_;(repeat'(first|(apply BY<;>intro h)|((first|refine EG ?_|refine DS (l3 _ _) ?_);simp only[go_sem,simprocAttr,hg,PE])|(exfalso;omega)))
      all_goals first
       |exact absurd (cN _) AN
       |(rw[VY,AB rfl,AA h3,AA h4,AA h6,AA h5];done)
 ·refine CB func62 ?_;(repeat'(first|(apply BY<;>intro h)|((first|refine EG ?_|refine DS (l3 _ _) ?_);simp only[go_sem,simprocAttr,hg,PE])|fail))
  all_goals first
   |(rw[VY,AA HE];done)
   |exact absurd (JK.1 AN) (Ă HE)
   |exact absurd AN (Ă HE)
def Kbl{a b:Int}:FT a b=if a=b then 0 else if a<b then -1 else 1:=by
 unfold FT;split
 ·rw[AA omg]
 ·split
  ·rw[AA omg]
  ·rw[AB omg]
def yA{a b:List UInt8}:GX a b=if a=b then 0 else if Op.bytesLess a b=true then -1 else 1:=by
 by_cases h:a=b
 ·subst h;rw[AB rfl,l8]
 ·rw[AA h,Kbe h]
def Ą(n:Nat)(t u:BM)(hn:(t.enc []).length<=n)(ht:EZ t)(hu:EZ u)(hs:(t.enc []).length<=1500000000000)(QP:(u.enc []).length<=1500000000000):CA cx 64 [.p (.sl (BP (t.enc []))),.p (.sl (BP (u.enc [])))] [] (.p (.int .i64 (DT t u))) []:=by
 induction n generalizing t u with
 |zero=>have:=Et t [];omega
 |succ n ih =>
 cases t with
 |mk k s g e BL =>
 cases u with
 |mk k' s' g' e' BT =>
 have GZ:=Lu.1 ht;have MP:=Lu.1 hu;rw[A6,DH]at hn hs QP;have hg:=Cc [] k s g e BL;have PE:=Cc [] k' s' g' e' BT;have GB:=KE BL;have ă:=KE BT;have DV:=LU BL;have hkl':=LU BT;have hc:∀p∈BL.list,∀q∈BT.list,CA cx 64 [.p (.sl (BP (p.2.enc []))),.p (.sl (BP (q.2.enc [])))] [] (.p (.int .i64 (PL p q))) []:=fun p hp q hq=>ih p.2 q.2 (by have:=YE hp;omega) (cP ht hp) (cP hu hq) (by have:=YE hp;omega) (by have:=YE hq;omega)
 have uJ:=J9n BL.list BT.list omg omg hc;by_cases HE:k=k'
 ·subst HE;by_cases h3:k=3
  ·subst h3;have NI:(BL.len:Int)=0:=by have:=GZ.1;simp[G3]at this;omega
   have eF:(BT.len:Int)=0:=by have:=MP.1;simp[G3]at this;omega
   rw[NI]at hg;rw[eF]at PE;refine CB func64 ?_;(repeat'(first|((refine EG ?_);simp only[go_sem,simprocAttr,hg,PE,hg,PE])|fail));refine Kd0 6 [0,1,2,3,4,5] (.node 6 (.node 7 (.node 8 (.node 9 .leaf .nil) .nil) .nil) (.node 7 (.node 6 (.node 8 (.node 9 .leaf .nil) .nil) .nil) .nil)) 4 hm rfl kr kr ?_;simp only[go_sem,simprocAttr,hg,PE,hg,PE];refine⟨?_,?_⟩
   ·(repeat'(first|refine CI (Keu _ _ _ _ _ _ (cO GZ.1 rfl) (cO MP.1 rfl)) ?_|fail));rw[VY,AB rfl,AB rfl]
   ·(repeat'(first|refine CI (Keu _ _ _ _ _ _ (cO GZ.1 rfl) (cO MP.1 rfl)) ?_|fail));rw[VY,AB rfl,AB rfl]
  ·by_cases h4:k=4
   ·subst h4;refine CB func64 ?_;(repeat'(first|((first|refine EG ?_|refine DS (eJ _ _) ?_);simp only[go_sem,simprocAttr,hg,PE])|fail))
    all_goals first
     |exact(by rw[VY,AB rfl,AA de,AB rfl,yA]:DT _ _=_).symm
   ·by_cases h6:k=6
    ·subst h6;refine CB func64 ?_;(repeat'(first|(apply BY<;>intro h)|((first|refine EG ?_|refine BU (Ir [] s g e BL omg) ?_|refine BU (Ir [] s' g' e' BT omg) ?_|refine BU (J8h _ _ omg omg) ?_|refine BU (Dy [] 6 s g e BL omg) ?_|refine BU (Dy [] 6 s' g' e' BT omg) ?_|refine BU uJ ?_);simp only[go_sem,simprocAttr,hg,PE])|fail))
     all_goals first
      |(rw[VY,AB rfl,AA de,AA de,AB rfl,AA AN];done)
      |(rw[VY,AB rfl,AA de,AA de,AB rfl,AB (JK.1 AN),l9];done)
    ·by_cases h5:k=5
     ·subst h5;refine CB func64 ?_;(repeat'(first|((first|refine EG ?_|refine BU (Dy [] 5 s g e BL omg) ?_|refine BU (Dy [] 5 s' g' e' BT omg) ?_|refine BU uJ ?_);simp only[go_sem,simprocAttr,hg,PE])|fail))
      all_goals first
       |(rw[VY,AB rfl,AA de,AA de,AA de,AB rfl,l9];done)
     ·have zn:=AD h3;have h4':=AD h4;have h5':=AD h5;have h6':=AD h6;refine CB func64 ?_;(repeat'(first|((refine EG ?_);simp only[go_sem,simprocAttr,hg,PE,zn,h4',h5',h6'])|fail))
      all_goals first
       |(rw[VY,AB rfl,AA h3,AA h4,AA h6,AA h5];done)
 ·have ą:=AD HE;refine CB func64 ?_;(repeat'(first|((first|refine EG ?_|refine BU (eJ _ _) ?_);simp only[go_sem,simprocAttr,hg,PE,ą])|fail))
  all_goals first
   |(rw[VY,AA HE,Kbl,AA HE];done)
def CQ:List (List PV):=l.map fun t=>[.sl (BP (t.enc []))]
@[simp] theorem FZ (l:List BM):(CQ l).length=l.length:=by simp[CQ]
def RW{l:List BM}{t:BM}(h:l[i]?=some t):(CQ l)[i]?=some [.sl (BP (t.enc []))]:=by simp[CQ,h]
def Kdt:List BM->Bool|a::b::l=>decide (0<=DT b a)&&Kdt (b::l)|_=>true
def mB:Prop:=l.length<=1500000000000/\∀t∈l,EZ t/\(t.enc []).length<=1500000000000
structure RX {α:Type} (P:α->Prop) (c:α->α->Int):Prop where
 self:∀a,P a->c a a=0
 swap:∀a b,P a->P b->c b a = -c a b
 zero:∀a b,P a->P b->c a b=0->a=b
 trans:∀a b d,P a->P b->P d->c a b<0->c b d<0->c a d<0
def Kbd:RX (fun _:Int=>True) FT where
 self a _:=by simp[FT]
 swap a b _ _:=Kcv a b
 zero a b _ _ h:=(Kdg a b).1 h
 trans a b d _ _ _ h1 h2:=by rw[Kcf]at *;omega
def Kc0{a b:List UInt8}:GX a b<0↔Op.bytesLess a b=true:=by
 rw[yA];by_cases e:a=b
 ·subst e;simp[E0]
 ·rw[AA e];by_cases h:Op.bytesLess a b=true
  ·simp[h]
  ·simp[h]
def Ka7:RX (fun _:List UInt8=>True) GX where
 self a _:=l8 a
 swap a b _ _:=by
  rw[yA,yA (a:=a)];by_cases e:a=b
  ·subst e;simp
  ·by_cases h:Op.bytesLess a b=true
   ·simp[e,Ne.symm e,h,L3 h]
   ·simp[e,Ne.symm e,h,Qf (by simpa using h) e]
 zero a b _ _ h:=J39 h
 trans a b d _ _ _ h1 h2:=by rw[Kc0]at *;exact H8 h1 h2
def Ka4{P:α->Prop}{c:α->α->Int}(o:RX P c):RX (fun l:List α=>∀x∈l,P x) (EP c)where
 self:=by
  intro l hl
  induction l with
  |nil=>rfl
  |cons x l ih=>rw[EP,AB (o.self x (hl x DQ))];exact ih fun y hy=>hl y (EW _ hy)
 swap:=by
  intro l
  induction l with
  |nil=>intro m _ _;cases m<;>simp[EP]
  |cons x l ih =>
   intro m hl II;cases m with
   |nil=>simp[EP]
   |cons y m =>
    have hs:=o.swap x y (hl x DQ) (II y DQ);rw[EP,EP];by_cases h:c x y=0
    ·rw[AB h,AB omg];exact ih m (fun z hz=>hl z (EW _ hz)) (fun z hz=>II z (EW _ hz))
    ·rw[AA h,AA omg];exact hs
 zero:=by
  intro l
  induction l with
  |nil =>
   intro m _ _ h;cases m with
   |nil=>rfl
   |cons y m=>simp[EP]at h
  |cons x l ih =>
   intro m hl II h;cases m with
   |nil=>simp[EP]at h
   |cons y m =>
    rw[EP]at h;by_cases h0:c x y=0
    ·rw[AB h0]at h;rw[o.zero x y (hl x DQ) (II y DQ) h0,ih m (fun z hz=>hl z (EW _ hz)) (fun z hz=>II z (EW _ hz)) h]
    ·rw[AA h0]at h;exact absurd h h0
 trans:=by
  intro l
  induction l with
  |nil =>
   intro m n _ _ _ h1 h2;cases n with
   |nil =>
    cases m with
    |nil=>simp[EP]at h1
    |cons y m=>simp[EP]at h2
   |cons z n=>simp[EP]
  |cons x l ih =>
   intro m n hl II hn h1 h2;cases m with
   |nil=>simp[EP]at h1
   |cons y m =>
    cases n with
    |nil=>simp[EP]at h2
    |cons z n =>
     rw[EP]at h1 h2⊢;have hx:=hl x DQ;have hy:=II y DQ;have hz:=hn z DQ;by_cases a:c x y=0
     ·have e:=o.zero x y hx hy a;subst e;rw[AB a]at h1;by_cases b:c x z=0
      ·rw[AB b]at h2⊢;exact ih m n (fun w hw=>hl w (EW _ hw)) (fun w hw=>II w (EW _ hw)) (fun w hw=>hn w (EW _ hw)) h1 h2
      ·rw[AA b]at h2⊢;exact h2
     ·rw[AA a]at h1;by_cases b:c y z=0
      ·have e:=o.zero y z hy hz b;subst e;rw[AA a];exact h1
      ·rw[AA b]at h2;have:=o.trans x y z hx hy hz h1 h2;rw[AA omg];exact this
def RY(c:α->α->Int)(d:β->β->Int)(x y:α×β):Int:=if c x.1 y.1=0 then d x.2 y.2 else c x.1 y.1
def yB{P:α->Prop}{Q:β->Prop}{c:α->α->Int}{d:β->β->Int}(o:RX P c)(q:RX Q d):RX (fun x:α×β=>P x.1/\Q x.2) (RY c d)where
 self x h:=by rw[RY,AB (o.self _ h.1)];exact q.self _ h.2
 swap x y hx hy:=by
  have hs:=o.swap _ _ hx.1 hy.1;unfold RY;by_cases h:c x.1 y.1=0
  ·rw[AB h,AB omg];exact q.swap _ _ hx.2 hy.2
  ·rw[AA h,AA omg];exact hs
 zero x y hx hy h:=by
  unfold RY at h;by_cases h0:c x.1 y.1=0
  ·rw[AB h0]at h;exact Prod.ext (o.zero _ _ hx.1 hy.1 h0) (q.zero _ _ hx.2 hy.2 h)
  ·rw[AA h0]at h;exact absurd h h0
 trans x y z hx hy hz h1 h2:=by
  unfold RY at *
  by_cases a:c x.1 y.1=0
  ·have e:=o.zero _ _ hx.1 hy.1 a;rw[AB a]at h1;rw[e];by_cases b:c y.1 z.1=0
   ·rw[AB b]at h2⊢;exact q.trans _ _ _ hx.2 hy.2 hz.2 h1 h2
   ·rw[AA b]at h2⊢;exact h2
  ·rw[AA a]at h1;by_cases b:c y.1 z.1=0
   ·have e:=o.zero _ _ hy.1 hz.1 b;rw[<-e,AA a];exact h1
   ·rw[AA b]at h2;have:=o.trans _ _ _ hx.1 hy.1 hz.1 h1 h2;rw[AA omg];exact this
def Keh{P:α->Prop}{R:β->Prop}{c:α->α->Int}{d:β->β->Int}(f:β->α)(o:RX P c)(hP:∀x,R x->P (f x))(hc:∀x y,R x->R y->d x y=c (f x) (f y))(hf:∀x y,R x->R y->f x=f y->x=y):RX R d where
 self x h:=by rw[hc x x h h];exact o.self _ (hP x h)
 swap x y h h':=by rw[hc y x h' h,hc x y h h'];exact o.swap _ _ (hP x h) (hP y h')
 zero x y h h' e:=hf x y h h' (o.zero _ _ (hP x h) (hP y h') (by rw[<-hc x y h h'];exact e))
 trans x y z h h' uK e e':=by
  rw[hc x y h h']at e;rw[hc y z h' uK]at e';rw[hc x z h uK];exact o.trans _ _ _ (hP x h) (hP y h') (hP z uK) e e'
def Ć{α β:Type}(c:β->β->Int)(g:α->β):∀l m:List α,EP (fun p q=>c (g p) (g q)) l m=EP c (l.map g) (m.map g)
 |[],[]=>rfl
 |[],_::_=>rfl
 |_::_,[]=>rfl
 |x::l,y::m=>by
  rw[EP,Ć c g l m];rfl
def ć:∀{f g:BO},f.list.map (·.1)=g.list.map (·.1)->f.list.map (·.2)=g.list.map (·.2)->f=g
 |.nil,.nil,_,_=>rfl
 |.nil,.cons _ _ _,h,_=>by simp[BO.list]at h
 |.cons _ _ _,.nil,h,_=>by simp[BO.list]at h
 |.cons a t r,.cons b u q,h1,h2=>by
  simp only[BO.list,Fc,gS]at h1 h2;obtain⟨rfl,h1⟩:=h1;obtain⟨rfl,h2⟩:=h2;rw[ć h1 h2]
def mC{f:BO}(h:(f.len:Int)=0):f=.nil:=by
 cases f with
 |nil=>rfl
 |cons a t r=>rw[BO.len]at h;omega
def VD:BM->Int×Int×List UInt8×List (List UInt8)×List BM|.mk k s g e BL=>(k,(if k=3 then sv (XG s g e)else 0),(if k=4 then s else []),(if k=6 then BL.list.map (·.1)else []),if k=5\/k=6 then BL.list.map (·.2)else [])
def uL:Int×Int×List UInt8×List (List UInt8)×List BM->Int×Int×List UInt8×List (List UInt8)×List BM->Int := RY FT (RY FT (RY GX (RY (EP GX) (EP DT))))
def Kgx{t u:BM}(ht:EZ t)(hu:EZ u):DT t u=uL (VD t) (VD u):=by
 obtain⟨k,s,g,e,BL⟩:=t;obtain⟨k',s',g',e',BT⟩:=u;rw[VY];unfold uL VD RY;by_cases hk:k=k'
 ·subst hk;have h1:=(Lu.1 ht).1;have h2:=(Lu.1 hu).1;simp only[cN,if_true];by_cases h3:k=3
  ·subst h3;rw[J33 (gA (cO h1 rfl)) (gA (cO h2 rfl))];simp only[reduceIte,Int.reduceEq,or_self,l8,EP];split<;>omega
  ·by_cases h4:k=4
   ·subst h4;simp only[reduceIte,Int.reduceEq,or_self,cN,EP];split<;>omega
   ·by_cases h6:k=6
    ·subst h6;simp only[reduceIte,Int.reduceEq,or_true,cN,l8];rw[l9,Ć DT (fun p:KT=>p.2)]
    ·by_cases h5:k=5
     ·subst h5;simp only[reduceIte,Int.reduceEq,true_or,cN,l8,EP];rw[l9,Ć DT (fun p:KT=>p.2)]
     ·simp only[h3,h4,h5,h6,or_self,reduceIte,cN,l8,EP]
 ·have:¬FT k k'=0:=Ă hk;simp only[hk,this,if_false]
def Kg3{t u:BM}(ht:EZ t)(hu:EZ u)(h:VD t=VD u):t=u:=by
 obtain⟨k,s,g,e,BL⟩:=t;obtain⟨k',s',g',e',BT⟩:=u;unfold VD at h;simp only[cp]at h;obtain⟨rfl,a,b,c,d⟩:=h;obtain⟨h1,q1,_⟩:=Lu.1 ht;obtain⟨h2,q2,_⟩:=Lu.1 hu;by_cases h3:k=3
 ·subst h3;simp only[if_true]at a;have:=l7 (gA (cO h1 rfl)) (gA (cO h2 rfl)) a;simp only[XG,Node.mk.injEq,true_and]at this;obtain⟨rfl,rfl,rfl⟩:=this;simp[G3]at h1 h2;rw[mC (by omega:(BL.len:Int)=0),mC (by omega:(BT.len:Int)=0)]
 ·by_cases h4:k=4
  ·subst h4;simp only[if_true]at b;subst b;simp[G3]at h1 h2;obtain⟨_,n1,rfl,rfl⟩:=h1;obtain⟨_,n2,rfl,rfl⟩:=h2;rw[mC (by omega:(BL.len:Int)=0),mC (by omega:(BT.len:Int)=0)]
  ·by_cases h6:k=6
   ·subst h6;simp only[if_true,or_true]at c d;simp[G3]at h1 h2;obtain⟨rfl,rfl,rfl⟩:=h1;obtain⟨rfl,rfl,rfl⟩:=h2;rw[ć c d]
   ·by_cases h5:k=5
    ·subst h5;simp only[if_true,true_or]at d;simp[G3]at h1 h2;obtain⟨rfl,rfl,rfl⟩:=h1;obtain⟨rfl,rfl,rfl⟩:=h2;have n1:∀{f:BO},(∀p∈f.list,p.1=[])->f.list.map (·.1)=List.replicate (f.list.map (·.2)).length []:=fun{f} h=>by
      rw[List.eq_replicate_iff];refine⟨by simp,fun b hb=>?_⟩;obtain⟨p,hp,rfl⟩:=FB.1 hb;exact h p hp
     rw[ć (by rw[n1 (q1.1 rfl),n1 (q2.1 rfl),d]) d]
    ·unfold G3 at h1 h2;by_cases h0:k=0\/k=1\/k=2
     ·rw[AB h0]at h1 h2;obtain⟨n1,rfl,rfl,rfl⟩:=h1;obtain⟨n2,rfl,rfl,rfl⟩:=h2;rw[mC n1,mC n2]
     ·rw[AA h0,AA h3,AA h4,AA omg]at h1;exact h1.elim
def uM:∀n:Nat,RX (fun t:BM=>EZ t/\(t.enc []).length<=n) DT
 |0=>by
  have no:∀t:BM,EZ t/\(t.enc []).length<=0->False:=fun t h=>by have:=Et t [];omega
  exact⟨fun a h=>(no a h).elim,fun a _ h=>(no a h).elim,fun a _ h=>(no a h).elim,fun a _ _ h=>(no a h).elim⟩
 |n+1=>by
  refine Keh VD (yB Kbd (yB Kbd (yB Ka7 (yB (Ka4 Ka7) (Ka4 (uM n)))))) ?_ (fun x y hx hy=>Kgx hx.1 hy.1) (fun x y hx hy=>Kg3 hx.1 hy.1);rintro⟨k,s,g,e,BL⟩ ⟨h1,h2⟩;refine⟨trivial,trivial,trivial,fun _ _=>trivial,fun x hx=>?_⟩;unfold VD at hx;simp only at hx;split at hx
  ·obtain⟨p,hp,rfl⟩:=FB.1 hx;rw[A6,DH]at h2;exact⟨cP h1 hp,by have:=YE hp;omega⟩
  ·cases hx
def Kck{a:BM}(h:EZ a):DT a a=0:=(uM (a.enc []).length).self a ⟨h,CS _⟩
def Ĉ{a b:BM}(h:EZ a)(h':EZ b):DT b a = -DT a b:=(uM (max (a.enc []).length (b.enc []).length)).swap a b ⟨h,Nat.le_max_left _ _⟩ ⟨h',Nat.le_max_right _ _⟩
def ĉ{a b:BM}(h:EZ a)(h':EZ b)(e:DT a b=0):a=b:=(uM (max (a.enc []).length (b.enc []).length)).zero a b ⟨h,Nat.le_max_left _ _⟩ ⟨h',Nat.le_max_right _ _⟩ e
def J3f{a b c:BM}(h:EZ a)(h':EZ b)(uK:EZ c)(e:DT a b<0)(e':DT b c<0):DT a c<0:=
 (uM ((a.enc []).length+(b.enc []).length+(c.enc []).length)).trans a b c ⟨h,omg⟩ ⟨h',omg⟩ ⟨uK,omg⟩ e e'
def Es:BM:=.mk 0 [] false 0 .nil
def HQ(ks:List BM)(i:Nat):BM:=ks.getD i Es
def XH{t:BM}(h:ks[i]?=some t):HQ ks i=t:=by simp[HQ,GU,h]
def Lg(ks:List BM)(i j:Nat):Bool:=decide (DT (HQ ks i) (HQ ks j)<0\/DT (HQ ks i) (HQ ks j)=0/\i<j)
def Nz(ks:List BM):Prop:=∀t∈ks,EZ t
def XI(h:Nz ks)(i:Nat):EZ (HQ ks i):=by
 unfold HQ;rw[GU];cases e:ks[i]? with
 |none =>
  show EZ Es;unfold Es;rw[Lu];exact⟨by decide,Sb 0,I6⟩
 |some t=>exact h t (D4 e)
def J19(h:Nz ks)(i:Nat):Lg ks i i=false:=by
 have:=Kck (XI h i);simp[Lg,this]
def yC(h:Nz ks){k:Nat}(a:Lg ks i j=true)(b:Lg ks j k=true):Lg ks i k=true:=by
 unfold Lg at *
 rw[AF]at *
 have oi:=XI h i;have oj:=XI h j;have ok:=XI h k;rcases a with a|⟨a,a'⟩
 ·rcases b with b|⟨b,b'⟩
  ·exact .inl (J3f oi oj ok a b)
  ·rw[<-ĉ oj ok b];exact .inl a
 ·rw[ĉ oi oj a];rcases b with b|⟨b,b'⟩
  ·exact .inl b
  ·exact .inr ⟨b,omg⟩
def Kda(h:Nz ks)(QS:i≠j)(a:Lg ks i j=false):Lg ks j i=true:=by
 unfold Lg at *
 rw[AI]at a;rw[AF,Ĉ (XI h i) (XI h j)];omega
def J4a(h:Nz ks)(a:Lg ks i j=true):Lg ks j i=false:=by
 cases b:Lg ks j i with
 |false=>rfl
 |true=>have:=yC h a b;rw[J19 h]at this;cases this
def Lh(ks:List BM)(i:Nat):List Nat->List Nat|[]=>[i]|j::l=>if Lg ks j i=true then j::Lh ks i l else i::j::l
def YF(ks:List BM):Nat->List Nat|0=>[]|n+1=>Lh ks n (YF ks n)
def IJ(ks:List BM):List Nat:=YF ks ks.length
def Ċ{ks:List BM}{i j:Nat}:∀{l:List Nat},j∈Lh ks i l↔j=i\/j∈l
 |[]=>by simp[Lh]
 |k::l=>by
  rw[Lh];split
  ·rw[DN,Ċ,DN];constructor
   ·rintro(h|h|h)
    ·exact .inr (.inl h)
    ·exact .inl h
    ·exact .inr (.inr h)
   ·rintro(h|h|h)
    ·exact .inr (.inl h)
    ·exact .inl h
    ·exact .inr (.inr h)
  ·exact DN
def J68{ks:List BM}(h:Nz ks){i:Nat}:∀{l:List Nat},l.Pairwise (fun a b=>Lg ks a b=true)->i∉l->(Lh ks i l).Pairwise fun a b=>Lg ks a b=true
 |[],_,_=>by simp[Lh]
 |j::l,hp,hi=>by
  obtain⟨h1,h2⟩:=NC.1 hp;have QS:i≠j:=fun e=>hi (by rw[e];exact DQ)
  rw[Lh];split
  ·rename_i c;refine NC.2 ⟨fun b hb=>?_,J68 h h2 (fun x=>hi (EW _ x))⟩;rcases Ċ.1 hb with rfl|hb
   ·exact c
   ·exact h1 b hb
  ·rename_i c;have c':=Kda h (Ne.symm QS) (by simpa using c);refine NC.2 ⟨fun b hb=>?_,hp⟩;rcases DN.1 hb with rfl|hb
   ·exact c'
   ·exact yC h c' (h1 b hb)
def ċ{ks:List BM}{i:Nat}:∀{n:Nat},i∈YF ks n↔i<n
 |0=>by simp[YF]
 |n+1=>by rw[YF,Ċ,ċ];omega
def J4f{ks:List BM}(h:Nz ks):∀n:Nat,(YF ks n).Pairwise fun a b=>Lg ks a b=true
 |0=>by simp[YF]
 |n+1=>by
  rw[YF];exact J68 h (J4f h n) (fun x=>by have:=ċ.1 x;omega)
def J8g{ks:List BM}{i:Nat}:∀{l:List Nat},(Lh ks i l).length=l.length+1
 |[]=>rfl
 |j::l=>by
  rw[Lh];split
  ·rw[DH,J8g,DH]
  ·rfl
def J4h{ks:List BM}:∀{n:Nat},(YF ks n).length=n
 |0=>rfl
 |n+1=>by rw[YF,J8g,J4h]
def bd(ks:List BM):(IJ ks).length=ks.length:=J4h
def eK:i∈IJ ks↔i<ks.length:=ċ
def Č(h:Nz ks):(IJ ks).Pairwise fun a b=>Lg ks a b=true:=J4f h _
def J0z{r:Nat->Nat->Prop}(yD:∀i j,r i j->r j i->False):∀{a b:List Nat},a.Pairwise r->b.Pairwise r->(∀i,i∈a↔i∈b)->a=b
 |[],[],_,_,_=>rfl
 |[],y::b,_,_,h=>by have:=(h y).2 DQ;cases this
 |x::a,[],_,_,h=>by have:=(h x).1 DQ;cases this
 |x::a,y::b,ha,hb,h=>by
  obtain⟨a1,a2⟩:=NC.1 ha;obtain⟨b1,b2⟩:=NC.1 hb;have e:x=y:=by
   rcases DN.1 ((h x).1 DQ)with e|hx
   ·exact e
   ·rcases DN.1 ((h y).2 DQ)with e|hy
    ·exact e.symm
    ·exact(yD x y (a1 y hy) (b1 x hx)).elim
  subst e;rw[J0z yD a2 b2 fun i=>?_];constructor
  ·intro hi;rcases DN.1 ((h i).1 (EW _ hi))with e|JM
   ·subst e;exact(yD i i (a1 i hi) (a1 i hi)).elim
   ·exact JM
  ·intro hi;rcases DN.1 ((h i).2 (EW _ hi))with e|JM
   ·subst e;exact(yD i i (b1 i hi) (b1 i hi)).elim
   ·exact JM
def J6k(h:Nz ks){l:List Nat}(II:∀i,i∈l↔i<ks.length)(ho:l.Pairwise fun a b=>Lg ks a b=true):l=IJ ks:=
 J0z (fun i j a b=>by rw[J4a h a]at b;cases b) ho (Č h) fun i=>by rw[II,eK]
def Ou(ks:List BM)(i k:Nat):Nat:=(List.range k).countP fun j=>Lg ks j i
def J9e(ks:List BM)(i k:Nat):Ou ks i (k+1)=Ou ks i k+if Lg ks k i=true then 1 else 0:=by
 unfold Ou;rw[cn,List.countP_append,List.countP_singleton]
def Kez(ks:List BM)(i k:Nat):Ou ks i k<=k:=by
 unfold Ou;have:=List.countP_le_length (p:=fun j=>Lg ks j i) (l:=List.range k);rw[List.length_range]at this;exact this
def J3i(ks:List BM)(p:Nat->Bool)(i:Nat):∀l:List Nat,(Lh ks i l).countP p=l.countP p+if p i=true then 1 else 0
 |[]=>by simp[Lh,List.countP_cons]
 |j::l=>by
  rw[Lh];split
  ·rw[List.countP_cons,J3i ks p i l,List.countP_cons];omega
  ·rw[List.countP_cons]
def J0l(ks:List BM)(p:Nat->Bool):∀n:Nat,(YF ks n).countP p=(List.range n).countP p
 |0=>rfl
 |n+1=>by rw[YF,J3i,J0l ks p n,cn,List.countP_append,List.countP_singleton]
def Kbi(h:Nz ks){p:Nat}(hp:(IJ ks)[p]?=some i):Ou ks i ks.length=p:=by
 unfold Ou;rw[<-J0l ks _ ks.length];show(IJ ks).countP _=p;have ho:=Č h;generalize IJ ks=S at *
 induction S generalizing p with
 |nil=>cases hp
 |cons x l ih =>
  obtain⟨h1,h2⟩:=NC.1 ho;rw[List.countP_cons];cases p with
  |zero =>
   cases hp;rw[J19 h];have:l.countP (fun j=>Lg ks j i)=0:=by
    rw[List.countP_eq_zero];intro a ha;rw[J4a h (h1 a ha)];exact Bool.false_ne_true
   rw[this];rfl
  |succ p =>
   have IA:l[p]?=some i:=hp;rw[ih IA h2,h1 i (D4 IA)];rfl
def Kaw(h:Nz ks)(hi:i<ks.length):Ou ks i ks.length<ks.length/\(IJ ks)[Ou ks i ks.length]?=some i:=by
 obtain⟨p,hp⟩:=WE (eK.2 hi);rw[Kbi h hp];have:=(DX.1 hp).1;rw[bd]at this;exact⟨this,hp⟩
def UF(ks:List BM)(i:Nat):List Nat:=(IJ ks).map fun s=>if s<i then s else 0
def J5l(ks:List BM):UF ks 0=List.replicate ks.length 0:=by
 unfold UF;rw[<-bd ks];exact List.eq_replicate_iff.2 ⟨by simp,fun b hb=>by obtain⟨s,_,rfl⟩:=FB.1 hb;simp⟩
def J00(ks:List BM)(i:Nat):(UF ks i).length=ks.length:=by rw[UF,HM,bd]
def J69(ks:List BM):UF ks ks.length=IJ ks:=by
 unfold UF
 conv=>rhs;rw[<-List.map_id (IJ ks)]
 refine UM fun s hs=>?_
 rw[AB (eK.1 hs)];rfl
def J8s(h:Nz ks)(hi:i<ks.length):(UF ks i).set (Ou ks i ks.length) i=UF ks (i+1):=by
 obtain⟨h1,h2⟩:=Kaw h hi;unfold UF;apply aN;intro q;rw[SO,HM,bd];by_cases e:Ou ks i ks.length=q
 ·subst e;rw[AB rfl,AB h1,Eam,h2,Option.map_some,AB (Nat.lt_succ_self i)]
 ·rw[AA e,Eam,Eam];cases hq:(IJ ks)[q]? with
  |none=>rfl
  |some s =>
   have:s≠i:=fun e'=>e (by subst e';exact Kbi h hq)
   rw[Option.map_some,Option.map_some];by_cases c:s<i
   ·rw[AB c,AB omg]
   ·rw[AA c,AA omg]
def FV(S:List Nat):List BM:=S.map fun i=>HQ l i
def J9l:FV l (List.range l.length)=l:=by
 unfold FV;apply List.ext_getElem
 ·simp
 ·intro i h1 h2;rw[List.getElem_map,List.getElem_range,XH (C' h2)]
end
structure CW where
 kind:Int
 many:Int
 name:List UInt8
 s:List UInt8
 n:Int
 c:Node
variable {b v:List CW}
def CW.cells(r:CW):List PV:=[.int .i64 r.kind,.int .i64 r.many,.str r.name,.str r.s,.int .i64 r.n,.int .i64 r.c.kind,.int .i64 r.c.many,.str r.c.name,.str r.c.s,.bool r.c.neg,.int .i64 r.c.e]
def B9(v:List CW):List (List PV):=v.map CW.cells
mutual
inductive RT where
 |mk (kind:Int) (s:List UInt8) (n:Int) (c:Node) (BL:RF)
inductive RF where
 |nil
 |cons (name:List UInt8) (t:RT) (BR:RF)
end
variable {p:List UInt8×RT}
def RF.len:RF->Nat|.nil=>0|.cons _ _ r=>r.len+1
mutual
def RT.enc(name:List UInt8):RT->List CW|.mk k s n c BL=>⟨k,BL.len,name,s,n,c⟩::BL.enc
def RF.enc:RF->List CW|.nil=>[]|.cons nm t r=>t.enc nm++r.enc
end
def RF.app:RF->RF->RF|.nil,g=>g|.cons nm t r,g=>.cons nm t (r.app g)
def mD:∀f g:RF,(f.app g).len=f.len+g.len
 |.nil,g=>by simp[RF.app,RF.len]
 |.cons nm t r,g=>by simp only[RF.app,RF.len,mD r g];omega
def VZ:∀f g:RF,(f.app g).enc=f.enc++g.enc
 |.nil,g=>by simp[RF.app,RF.enc]
 |.cons nm t r,g=>by simp only[RF.app,RF.enc,VZ r g,KJ]
def GM{name:List UInt8}{k:Int}{s:List UInt8}{n:Int}{c:Node}{BL:RF}:(RT.mk k s n c BL).enc name=⟨k,BL.len,name,s,n,c⟩::BL.enc:=by rw[RT.enc]
def KF{t:RT}{r:RF}:(RF.cons nm t r).enc=t.enc nm++r.enc:=by rw[RF.enc]
def SJ:RF.nil.enc=[]:=by rw[RF.enc]
def TP(t:RT)(nm:List UInt8):1<=(t.enc nm).length:=by
 cases t;rw[GM];simp
def UG:∀f:RF,f.len<=f.enc.length
 |.nil=>by simp[RF.len]
 |.cons nm t r=>by
  have:=TP t nm;have:=UG r;rw[KF,DC,RF.len];omega
@[simp] theorem ON (v:List CW):(B9 v).length=v.length:=by simp[B9]
def yE(n:CW)(v:List CW):B9 (n::v)=n.cells::B9 v:=rfl
def Kfa(a b:List CW):B9 (a++b)=B9 a++B9 b:=by simp[B9]
def Z'{k m:Int}{s:List UInt8}{n:Int}{c:Node}:CW.cells ⟨k,m,nm,s,n,c⟩=[.int .i64 k,.int .i64 m,.str nm,.str s,.int .i64 n,.int .i64 c.kind,.int .i64 c.many,.str c.name,.str c.s,.bool c.neg,.int .i64 c.e]:=rfl
def yF(v:List CW):∀q∈B9 v,q.length=11:=by
 intro q hq;obtain⟨n,_,rfl⟩:=FB.1 hq;rfl
def J40{a:List CW}(h:v.drop i=a++b):((B9 v).drop i).take a.length=B9 a:=by
 have:(B9 v).drop i=B9 a++B9 b:=by rw[<-Kfa,<-h];simp[B9,nH]
 rw[this];simp
def cQ{n:CW}(h:v.drop i=n::b):(B9 v)[i]?=some n.cells:=by
 have:v[i]?=some n:=by
  have:=congrArg (·[0]?) h;simpa using this
 simp[B9,this]
def J4l{a:List CW}(h:v.drop i=a)(ha:a≠[]):i+a.length=v.length:=by
 have:=congrArg List.length h;simp at this;have:1<=a.length:=by cases a<;>simp_all
 omega
def RF.list:RF->List (List UInt8×RT)|.nil=>[]|.cons nm t r=>(nm,t)::r.list
def XJ:∀f:RF,f.list.length=f.len
 |.nil=>rfl
 |.cons _ _ r=>by simp[RF.list,RF.len,XJ r]
def RT.kids:RT->RF|.mk _ _ _ _ k=>k
def RT.kind:RT->Int|.mk k _ _ _ _=>k
def RT.s:RT->List UInt8|.mk _ s _ _ _=>s
def RT.n:RT->Int|.mk _ _ n _ _=>n
def RT.c:RT->Node|.mk _ _ _ c _=>c
abbrev IK:=List UInt8×RT
def uN{t:RT}{r:RF}:(RF.cons nm t r).len=r.len+1:=rfl
def eL(t:RT)(nm:List UInt8):(t.enc nm).length=(t.enc []).length:=by
 cases t;rw[GM,GM];rfl
def MV(L:Nat):List CW->Nat->Option Nat|_,0=>some 0|[],_+1=>none|n::r,o+1=>if n.many<0\/(L:Int)<n.many then none else(MV L r (o+n.many.toNat)).map (· + 1)
def J4t:∀(m:Nat) (F:RF),m<=F.len->∃A B:RF,F=A.app B/\A.len=m
 |0,F,_=>⟨.nil,F,rfl,rfl⟩
 |m+1,.nil,h=>by simp[RF.len]at h
 |m+1,.cons nm t r,h=>by
  obtain⟨A,B,h1,h2⟩:=J4t m r (by simp only[RF.len]at h;omega);exact⟨.cons nm t A,B,by rw[RF.app,<-h1],by simp only[RF.len,h2]⟩
def J0p{L:Nat}:∀{v:List CW} {o k:Nat},MV L v o=some k->∃F:RF,F.len=o/\v=F.enc++v.drop k/\F.enc.length=k
 |v,0,k,h=>by
  simp[MV]at h;subst h;exact⟨.nil,rfl,by simp[SJ],by simp[SJ]⟩
 |[],o+1,k,h=>by simp[MV]at h
 |n::r,o+1,k,h=>by
  simp only[MV]at h;split at h
  ·cases h
  ·rename_i hn;obtain⟨k',h',rfl⟩:=HF.1 h;obtain⟨F,h1,h2,h3⟩:=J0p h';obtain⟨A,B,rfl,hA⟩:=J4t n.many.toNat F omg;rw[mD]at h1;rw[VZ]at h2 h3;refine⟨.cons n.name (.mk n.kind n.s n.n n.c A) B,by simp only[RF.len];omega,?_,?_⟩
   ·rw[KF,GM,cg];have e:(⟨n.kind,A.len,n.name,n.s,n.n,n.c⟩:CW)=n:=by
     have:(A.len:Int)=n.many:=omg;rw[this]
    rw[e];simp only[PQ,KJ];congr 1;rw[<-KJ];exact h2
   ·rw[KF,GM,DC,DH];rw[DC]at h3;omega
def Key{L:Nat}:∀(n:Nat) (F:RF) (r:List CW),F.enc.length<=n->F.enc.length<=L->MV L (F.enc++r) F.len=some F.enc.length
 |_,.nil,r,_,_=>by simp[RF.len,MV,SJ]
 |0,.cons nm t BR,r,h,_=>by
  have:=TP t nm;rw[KF,DC]at h;omega
 |n+1,.cons nm (.mk k s g e BL) BR,r,h,hL=>by
  rw[KF,GM,DC,DH]at h hL;have hk:=UG BL;have ih:=Key (L:=L) n (BL.app BR) r (by rw[VZ,DC];omega) (by rw[VZ,DC];omega);rw[VZ,mD,KJ,DC]at ih;simp only[KF,GM,PQ,KJ,RF.len,MV];rw[AA omg];simp only[Int.toNat_natCast];rw[YM BR.len,ih];simp only[Option.map_some,DH,DC]
def J82:MV v.length v 1=some v.length ↔ ∃nm t,v=RT.enc nm t:=by
 constructor
 ·intro h;obtain⟨F,h1,h2,h3⟩:=J0p h;rw[nQ,ID]at h2
  match F,h1,h2 with
  |.cons nm t .nil,_,h2=>exact⟨nm,t,by rw[h2,KF,SJ,ID]⟩
 ·rintro⟨nm,t,rfl⟩;have:=Key (L:=(t.enc nm).length) (t.enc nm).length (.cons nm t .nil) [] (by rw[KF,SJ];simp) (by rw[KF,SJ];simp);simpa[KF,SJ,RF.len]using this
def TQ(v:List CW)(i o:Nat):Int:=match MV v.length (v.drop i) o with
 |some k=>((i+k:Nat):Int)
 |none=>-1
def Kaj(v:List CW)(i:Nat):TQ v i 0=i:=by
 unfold TQ;have:MV v.length (v.drop i) 0=some 0:=by cases v.drop i<;>rfl
 rw[this];rfl
def Kb4{o:Nat}(h:v.length<=i)(ho:0<o):TQ v i o = -1:=by
 unfold TQ;rw[JD h];cases o with
 |zero=>omega
 |succ o=>rfl
def Kcq{o:Nat}{n:CW}(h:v[i]?=some n)(ho:0<o)(hb:n.many<0\/(v.length:Int)<n.many):TQ v i o = -1:=by
 have hi:=(DX.1 h).1;unfold TQ;rw[Mx hi,(DX.1 h).2];cases o with
 |zero=>omega
 |succ o=>simp only[MV];rw[AB hb]
def J9w{o:Nat}{n:CW}(h:v[i]?=some n)(hb:¬(n.many<0\/(v.length:Int)<n.many)):TQ v i (o+1)=TQ v (i+1) (o+n.many.toNat):=by
 have hi:=(DX.1 h).1;unfold TQ;rw[Mx hi,(DX.1 h).2];simp only[MV];rw[AA hb];cases MV v.length (v.drop (i+1)) (o+n.many.toNat)with
 |none=>rfl
 |some k=>simp only[Option.map_some];omega
def yG{n:CW}(h:v[i]?=some n):(B9 v)[i]?=some [.int .i64 n.kind,.int .i64 n.many,.str n.name,.str n.s,.int .i64 n.n,.int .i64 n.c.kind,.int .i64 n.c.many,.str n.c.name,.str n.c.s,.bool n.c.neg,.int .i64 n.c.e]:=by
 simp[B9,h,CW.cells]
def J1i:∀{a b c d:RF},a.app b=c.app d->a.len=c.len->a=c/\b=d
 |.nil,b,.nil,d,h,_=>⟨rfl,h⟩
 |.nil,_,.cons _ _ _,_,_,h=>by simp[RF.len]at h
 |.cons _ _ _,_,.nil,_,_,h=>by simp[RF.len]at h
 |.cons nm t a,b,.cons DJ t' c,d,h,hl=>by
  rw[RF.app,RF.app]at h;injection h with h1 h2 h3
  obtain⟨rfl,rfl⟩:=J1i (a:=a) (b:=b) (c:=c) (d:=d) h3 (by simpa[RF.len]using hl);exact⟨by rw[h1,h2],rfl⟩
def Kdq:∀(n:Nat) {F G:RF},F.enc.length<=n->F.len=G.len->F.enc=G.enc->F=G
 |_,.nil,.nil,_,_,_=>rfl
 |_,.nil,.cons _ _ _,_,h,_=>by simp[RF.len]at h
 |_,.cons _ _ _,.nil,_,h,_=>by simp[RF.len]at h
 |0,.cons nm t r,.cons _ _ _,h,_,_=>by
  have:=TP t nm;rw[KF,DC]at h;omega
 |n+1,.cons nm (.mk k s g e BL) r,.cons DJ (.mk k' s' g' e' BT) r',h,hl,he=>by
  rw[KF,GM,DC,DH]at h;rw[KF,KF,GM,GM,PQ,PQ]at he;injection he with h1 h2
  injection h1 with g1 g2 g3 g4 g5 g6
  rw[<-VZ,<-VZ]at h2;simp only[RF.len]at hl;have hk:BL.len=BT.len:=omg;have:=Kdq n (F:=BL.app r) (G:=BT.app r') (by rw[VZ,DC];omega) (by rw[mD,mD];omega) h2;obtain⟨rfl,rfl⟩:=J1i this hk;rw[g1,g3,g4,g5,g6]
def Kfx{t u:RT}{a b:List UInt8}(h:t.enc a=u.enc b):a=b/\t=u:=by
 have:=Kdq (RF.cons a t .nil).enc.length (F:=.cons a t .nil) (G:=.cons b u .nil) (CS _) rfl (by rw[KF,KF,h]);injection this with h1 h2 _
 exact⟨h1,h2⟩
def J9g(h:TQ v 0 1=v.length):∃nm t,v=RT.enc nm t:=by
 refine J82.1 ?_;unfold TQ at h;rw[OB]at h;cases hn:MV v.length v 1 with
 |none=>rw[hn]at h;simp at h
 |some k=>rw[hn]at h;simp at h;rw[show k=v.length by omega]
def TR:Node:=⟨0,0,[],[],false,0⟩
def VE(c:Node):Prop:=c.kind<5/\c.name=[]/\G3 c.kind c.s c.neg c.e c.many
instance (c:Node):Decidable (VE c):=by unfold VE;infer_instance
def č(n:Int)(c:Node):Prop:=0<=n/\n<=5/\VE c
instance (n:Int) (c:Node):Decidable (č n c):=by unfold č;infer_instance
def mE(s:List UInt8):Prop:=(Je s).2.2=0/\∀x∈(Je s).1,x.part=false
instance (s:List UInt8):Decidable (mE s):=by unfold mE;infer_instance
def Ď(s:List UInt8)(n:Int)(c:Node)(m:Int):Prop:=
 if k=0 then m=0/\s=[]/\n=0/\c=TR
 else if k=1 then 0<=m/\1<=n/\n<=31/\s=[]/\c=TR
 else if k=9 then m=0/\s=[]/\č n c
 else if k=2 then 0<=m/\(n=0\/n=1)/\s=[]/\c=TR
 else if k=4 then 0<=m/\n=0/\s=[]/\c=TR
 else if k=3\/k=5\/k=6 then m=1/\n=0/\s=[]/\c=TR
 else if k=7\/k=8 then m=1/\n=0/\c=TR/\mE s
 else False
instance (k:Int) (s:List UInt8) (n:Int) (c:Node) (m:Int):Decidable (Ď k s n c m):=by unfold Ď;infer_instance
def uO(l:List IK):Prop:=l.Pairwise fun p q=>Op.bytesLess p.1 q.1=true
def mF(p:IK):Prop:=(p.2.kind=9↔k=1)/\(k≠2->p.1=[])/\(k=2->valid p.1=true)
def Kgk(l:List IK):Prop:=(∀p∈l,mF k p)/\(k=2->uO l)
def gB(name:List UInt8):List IK->Option RT|[]=>none|p::l=>if p.1=name then some p.2 else gB name l
def gC:RT->List CD->Option RT
 |t,[]=>some t
 |t,x::p=>if t.kind=2/\x.part=false then(gB x.name t.kids.list).bind fun u=>gC u p else none
def Kgi(t:RT)(p:List CD):Prop:=∃u,gC t p=some u/\u.kind=1
def mG(s:List UInt8)(l:List IK):Prop:=(k=7\/k=8)->∀p,l.head?=some p->Kgi p.2 (Je s).1
mutual
def okR:RT->Prop|.mk k s n c BL=>Ď k s n c BL.len/\Kgk k BL.list/\mG k s BL.list/\eM BL
def eM:RF->Prop|.nil=>True|.cons _ t r=>okR t/\eM r
end
def uP:eM .nil:=by rw[eM];trivial
section
attribute [local irreducible] Al Bi CL
def Kgq:Nat->RF->List (List PV)|_,.nil=>[]|i,.cons nm t r=>[.int .i64 i,.int .i64 (i+(t.enc nm).length:Nat)]::Kgq (i+(t.enc nm).length) r
def NS(l:List IK):List (List PV):=l.map fun p=>[.sl (B9 (p.2.enc []))]
@[simp] theorem mH:NS []=[]:=rfl
def ď{l:List IK}{k:Nat}(h:l[k]?=some p):NS (l.take (k+1))=NS (l.take k)++[[.sl (B9 (p.2.enc []))]]:=by
 rw[NA,h];simp[NS]
def XK(l:List IK):(NS l).length=l.length:=by simp[NS]
def cR{l:List IK}{p:IK}(h:l[i]?=some p):(NS l)[i]?=some [.sl (B9 (p.2.enc []))]:=by simp[NS,h]
def atomL(l:List (Int×Node)):List (List PV):=l.map fun a=>[.int .i64 a.1,.int .i64 a.2.kind,.int .i64 a.2.many,.str a.2.name,.str a.2.s,.bool a.2.neg,.int .i64 a.2.e]
def Kgy(l:List IK):List (Int×Node):=l.map fun p=>(p.2.n,p.2.c)
end
def SK(n:Node):BM:=.mk n.kind n.s n.neg n.e .nil
def uQ:BM->Node|.mk k s g e BL=>⟨k,BL.len,[],s,g,e⟩
def uR:BM->Bool|.mk _ _ _ _ .nil=>true|.mk _ _ _ _ (.cons _ _ _)=>false
def eN(n c:Int):Bool := if n=0 then decide (c=0)else if n=1 then decide (c≠0)else if n=2 then decide (c<0)else if n=3 then decide (c<=0)else if n=4 then decide (0<c)else decide (0<=c)
def mI(x:Node):Bool:=eN a.1 (DT (SK x) (SK a.2))
def uS(mJ kind:Int):Bool:=decide (mJ.toNat/2^kind.toNat%2=1)
def Kg1(mJ:Int)(l:List (Int×Node))(x:Node):Bool:=decide (VE x)&&(uS mJ x.kind&&l.all fun a=>mI a x)
def Đ(s:List UInt8)(v:BM):List Node:=match JX (Je s).1 v with
 |.ok u=>u.enc []
 |.error _=>[]
def uT(s:List UInt8)(v:BM):BM:=match JX (Je s).1 v with
 |.ok u=>u
 |.error _=>.mk 0 [] false 0 .nil
def uU(ps:List (BM->Bool)):BM->Bool:=match ps with
 |[]=>fun _=>true
 |p::_=>p
def uV(BL:List KT)(nm:List UInt8)(p:BM->Bool):Bool:=match Ch nm BL with
 |some u=>p u
 |none=>false
def uW(BL:List KT):List IK->List (BM->Bool)->Bool|r::DZ,p::ps=>uV BL r.1 p&&uW BL DZ ps|_,_=>true
def eO:List (BM->Bool)->List KT->Bool|[],[]=>true|p::ps,q::l=>p q.2&&eO ps l|[],_::_=>false|_::_,[]=>false
def FE:List UInt8:=[107,101,121]
def EY:List UInt8:=[118,97,108,117,101]
def đ:BM->Option (List UInt8×BM)
 |.mk k _ _ _ BL=>if k=6/\BL.len=2 then(match Ch FE BL.list,Ch EY BL.list with
  |some (.mk k' s' _ _ _),some x=>if k'=4 then some (s',x)else none
  |_,_=>none)else none
def ahead(last:Option (List UInt8))(key:List UInt8):Bool:=match last with
 |none=>true
 |some l=>Op.bytesLess l key
def uX(P:BM->Bool):Option (List UInt8)->List KT->Bool
 |_,[]=>true
 |last,q::l=>match đ q.2 with
  |none=>false
  |some (key,x)=>ahead last key&&(P x&&uX P (some key) l)
def Ē(a b:BM):Bool:=decide (a.enc []=b.enc [])
def mK(last:Option BM)(key:BM):Bool:=match last with
 |none=>true
 |some l=>decide (DT l key<0)
def Ke7(q:KT):Bool:=decide (q.2.kind=5)&&(decide (q.2.kids.len≠0)&&q.2.kids.list.all fun x=>P x.2)
def mL(s:List UInt8)(l:List KT):List BM:=l.map fun q=>uT s q.2
def ē:BM:=l.headD (.mk 0 [] false 0 .nil)
def Kfn(P:BM->Bool)(s:List UInt8):Option BM->List KT->Bool
 |_,[]=>true
 |last,q::l=>Ke7 P q&&(((mL s q.2.kids.list).all fun k=>Ē k (ē (mL s q.2.kids.list)))&&(mK last (ē (mL s q.2.kids.list))&&Kfn P s (some (ē (mL s q.2.kids.list))) l))
def ZO(l:List KT):Bool:=l.all fun q=>P q.2
def inK(s:List UInt8)(n:Int)(DZ:List IK)(ps:List (BM->Bool))(v:BM):Bool:=
 if k=0 then true
 else if k=1 then uR v&&Kg1 n (Kgy DZ) (uQ v)
 else if k=2 then decide (v.kind=6)&&((decide (n≠0)||decide (v.kids.len=DZ.length))&&uW v.kids.list DZ ps)
 else if k=3 then decide (v.kind=6)&&ZO (uU ps) v.kids.list
 else decide (v.kind=5)&&(
  if k=4 then eO ps v.kids.list
  else if k=6 then uX (uU ps) none v.kids.list
  else if k=8 then Kfn (uU ps) s none v.kids.list
  else if k=7 then ZO (uU ps) v.kids.list&&Kdt (mL s v.kids.list)
  else ZO (uU ps) v.kids.list)
section
attribute [local irreducible] Al Bi CL
def J10{n:Node}(h:VE n):n.many=0:=by
 obtain⟨hk,_,h⟩:=h;unfold G3 at h;split at h
 ·exact h.1
 ·split at h
  ·exact h.1
  ·split at h
   ·exact h.2.1
   ·split at h
    ·omega
    ·exact h.elim
def yH{n:Node}(h:VE n):EZ (SK n):=by
 have hm:=J10 h;obtain⟨hk,hn,ho⟩:=h;rw[hm]at ho;exact Lu.2 ⟨ho,Sb _,I6⟩
def Kha{n:Node}(h:VE n):(SK n).enc []=[n]:=by
 have hm:=J10 h;obtain⟨hk,hn,ho⟩:=h;rw[SK,A6,Bl];cases n;simp only at hm hn;subst hm;subst hn;rfl
def J6p{n:Node}(hk:n.kind<5):Jw [n]=decide (VE n):=by
 rw[KA,Iq,AF];constructor
 ·rintro⟨t,ht,h⟩;cases t with
  |mk k s g e BL =>
   rw[A6]at h;have h1:=(List.cons.inj h).1;have h2:=(List.cons.inj h).2;cases BL with
   |nil =>
    subst h1;exact⟨hk,rfl,(Lu.1 ht).1⟩
   |cons a b c =>
    rw[A0]at h2;have:=congrArg List.length h2;have hp:=Et b a;simp at this;omega
 ·intro h;exact⟨SK n,yH h,(Kha h).symm⟩
def mM(n c:Int):CA cx 63 [.p (.int .i64 n),.p (.int .i64 c)] [] (.p (.bool (eN n c))) []:=by
 (refine CB func63 ?_);(repeat'(apply BY<;>intro h))
 all_goals((unfold eN)<;>(simp only[*,if_true,if_false]))
 all_goals first
  |rfl
  |(by_cases hc:c=0<;>simp[hc])
def mN(s:List UInt8):(Je s).1.length<=20/\∀x∈(Je s).1,Bc x:=by
 by_cases h:(Je s).2.2=0
 ·obtain⟨_,h2,_⟩:=Kcs h;exact h2
 ·obtain⟨_,h2,_⟩:=Kbm h;rw[h2];exact⟨by simp,by simp⟩
def keysL(s:List UInt8)(l:List KT):List (List PV):=l.map fun q=>[.sl (BP (Đ s q.2))]
def eP(name:List UInt8):Option BM:=if t.kind=6 then Ch name t.kids.list else none
def J3o(name:List UInt8)(hv:(t.enc []).length<=1500000000000):CA cx 92 [.p (.sl (BP (t.enc []))),.p (.str name)] [] (Oo (eP t name)) []:=by
 cases t with
 |mk k s g e BL =>
 rw[A6,DH]at hv;by_cases hk:k=6
 ·subst hk;exact Τ [] s g e BL name omg
 ·have hf:eP (.mk k s g e BL) name=none:=AA hk;have hg:=Cc [] k s g e BL;have c1:(k=6)=False:=AD hk;rw[hf,Oo];(refine CK func92 ?_;simp only[go_sem,simprocAttr,hg,c1,AJ])
  skip
def Ĕ{t:RT}(h:v.drop j=t.enc nm++b):∃(k n:Int) (s:List UInt8) (g:Int) (e:Node),(B9 v)[j]?=some [.int .i64 k,.int .i64 n,.str nm,.str s,.int .i64 g,.int .i64 e.kind,.int .i64 e.many,.str e.name,.str e.s,.bool e.neg,.int .i64 e.e]:=by
 cases t with
 |mk k s g e BL =>
  rw[GM]at h;exact⟨k,BL.len,s,g,e,cQ h⟩
def YG(l:List (List UInt8×RT)):List (List PV):=l.map fun p=>[.str p.1]
@[simp] theorem mO:YG []=[]:=rfl
def ĕ(l:List (List UInt8×RT)):(YG l).length=l.length:=by simp[YG]
def J8p{l:List (List UInt8×RT)}{k:Nat}(h:l[k]?=some p):YG (l.take (k+1))=YG (l.take k)++[[.str p.1]]:=by
 rw[NA,h];simp[YG]
def Ė(DZ:List IK)(i:Nat):Nat:=1+((DZ.take i).map fun p=>(p.2.enc p.1).length).sum
def IM(x:CD)(t:BM):Except Nat BM := if t.kind=0 then .ok Es else if x.part=true then(if t.kind=5 then .ok ((t.kids.list[x.n.toNat]?.map (·.2)).getD Es)else .error 5)else if t.kind=6 then .ok ((Ch x.name t.kids.list).getD Es)else .error 5
def KU:List CD->BM->Except Nat BM
 |[],t=>.ok t
 |x::p,t=>match IM x t with
  |.ok u=>KU p u
  |.error e=>.error e
def J8o:BP (Es.enc [])=[[.int .i64 0,.int .i64 0,.str [],.str [],.bool false,.int .i64 0]]:=by unfold Es;rw[A6,Bl];rfl
def gD:(Es.enc []).length=1:=by unfold Es;rw[A6,Bl];rfl
def ė:Except Nat BM->PV|.ok t=>.sl (BP (t.enc []))|.error _=>.snil
def Ę:Except Nat BM->Int|.ok _=>0|.error e=>e
def LF(r:Except Nat BM):BV r=.tup [ė r,.int .i64 (Ę r)]:=by cases r<;>rfl
def mP:CA cx 72 [] [] (.p (.sl (BP (Es.enc [])))) []:=by
 rw[J8o];(refine CK func72 ?_;simp only[go_sem,simprocAttr])
 skip
def oG{t u:BM}(h:IM x t=.ok u):(u.enc []).length<=(t.enc []).length:=by
 have h1:=Et t [];have hn:(Es.enc []).length<=(t.enc []).length:=by rw[gD];exact h1
 have hk:∀p∈t.kids.list,(p.2.enc []).length<=(t.enc []).length:=by
  obtain⟨k,s,g,e,BL⟩:=t;intro p hp;have:=YE hp;rw[A6,DH];simp only[BM.kids]at this;omega
 unfold IM at h;split at h
 ·cases h;exact hn
 ·split at h
  ·split at h
   ·cases h;cases hq:t.kids.list[x.n.toNat]? with
    |none=>exact hn
    |some p=>exact hk p (D4 hq)
   ·cases h
  ·split at h
   ·cases h;cases hq:Ch x.name t.kids.list with
    |none=>exact hn
    |some w =>
     obtain⟨p,hp,rfl,_⟩:=H2 hq;exact hk p hp
   ·cases h
def oH{t:BM}{er:Nat}(h:IM x t=.error er):er=5:=by
 unfold IM at h
 repeat' split at h
 all_goals first
  |(cases h;rfl)
  |cases h
def uY:∀{p:List CD} {t u:BM},KU p t=.ok u->(u.enc []).length<=(t.enc []).length
 |[],t,u,h=>by rw[KU]at h;cases h;exact CS _
 |x::p,t,u,h=>by
  rw[KU]at h;cases hs:IM x t with
  |ok w=>rw[hs]at h;exact Nat.le_trans (uY h) (oG hs)
  |error e=>rw[hs]at h;cases h
def eQ:∀{p:List CD} {t:BM} {er:Nat},KU p t=.error er->er=5
 |[],t,er,h=>by rw[KU]at h;cases h
 |x::p,t,er,h=>by
  rw[KU]at h;cases hs:IM x t with
  |ok w=>rw[hs]at h;exact eQ h
  |error e=>rw[hs]at h;cases h;exact oH hs
def ę{n:Int}{s:List UInt8}{b:Bool}:IM ⟨b,nm,n⟩ (.mk 0 s g e BL)=.ok Es:=by unfold IM;exact AB rfl
def uZ{n:Int}{s:List UInt8}:IM ⟨false,nm,n⟩ (.mk 6 s g e BL)=.ok ((Ch nm BL.list).getD Es):=by unfold IM;simp[BM.kind,BM.kids]
def yI{n:Int}{k:Int}{s:List UInt8}(h0:¬k=0)(h6:¬k=6):IM ⟨false,nm,n⟩ (.mk k s g e BL)=.error 5:=by unfold IM;simp[BM.kind,h0,h6]
def yJ{n:Int}{s:List UInt8}:IM ⟨true,nm,n⟩ (.mk 5 s g e BL)=.ok ((BL.list[n.toNat]?.map (·.2)).getD Es):=by unfold IM;simp[BM.kind,BM.kids]
def Ě{n:Int}{k:Int}{s:List UInt8}(h0:¬k=0)(h6:¬k=5):IM ⟨true,nm,n⟩ (.mk k s g e BL)=.error 5:=by unfold IM;simp[BM.kind,h0,h6]
def J4o(name:List UInt8)(n:Int)(hv:(t.enc []).length<=1500000000000):CA cx 46 [.p (.str name),.p (.sl (BP (t.enc [])))] [] (BV (IM ⟨false,name,n⟩ t)) []:=by
 cases t with
 |mk k s g e BL =>
 have YD:BL.enc.length<=1499999999999:=by rw[A6]at hv;simp at hv;omega
 by_cases h0:k=0
 ·subst h0;rw[ę,BV];(refine CK func46 ?_;simp only[go_sem,simprocAttr,Cc]);(repeat'(first|((refine BU mP ?_);simp only[go_sem,simprocAttr])|fail))
 ·by_cases h6:k=6
  ·subst h6;rw[uZ];have hF:=Re [] s g e BL name YD;cases hf:Ch name BL.list with
   |none =>
    rw[hf]at hF;unfold Oo at hF;rw[Option.getD_none,BV];(refine CK func46 ?_;simp only[go_sem,simprocAttr,Cc]);(repeat'(first|((first|refine BU mP ?_|refine BU hF ?_);simp only[go_sem,simprocAttr])|fail))
   |some t =>
    rw[hf]at hF;unfold Oo at hF;rw[Option.getD_some,BV];(refine CK func46 ?_;simp only[go_sem,simprocAttr,Cc]);(repeat'(first|((refine BU hF ?_);simp only[go_sem,simprocAttr])|fail))
  ·rw[yI h0 h6,BV];have c0:=AD h0;have c6:=AD h6;(refine CK func46 ?_;simp only[go_sem,simprocAttr,Cc,c0,c6])
   all_goals rfl
def J7s(name:List UInt8)(n:Int)(hn:0<=n)(hv:(t.enc []).length<=1500000000000):CA cx 47 [.p (.int .i64 n),.p (.sl (BP (t.enc [])))] [] (BV (IM ⟨true,name,n⟩ t)) []:=by
 cases t with
 |mk k s g e BL =>
 have YD:BL.enc.length<=1499999999999:=by rw[A6]at hv;simp at hv;omega
 have GB:=KE BL;have DV:=LU BL;obtain⟨m,rfl⟩:∃m:Nat,n=m:=⟨n.toNat,omg⟩
 by_cases h0:k=0
 ·subst h0;rw[ę,BV];(refine CK func47 ?_;simp only[go_sem,simprocAttr,Cc]);(repeat'(first|((refine BU mP ?_);simp only[go_sem,simprocAttr])|fail))
 ·by_cases h5:k=5
  ·subst h5;rw[yJ];have hP:=Dy [] 5 s g e BL YD;rw[show(m:Int).toNat=m from rfl];by_cases BZ:m<BL.len
   ·obtain⟨p,PG⟩:∃p,BL.list[m]?=some p:=⟨_,C' omg⟩
    have dt:=Hx PG;have c1:((BL.len:Int)<=(m:Int))=False:=AD omg;rw[PG,Option.map_some,Option.getD_some,BV];(refine CK func47 ?_;simp only[go_sem,simprocAttr,Cc]);(repeat'(first|((refine BU hP ?_);simp only[go_sem,simprocAttr,dt,c1,A5,DV])|fail))
   ·rw[gR omg,Option.map_none,Option.getD_none,BV];have c1:((BL.len:Int)<=(m:Int))=True:=AE omg;(refine CK func47 ?_;simp only[go_sem,simprocAttr,Cc]);(repeat'(first|((first|refine BU hP ?_|refine BU mP ?_);simp only[go_sem,simprocAttr,c1,A5,DV])|fail))
  ·rw[Ě h0 h5,BV];have c0:=AD h0;have c6:=AD h5;(refine CK func47 ?_;simp only[go_sem,simprocAttr,Cc,c0,c6])
   all_goals rfl
def yK:∀(p:List CD) (t:BM),p.length<=1000000->(∀x∈p,Bc x)->(t.enc []).length<=1500000000000->CA cx 21 [.p (.sl (Bb p)),.p (.sl (BP (t.enc [])))] [] (BV (KU p t)) []
 |[],t,_,_,hv=>by
  rw[KU,BV];(refine CK func21 ?_;simp only[go_sem,simprocAttr,Aq])
  skip
 |x::p,t,hp,GZ,hv=>by
  have EH:(Bb (x::p))[0]?=some [.bool x.part,.str x.name,.int .i64 x.n]:=rfl;have Lt:∀q∈Bb (x::p),q.length=3:=by
   intro q hq;obtain⟨y,_,rfl⟩:=FB.1 hq;rfl
  have VX:(Bb (x::p)).drop 1=Bb p:=rfl;have GH:(x::p).length=p.length+1:=rfl;have DR:(Bb p).take p.length=Bb p:=DK (by rw[Aq];exact CS _);have hlp:p.length<=1000000:=by rw[GH]at hp;omega
  have Zs:∀y∈p,Bc y:=fun y hy=>GZ y (EW _ hy)
  have hxx:=GZ x DQ;rw[KU];obtain⟨b,nm,n⟩:=x;have hF:=J4o t nm 0 hv;cases b with
  |false =>
   have SA:n=0:=hxx.1;subst SA;cases hs:IM ⟨false,nm,0⟩ t with
   |ok u =>
    rw[hs,BV]at hF;have hR:=yK p u hlp Zs (Nat.le_trans (oG hs) hv);rw[LF]at hR⊢;(refine CK func21 ?_;simp only[go_sem,simprocAttr,Aq,EH,GH]);(repeat'(first|refine And.intro Lt ?_|(apply BY<;>intro h)|refine EA ?_|((first|refine BU hF ?_|refine BU hR ?_);simp only[go_sem,simprocAttr,Aq,EH,VX,GH])|(exfalso;omega)))
   |error er =>
    rw[hs,BV]at hF;have h5:=oH hs;subst h5;rw[BV];(refine CK func21 ?_;simp only[go_sem,simprocAttr,Aq,EH,GH]);(repeat'(first|(apply BY<;>intro h)|((refine BU hF ?_);simp only[go_sem,simprocAttr,EH])|(exfalso;omega)))
  |true =>
   have SA:0<=n:=hxx.2.1;have hP:=J7s t nm n SA hv;cases hs:IM ⟨true,nm,n⟩ t with
   |ok u =>
    rw[hs,BV]at hP;have hR:=yK p u hlp Zs (Nat.le_trans (oG hs) hv);rw[LF]at hR⊢;cases X8:IM ⟨false,nm,0⟩ t with
    |ok w =>
     rw[X8,BV]at hF;(refine CK func21 ?_;simp only[go_sem,simprocAttr,Aq,EH,GH]);(repeat'(first|refine And.intro Lt ?_|(apply BY<;>intro h)|refine EA ?_|((first|refine BU hF ?_|refine BU hP ?_|refine BU hR ?_);simp only[go_sem,simprocAttr,Aq,EH,VX,GH])|(exfalso;omega)))
    |error er =>
     rw[X8,BV]at hF;(refine CK func21 ?_;simp only[go_sem,simprocAttr,Aq,EH,GH]);(repeat'(first|refine And.intro Lt ?_|(apply BY<;>intro h)|refine EA ?_|((first|refine BU hF ?_|refine BU hP ?_|refine BU hR ?_);simp only[go_sem,simprocAttr,Aq,EH,VX,GH])|(exfalso;omega)))
   |error er =>
    rw[hs,BV]at hP;have h5:=oH hs;subst h5;rw[BV];cases X8:IM ⟨false,nm,0⟩ t with
    |ok w =>
     rw[X8,BV]at hF;(refine CK func21 ?_;simp only[go_sem,simprocAttr,Aq,EH,GH]);(repeat'(first|(apply BY<;>intro h)|((first|refine BU hF ?_|refine BU hP ?_);simp only[go_sem,simprocAttr,EH])|(exfalso;omega)))
    |error er =>
     rw[X8,BV]at hF;(refine CK func21 ?_;simp only[go_sem,simprocAttr,Aq,EH,GH]);(repeat'(first|(apply BY<;>intro h)|((first|refine BU hF ?_|refine BU hP ?_);simp only[go_sem,simprocAttr,EH])|(exfalso;omega)))
def ě(s:List UInt8)(hs:s.length<=1000000):CA cx 56 [.p (.str s)] [] (.p (.sl (Bb (Je s).1))) []:=by
 have hR:=J47 s hs;refine CB func56 ?_;(repeat'(first|((refine BU hR ?_);simp only[go_sem,simprocAttr])|fail))
def YH(ks:List BM)(st:List (List Nat)×List Nat)(a:Nat):List (List Nat)×List Nat := if st.2≠[]/\DT (HQ ks a) (HQ ks (st.2.headD 0))≠0 then(st.1++[st.2],[a])else(st.1,st.2++[a])
def Ju(ks:List BM)(l:List Nat):List (List Nat)×List Nat:=l.foldl (YH ks) ([],[])
def N1(st:List (List Nat)×List Nat):List (List Nat):=if st.2=[]then st.1 else st.1++[st.2]
def Pc(ks:List BM):List (List Nat):=N1 (Ju ks (IJ ks))
def J9h(ks:List BM)(l:List Nat)(a:Nat):Ju ks (l++[a])=YH ks (Ju ks l) a:=by simp[Ju,List.foldl_append]
def Ĝ{l:List Nat}{a:Nat}(h:l[i]?=some a):Ju ks (l.take (i+1))=YH ks (Ju ks (l.take i)) a:=by
 rw[NA,h,Option.toList_some,J9h]
structure XL (ks:List BM) (l:List Nat) (st:List (List Nat)×List Nat):Prop where
 flat:st.1.flatten++st.2=l
 opn:l≠[]->st.2≠[]
 ne:∀g∈st.1,g≠[]
 same:∀g∈N1 st,∀i∈g,HQ ks i=HQ ks (g.headD 0)
 rise:(N1 st).Pairwise fun g h=>DT (HQ ks (g.headD 0)) (HQ ks (h.headD 0))<0
def Kd6{g:List Nat}(h:g≠[]):g.headD 0∈g:=by
 cases g with
 |nil=>exact absurd rfl h
 |cons a g=>exact DQ
def gE(h:st.2≠[]):N1 st=st.1++[st.2]:=by rw[N1,AA h]
def Kcj(ok:Nz ks){l:List Nat}{a:Nat}(h:XL ks l st)(hl:∀x∈l,DT (HQ ks x) (HQ ks a)<=0):XL ks (l++[a]) (YH ks st a):=by
 obtain⟨o,g⟩:=st;obtain⟨h1,h2,h3,h4,h5⟩:=h;unfold YH;simp only at h1 h2 h3 h4 h5⊢;by_cases hg:g=[]
 ·subst hg;have QR:l=[]:=Classical.byContradiction fun e=>h2 e rfl
  subst QR;rw[ID]at h1;rw[AA sm];have ho:o=[]:=by
   cases o with
   |nil=>rfl
   |cons x o =>
    rw[List.flatten_cons]at h1;have:=h3 x DQ;exact absurd (List.append_eq_nil_iff.1 h1).1 this
  subst ho;refine⟨rfl,fun _=>by simp,fun _ h=>(by cases h),fun g hg i hi=>?_,?_⟩
  ·simp[N1]at hg;subst hg;simp at hi;subst hi;rfl
  ·simp[N1]
 ·have hh:=Kd6 hg;have HW:∀x∈g,x∈l:=fun x hx=>by rw[<-h1];exact cf _ hx
  have DO:=hl _ (HW _ hh);rw[gE hg]at h4 h5;simp only at h4 h5;by_cases hc:DT (HQ ks a) (HQ ks (g.headD 0))=0
  ·rw[AA (fun h=>h.2 hc)];have hk:=ĉ (XI ok a) (XI ok _) hc;have hd:((g++[a]).headD 0)=g.headD 0:=by
    cases g with
    |nil=>exact absurd rfl hg
    |cons x g=>rfl
   refine⟨by rw[<-KJ,h1],fun _=>by simp,h3,?_,?_⟩
   ·rw[gE sm];intro q hq i hi;rcases H'.1 hq with hq|hq
    ·exact h4 q (aL _ hq) i hi
    ·simp only[KI]at hq;subst hq;rw[hd];rcases H'.1 hi with hi|hi
     ·exact h4 g (cf _ (KI.2 rfl)) i hi
     ·simp only[KI]at hi;subst hi;exact hk
   ·rw[gE sm];simp only;rw[fE]at h5⊢;refine⟨h5.1,by simp,fun q hq r hr=>?_⟩;simp only[KI]at hr;subst hr;rw[hd];exact h5.2.2 q hq g (KI.2 rfl)
  ·rw[AB ⟨hg,hc⟩];have BZ:DT (HQ ks (g.headD 0)) (HQ ks a)<0:=by
    rw[Ĉ (XI ok _) (XI ok _)]at hc;omega
   refine⟨by rw[nM,List.flatten_cons,List.flatten_nil,ID,h1],fun _=>by simp,fun q hq=>?_,?_,?_⟩
   ·rcases H'.1 hq with hq|hq
    ·exact h3 q hq
    ·simp only[KI]at hq;subst hq;exact hg
   ·rw[gE sm];intro q hq i hi;rcases H'.1 hq with hq|hq
    ·exact h4 q hq i hi
    ·simp only[KI]at hq;subst hq;simp only[KI]at hi;subst hi;rfl
   ·rw[gE sm];simp only;rw[fE];refine⟨h5,by simp,fun q hq r hr=>?_⟩;simp only[KI]at hr;subst hr;show DT (HQ ks (q.headD 0)) (HQ ks a)<0;rcases H'.1 hq with FJ|FJ
    ·exact J3f (XI ok _) (XI ok _) (XI ok _) ((fE.1 h5).2.2 q FJ g (KI.2 rfl)) BZ
    ·simp only[KI]at FJ;subst FJ;exact BZ
def yL{ks:List BM}(ok:Nz ks){l:List Nat}(hl:l.Pairwise fun a b=>DT (HQ ks a) (HQ ks b)<=0):∀i,i<=l.length->XL ks (l.take i) (Ju ks (l.take i))
 |0,_=>by
  rw[QN];exact⟨rfl,fun h=>absurd rfl h,fun _ h=>(by cases h),fun _ h=>by simp[Ju,N1]at h,by simp[Ju,N1]⟩
 |i+1,h=>by
  obtain⟨a,ha⟩:∃a,l[i]?=some a:=⟨_,C' omg⟩
  rw[Ĝ ha,NA,ha,Option.toList_some];refine Kcj ok (yL ok hl i omg) fun x hx=>?_
  have h2:(l.take i++[a]).Pairwise fun a b=>DT (HQ ks a) (HQ ks b)<=0:=by
   have h3:(l.take (i+1)).Pairwise fun a b=>DT (HQ ks a) (HQ ks b)<=0:=List.Pairwise.sublist (List.take_sublist _ _) hl
   rw[NA,ha,Option.toList_some]at h3;exact h3
  exact(fE.1 h2).2.2 x hx a (KI.2 rfl)
def ĝ(ok:Nz ks):(IJ ks).Pairwise fun a b=>DT (HQ ks a) (HQ ks b)<=0:=
 (Č ok).imp fun{a b} e=>by
  unfold Lg at e;rw[AF]at e;omega
def ub(ok:Nz ks):XL ks (IJ ks) (Ju ks (IJ ks)):=by
 have:=yL ok (ĝ ok) (IJ ks).length (CS _);rw[bz]at this;exact this
def yM{l:List Nat}(h:XL ks l st):(N1 st).flatten=l:=by
 obtain⟨o,g⟩:=st;have h1:=h.flat;unfold N1;simp only at h1⊢;split
 ·rename_i e;rw[e,ID]at h1;exact h1
 ·rw[nM,List.flatten_cons,List.flatten_nil,ID];exact h1
def J27{l:List Nat}(h:XL ks l st):∀g∈N1 st,g≠[]:=by
 obtain⟨o,g⟩:=st;intro q hq;unfold N1 at hq;simp only at hq;split at hq
 ·exact h.ne q hq
 ·rcases H'.1 hq with hq|hq
  ·exact h.ne q hq
  ·simp only[KI]at hq;subst hq;assumption
def Kbk(gs:List (List Nat)):(gs.map (FV l)).flatten=FV l gs.flatten:=by
 unfold FV;rw[List.map_flatten]
def Ğ(s:List UInt8)(g:Bool)(e:Int)(BL:BO)(hk:k≠6):CA cx 73 [.p (.sl (BP ((BM.mk k s g e BL).enc [])))] [] (.p (.sl [])) []:=by
 have hg:=Cc [] k s g e BL;have c1:=AD hk;generalize IF:(BM.mk k s g e BL).enc []=v at hg⊢;refine CB func73 ?_;refine CL.loop (fun _:Unit=>⟨Ba 34 [(0,.p (.sl (BP v))),(3,.own 6 0 0),(4,.p (.int .i64 1)),(5,.p (.int .i64 0))],[(6,.row 9 1 [])]⟩) (fun _=>True) (fun _=>0) () CH trivial ?_;rintro _ _;(refine CC ?_;simp only[go_sem,simprocAttr,hg,c1]);(repeat'(first|(apply BY<;>intro h)|(exact True.intro)))
def Jxy(name:List UInt8)(hv:(t.enc []).length<=1500000000000):CA cx 74 [.p (.sl (BP (t.enc []))),.p (.str name)] [] (Oo (eP t name)) []:=by
 cases t with
 |mk k s g e BL =>
 rw[A6,DH]at hv;by_cases hk:k=6
 ·subst hk;exact Re [] s g e BL name omg
 ·rw[show eP (.mk k s g e BL) name=none from AA hk,Oo];have hN:=Ğ k s g e BL hk;refine CB func74 ?_;(repeat'(first|refine CI hN ?_|fail));refine CL.loop (fun _:Unit=>⟨Ba 27 [(6,.p (.sl [])),(7,.p (.int .i64 0))],[]⟩) (fun _=>True) (fun _=>0) () CH trivial ?_;rintro _ _;have e0:((0:Int)<((0:Nat):Int))=False:=AD omg;(refine CC ?_;simp only[go_sem,simprocAttr])
  skip
structure QF (n:Node):Prop where
 s:n.s.length<=1000000
 e0:-9223372036854775808<=n.e
 e1:n.e<=9223372036854775807
def Jy0(n:Node)(LC:n.name≠[]):CA cx 24 [.p (.sl [[.int .i64 n.kind,.int .i64 n.many,.str n.name,.str n.s,.bool n.neg,.int .i64 n.e]])] [] (.p (.bool false)) []:=by
 have DD:([[PV.int .i64 n.kind,PV.int .i64 n.many,PV.str n.name,PV.str n.s,PV.bool n.neg,PV.int .i64 n.e]]:List (List PV))[0]?=some [PV.int .i64 n.kind,PV.int .i64 n.many,PV.str n.name,PV.str n.s,PV.bool n.neg,PV.int .i64 n.e]:=rfl;have c2:(n.name=[])=False:=AD LC;have hN:=Uv [n] sm;rw[show BP [n]=[[.int .i64 n.kind,.int .i64 n.many,.str n.name,.str n.s,.bool n.neg,.int .i64 n.e]]from rfl]at hN;(refine CK func24 ?_;simp only[go_sem,simprocAttr,DD,c2,DH,KM])
 skip
def RZ{c:Node}:c=TR↔c.kind=0/\c.many=0/\c.name=[]/\c.s=[]/\c.neg=false/\c.e=0:=by
 rw[<-Qo];rfl
structure be (r:CW):Prop where
 s:r.s.length<=1000000
 name:r.name.length<=1000000
 c:QF r.c
end
def eR:List UInt8->List UInt8|[]=>[]|c::r=>if c=57 then 48::eR r else(c+1)::r
def eT:List UInt8->List UInt8|[]=>[]|c::r=>if c=48 then 57::eT r else(c-1)::r
def uc(s:List UInt8):List UInt8:=(eR (48::s).reverse).reverse
def ud(s:List UInt8):List UInt8:=(eT s.reverse).reverse
def Kaq(n:Node)(e:Int):List UInt8:=n.s++List.replicate (n.e-e).toNat 48
def ğ(n:Node)(JH:Bool):Int:=if(n.neg != JH)=false/\n.s=[49]then(n.s.length:Int)+n.e-1 else n.s.length+n.e
def yN(n:Node)(JH:Bool):Int:=max (ğ n JH-100) (-1000)
def J7l(n:Node)(JH:Bool):List UInt8:=if(n.neg != JH)=true then uc (Kaq n (yN n JH))else ud (Kaq n (yN n JH))
def Kap(n:Node)(JH:Bool):Option Node:=
 if n.s=[]then some ⟨3,0,[],[49],!JH,-1000⟩
 else if(LD n.neg (J7l n JH) (yN n JH)).2=0 then some (LD n.neg (J7l n JH) (yN n JH)).1 else none
def Ġ:List Node:=if a.2.kind=3 then a.2::((Kap a.2 true).toList++(Kap a.2 false).toList)else []
def ġ:List Node:=if a.2.kind=4 then [a.2,⟨4,0,[],a.2.s++[0],false,0⟩]else []
def ue:Node:=⟨k,0,[],[],false,0⟩
def uf(l:List (Int×Node)):List Node:=[ue 0,ue 1,ue 2,ue 3]++l.flatMap Ġ
def candR(l:List (Int×Node)):List Node:=uf l++[ue 4]++l.flatMap ġ
def Kdy:∀s,(eR s).length=s.length
 |[]=>rfl
 |c::r=>by unfold eR;split<;>simp[Kdy r]
def Kfk:∀s,(eT s).length=s.length
 |[]=>rfl
 |c::r=>by unfold eT;split<;>simp[Kfk r]
end Go.LX
namespace Go.LX
open Go Go.Proofs Go.RowKit
def Ģ(x y:UInt8)(pre:List UInt8)(c:UInt8)(j r:Nat):List UInt8:=pre++c::(List.replicate (r-j) x++List.replicate j y)
end Go.LX
namespace Go.LX
open Go Go.RowKit Go.Proofs Go.Proofs.Tryz
variable (l:List BM){v:List CW}{r BL:RF}{nm:List UInt8}(ns:List (List UInt8)){t:RT}{k:Int}(op:Int)
section
attribute [local irreducible] Al Bi CL
def Kfp(l:List CW):List (Int×Node):=l.map fun r=>(r.n,r.c)
def yO(v:List CW)(i m:Nat):List (Int×Node):=Kfp ((v.drop (i+1)).take m)
def Jx(r:CW):Bool:=decide (r.s.length<=100)&&(decide (r.name.length<=100)&&decide (r.c.s.length<=100))
def ug(v:List CW)(m:Nat):Bool:=decide (v.length<=m)&&v.all Jx
structure eU (r:CW):Prop where
 s:r.s.length<=9223372036854775807
 name:r.name.length<=9223372036854775807
 cs:r.c.s.length<=9223372036854775807
 e0:-9223372036854775808<=r.c.e
 e1:r.c.e<=9223372036854775807
def uh(nm:List UInt8):List CW->List CW|[]=>[]|r::rs=>⟨r.kind,r.many,nm,r.s,r.n,r.c⟩::rs
def ģ(ls:List (List CW)):List (List PV):=ls.map fun v=>[.sl (B9 v)]
def Ĥ:List (List PV):=ns.map fun s=>[.str s]
def aA:List IK->RF|[]=>.nil|p::l=>.cons p.1 p.2 (aA l)
def aB:∀l:List IK,(aA l).enc=l.flatMap fun p=>p.2.enc p.1
 |[]=>SJ
 |p::l=>by rw[aA,KF,aB l];rfl
def oI(nm:List UInt8)(t:RT):uh nm (t.enc [])=t.enc nm:=by
 cases t with
 |mk k s n c BL=>rw[GM,GM];rfl
def sameL(t:RT):List IK:=ns.map fun nm=>(nm,t)
def Kgg(P:BM->Bool):∀l:List KT,eO (List.replicate l.length P) l=ZO P l
 |[]=>rfl
 |q::l=>by
  rw[DH,List.replicate_succ,eO,Kgg P l];rfl
def UH:List KT:=l.map fun t=>([],t)
def CG:BM:=.mk 5 [] false 0 (A1 (UH l))
def CV(t:BM):List BM:=t.kids.list.map (·.2)
def Kf7{l:List BM}(h:Nz l):EZ (CG l):=by
 unfold CG;rw[Lu,Ca,Hd,xn,Hd];have hn:∀p∈UH l,p.1=[]:=fun p hp=>by obtain⟨t,_,rfl⟩:=FB.1 hp;rfl
 refine⟨by simp[G3],⟨fun _=>hn,fun p hp=>?_,fun h=>by omega⟩,fun p hp=>?_⟩
 ·rw[hn p hp];rfl
 ·obtain⟨t,ht,rfl⟩:=FB.1 hp;exact h t ht
def ui{t:BM}(ok:EZ t):Nz (CV t):=by
 intro x hx;obtain⟨k,s,g,e,BL⟩:=t;obtain⟨p,hp,rfl⟩:=FB.1 hx;exact cP ok hp
def KV(p:List CD):List BM->Except Nat (List BM)
 |[]=>.ok []
 |t::l=>match KU p t with
  |.error e=>.error e
  |.ok u=>match KV p l with
   |.error e=>.error e
   |.ok ks=>.ok (u::ks)
def SL(aC:Bool)(s:List UInt8)(v:BM):Except Nat BM := if v.kind=5 then(match KV (Je s).1 (CV v)with|.error e=>.error e|.ok ks=>.ok (if aC=true then CG ((Pc ks).map fun g=>CG (FV (CV v) g))else CG (FV (CV v) (IJ ks))))else .error 5
def oJ{P:BM->Bool}{l:List KT}:ZO P l=true ↔ ∀x∈l.map (·.2),P x=true:=by
 unfold ZO;rw[SQ,List.forall_mem_map]
def oK(s:List UInt8)(l:List KT):mL s l=(l.map (·.2)).map (uT s):=by
 unfold mL;rw[OT];rfl
def oL{a b:BM}:Ē a b=true↔a=b:=by
 unfold Ē;rw[AF];exact⟨fun h=>(Jmz h).2,fun h=>by rw[h]⟩
instance (v:BM):Decidable (v.kind=5/\∀x∈CV v,x.kind=5):=inferInstance
def GY(s:List UInt8):BM:=.mk 4 s false 0 .nil
def VF(key x:BM):BM:=.mk 6 [] false 0 (.cons FE key (.cons EY x .nil))
def JA(n:Nat):BM:=if n=0 then .mk 3 [] false 0 .nil else .mk 3 (I7 (Lib.decDigits n)) false (((Lib.decDigits n).length-(I7 (Lib.decDigits n)).length:Nat):Int) .nil
def NT(l:List KT):List BM:=l.map fun p=>VF (GY p.1) p.2
def ND:Nat->List KT->List BM|_,[]=>[]|i,p::l=>VF (JA i) p.2::ND (i+1) l
def Vi(v:BM):Except Nat BM:=if v.kind=6 then .ok (CG (NT v.kids.list))else if v.kind=5 then .ok (CG (ND 0 v.kids.list))else .error 5
def TS:BM->Option (List UInt8×BM)
 |.mk k _ _ _ BL=>if k=6 then(match Ch FE BL.list with
  |some (.mk k' s' _ _ _)=>if k'=4 then some (s',(Ch EY BL.list).getD Es)else none
  |none=>none)else none
def uj{s:List UInt8}{g:Bool}{e:Int}{BL:BO}:TS (.mk k s g e BL)=if k=6 then(match Ch FE BL.list with
  |some (.mk k' s' _ _ _)=>if k'=4 then some (s',(Ch EY BL.list).getD Es)else none
  |none=>none)else none:=rfl
def VG:List BM->List KT->Option (List KT)
 |[],GJ=>some GJ
 |t::l,GJ=>match TS t with
  |none=>none
  |some p=>VG l (EV p.1 p.2 (A8 p.1 GJ))
def Vw(v:BM):Except Nat BM:=if v.kind=5 then(match VG (CV v) []with
 |some l=>.ok (nd 6 l)
 |none=>.error 5)else .error 5
end
def KG:Prop:=16<=op/\op<=19
instance (op:Int):Decidable (KG op):=by unfold KG;infer_instance
def mQ(s:List UInt8):Prop:=(Je s).2.2=0
instance (s:List UInt8):Decidable (mQ s):=by unfold mQ;infer_instance
instance (c:Node):Decidable (VE c):=by unfold VE;infer_instance
def HU(s:List UInt8)(n:Int)(c:Node)(m:Int):Prop:=
 if op=0\/op=10\/op=11\/op=14 then s=[]/\n=0/\c=TR/\m=0
 else if op=1 then n=0/\c=TR/\m=0/\valid s=true
 else if op=2\/op=3 then s=[]/\c=TR/\m=0/\0<=n/\n<=1000000
 else if op=4\/op=17\/op=18 then s=[]/\n=0/\c=TR/\m=2
 else if op=5\/op=6\/op=7\/op=19 then s=[]/\n=0/\c=TR/\m=1
 else if op=8\/op=9 then s=[]/\n=0/\c=TR/\0<=m
 else if op=12\/op=13\/op=15 then n=0/\c=TR/\m=0/\mQ s
 else if op=16 then m=0/\mQ s/\0<=n/\n<=5/\VE c
 else False
def Kef(p:IK):Prop:=(KG p.2.kind↔KG op\/op=7)/\(op≠8->p.1=[])/\(op=8->valid p.1=true)
def aD(l:List IK):Prop:=(∀p∈l,Kef op p)/\(op=4->∀p,l.head?=some p->p.2.kind≠4)/\(op=8->(l.map (·.1)).Nodup)
mutual
def UI:RT->Prop|.mk op s n c BL=>HU op s n c BL.len/\aD op BL.list/\MW BL
def MW:RF->Prop|.nil=>True|.cons _ t r=>UI t/\MW r
end
def mR{s:List UInt8}{n:Int}{c:Node}:UI (.mk k s n c BL)↔HU k s n c BL.len/\aD k BL.list/\MW BL:=by rw[UI]
def uk:MW (.cons nm t r)↔UI t/\MW r:=by rw[MW]
def yP:MW .nil:=by rw[MW];trivial
def J6q:∀{a b:RF},MW (a.app b)↔MW a/\MW b
 |.nil,b=>by simp[RF.app,yP]
 |.cons nm t r,b=>by rw[RF.app,uk,uk,J6q (a:=r)];exact and_assoc.symm
def Kca{s:List UInt8}{n:Int}{c:Node}:MW (.cons nm (.mk k s n c BL) r)↔HU k s n c BL.len/\aD k BL.list/\MW (BL.app r):=by
 rw[uk,mR,J6q];constructor
 ·rintro⟨⟨h1,h2,h3⟩,h5⟩;exact⟨h1,h2,h3,h5⟩
 ·rintro⟨h1,h2,h3,h5⟩;exact⟨⟨h1,h2,h3⟩,h5⟩
def bf:∀{f:RF},MW f ↔ ∀p∈f.list,UI p.2
 |.nil=>by simp[RF.list,yP]
 |.cons nm t r=>by rw[uk,bf (f:=r),RF.list,List.forall_mem_cons]
def um(v:List CW):Prop:=∃t,UI t/\v=t.enc []
def yQ(v:List CW):Prop:=∃t,UI t/\¬KG t.kind/\v=t.enc []
open Classical in
noncomputable def gF (v:List CW):Bool:=decide (um v)
open Classical in
noncomputable def cS (v:List CW):Bool:=decide (yQ v)
def yR:gF v=true↔um v:=by unfold gF;exact @decide_eq_true_iff _ (Classical.propDecidable _)
def ĥ:cS v=true↔yQ v:=by unfold cS;exact @decide_eq_true_iff _ (Classical.propDecidable _)
def Ħ(h:¬um v):false=gF v:=by
 cases hb:gF v with
 |false=>rfl
 |true=>exact absurd (yR.1 hb) h
def Jxx(h:¬yQ v):false=cS v:=by
 cases hb:cS v with
 |false=>rfl
 |true=>exact absurd (ĥ.1 hb) h
def J85:um (t.enc [])↔UI t:=by
 constructor
 ·rintro⟨u,hu,h⟩;obtain⟨_,rfl⟩:=Kfx h;exact hu
 ·exact fun h=>⟨t,h,rfl⟩
def J2l:yQ (t.enc [])↔UI t/\¬KG t.kind:=by
 constructor
 ·rintro⟨u,hu,hk,h⟩;obtain⟨_,rfl⟩:=Kfx h;exact⟨hu,hk⟩
 ·exact fun h=>⟨t,h.1,h.2,rfl⟩
def J6y(h:um v):TQ v 0 1=v.length:=by
 obtain⟨t,_,rfl⟩:=h;have:=J82.2 ⟨[],t,rfl⟩;unfold TQ;rw[OB,this];simp
section
attribute [local irreducible] Al Bi CL
def aE(s:List UInt8):Nat->Nat->List (List UInt8)|0,_=>[]|f+1,i=>if i<s.length then(s.drop i).take (max (DF s i) 1)::aE s f (i+max (DF s i) 1)else []
def Oz(s:List UInt8):List (List UInt8):=aE s (s.length+1) 0
def Lx:BM->Except Nat BM|.mk k s _ _ BL=>if k=0 then .ok (CG [])else if k=5 then .ok (CG (BL.list.map (·.2)).reverse)else if k=4 then .ok (GY (Oz s).reverse.flatten)else .error 5
def V8(n:Nat):BM->Except Nat BM|.mk k s _ _ BL=>if k=0 then .ok Es else if k=5 then .ok (CG ((BL.list.map (·.2)).drop n))else if k=4 then .ok (GY ((Oz s).drop n).flatten)else .error 5
def gG:BM->CD->BM|.mk k _ _ _ BL,x=>if x.part=true then CG ((BL.list.map (·.2)).eraseIdx x.n.toNat)else nd k (A8 x.name BL.list)
def FN:List CD->BM->Except Nat BM
 |[],_=>.ok Es
 |x::p,t=>if t.kind=0 then .ok t else match KS t x with
  |.error e=>if e=6 then .ok t else .error 5
  |.ok u=>if p=[]then .ok (gG t x)else match FN p u with
   |.error e=>.error e
   |.ok w=>GL [x] t w
def MX(f:BM->Except Nat BM):List BM->Except Nat (List BM)
 |[]=>.ok []
 |t::l=>match f t with
  |.error e=>if e=5 then .error 5 else MX f l
  |.ok u=>match MX f l with
   |.error e=>.error e
   |.ok us=>.ok (u::us)
def MY(f:BM->Except Nat BM):List KT->Except Nat (List KT)
 |[]=>.ok []
 |q::l=>match f q.2 with
  |.error e=>if e=5 then .error 5 else MY f l
  |.ok u=>match MY f l with
   |.error e=>.error e
   |.ok us=>.ok ((q.1,u)::us)
def VH(f:BM->Except Nat BM)(FL:Bool)(v:BM):Except Nat BM:=
 if v.kind=5\/v.kind=6 then(if FL=true/\v.kind=6 then(match MY f v.kids.list with
  |.error e=>.error e
  |.ok l=>.ok (nd 6 l))else match MX f (CV v)with
  |.error e=>.error e
  |.ok l=>.ok (CG l))else .error 5
def N4(obj:Bool)(v:BM):List (BM->Except Nat BM)->Except Nat (List BM)
 |[]=>.ok []
 |f::fs=>match f v with
  |.error e=>if e=5\/obj=true then .error e else N4 obj v fs
  |.ok u=>match N4 obj v fs with
   |.error e=>.error e
   |.ok us=>.ok (u::us)
def OO(obj:Bool)(ns:List (List UInt8))(fs:List (BM->Except Nat BM))(v:BM):Except Nat BM:=match N4 obj v fs with
 |.error e=>.error e
 |.ok l=>.ok (if obj=true then nd 6 (Lp (ns.zip l))else CG l)
def gH(s:List UInt8)(n:Int)(c:Node)(hs:List (BM->Except Nat Bool))(v:BM):Except Nat Bool:=
 if op=16 then(match KU (Je s).1 v with
  |.error e=>.error e
  |.ok x=>.ok (eN n (DT x (SK c))))else match hs with
  |[]=>.ok false
  |h::hs=>match h v with
   |.error e=>.error e
   |.ok a=>if op=19 then .ok (!a)else if a=decide (op=18)then .ok a else match hs with
    |[]=>.ok false
    |h2::_=>h2 v
mutual
def IN:RT->BM->Except Nat Bool
 |.mk op s n c BL=>fun v=>gH op s n c (IL BL) v
def IL:RF->List (BM->Except Nat Bool)|.nil=>[]|.cons _ t r=>IN t::IL r
end
def oM{op:Int}{s:List UInt8}{n:Int}{c:Node}{v:BM}:IN (.mk op s n c BL) v=gH op s n c (IL BL) v:=by rw[IN]
def Kde:IL .nil=[]:=by rw[IL]
def J89:IL (.cons nm t r)=IN t::IL r:=by rw[IL]
def mS:∀f:RF,IL f=f.list.map fun p=>IN p.2
 |.nil=>by rw[Kde];rfl
 |.cons nm t r=>by rw[J89,mS r];rfl
def KW(s:List UInt8)(n:Int)(ns:List (List UInt8))(es:List (BM->Except Nat BM))(hs:List (BM->Except Nat Bool))(v:BM):Except Nat BM:=
 if op=0 then .ok v
 else if op=1 then IM ⟨false,s,0⟩ v
 else if op=2 then IM ⟨true,[],n⟩ v
 else if op=3 then V8 n.toNat v
 else if op=5\/op=6 then VH (es.headD fun _=>.error 5) (decide (op=6)) v
 else if op=8\/op=9 then OO (decide (op=8)) ns es v
 else if op=10 then Vi v
 else if op=11 then Vw v
 else if op=12\/op=13 then SL (decide (op=12)) s v
 else if op=14 then Lx v
 else if op=15 then FN (Je s).1 v
 else if op=7 then(match(hs.headD fun _=>.error 5) v with
  |.error e=>.error e
  |.ok b=>if b=true then .ok v else .error 6)
 else match(es.headD fun _=>.error 5) v with
  |.error e=>.error e
  |.ok x=>(es.getD 1 fun _=>.error 5) x
mutual
def EL:RT->BM->Except Nat BM
 |.mk op s n _ BL=>fun v=>KW op s n (BL.list.map (·.1)) (FW BL) (IL BL) v
def FW:RF->List (BM->Except Nat BM)|.nil=>[]|.cons _ t r=>EL t::FW r
end
def uo{op:Int}{s:List UInt8}{n:Int}{c:Node}{v:BM}:EL (.mk op s n c BL) v=KW op s n (BL.list.map (·.1)) (FW BL) (IL BL) v:=by rw[EL]
def Kcp:FW .nil=[]:=by rw[FW]
def J9t:FW (.cons nm t r)=EL t::FW r:=by rw[FW]
def XM:∀f:RF,FW f=f.list.map fun p=>EL p.2
 |.nil=>by rw[Kcp];rfl
 |.cons nm t r=>by rw[J9t,XM r];rfl
end
end Go.LX
