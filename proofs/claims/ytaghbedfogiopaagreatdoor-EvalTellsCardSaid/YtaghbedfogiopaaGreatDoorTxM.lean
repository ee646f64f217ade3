/- Filters that are right, the document's answer. -/
import Derived.Test.YtaghbedfogiopaaGreatDoorTxL
set_option linter.all false
set_option maxRecDepth 100000
set_option maxHeartbeats 2000000
namespace Go.LX
open Go Go.RowKit Go.Proofs Go.Proofs.Tryz
attribute [local irreducible] Al Bi CL
variable {i q e w:Nat}{l:List KT}{p:IK}(v:List CW){y:CW}{BL:RF}{BR:List CW}(op:Int){k:Int}{s name:List UInt8}{g obj:Bool}{x:CD}{t u:BM}(n:Nat){c:Node}{a:List (List UInt8)}{b:List BM}(ns:List (List UInt8)){us:List (Nat×BM)}{f:BM->Except Nat BM}{fs es:List (BM->Except Nat BM)}
def Ŏ(k m:Int)(nm s:List UInt8)(n:Int)(c:Node):CA cx 81 [.p (.agg [.int .i64 k,.int .i64 m,.str nm,.str s,.int .i64 n,.int .i64 c.kind,.int .i64 c.many,.str c.name,.str c.s,.bool c.neg,.int .i64 c.e]) ] [] (.p (.bool (decide (KG k)))) []:=by
 by_cases h1:16<=k
 ·have c1:=AE h1;by_cases h2:k<=19
  ·have c2:=AE h2;rw[show decide (KG k)=true from AG ⟨h1,h2⟩];(refine CK func81 ?_;simp only[go_sem,simprocAttr,c1,c2,decide_true])
   skip
  ·have c2:=AD h2;rw[show decide (KG k)=false from AH fun h=>h2 h.2];(refine CK func81 ?_;simp only[go_sem,simprocAttr,c1,c2,decide_true,decide_false])
   skip
 ·have c1:=AD h1;rw[show decide (KG k)=false from AH fun h=>h1 h.1];(refine CK func81 ?_;simp only[go_sem,simprocAttr,c1,decide_false])
  skip
def OP(i:Nat)(l:List IK)(q:Nat):Nat:=i+1+(aA (l.take q)).enc.length
def J2j(i:Nat)(l:List IK):OP i l 0=i+1:=by unfold OP;rw[QN,aA,SJ];rfl
def ŏ{l:List IK}(h:l[q]?=some p):OP i l (q+1)=OP i l q+(p.2.enc p.1).length:=by
 unfold OP;rw[aB,aB,NA,h,Option.toList_some,nO,DC];simp;omega
def gJ:∀f:RF,aA f.list=f
 |.nil=>rfl
 |.cons nm t r=>by rw[RF.list,aA,gJ r]
def J7j{v:List CW}(h:v.drop i=y::(BL.enc++BR))(hq:q<=BL.list.length):v.drop (OP i BL.list q)=(aA (BL.list.drop q)).enc++BR:=by
 unfold OP;have e1:BL.enc=(aA (BL.list.take q)).enc++(aA (BL.list.drop q)).enc:=by
  rw[aB,aB,<-nO,PO,<-aB,gJ]
 rw[<-JO,<-JO,h,cg,OB,e1,KJ,YL]
def yk{v:List CW}(h:v.drop i=y::(BL.enc++BR))(hp:BL.list[q]?=some p):v.drop (OP i BL.list q)=p.2.enc p.1++((aA (BL.list.drop (q+1))).enc++BR):=by
 have hq:=(DX.1 hp).1;rw[J7j h omg,Mx hq];have:BL.list[q]=p:=(DX.1 hp).2;rw[this,aA,KF,KJ]
def J7a{v:List CW}(h:v.drop i=y::(BL.enc++BR))(hp:BL.list[q]?=some p):OP i BL.list q+(p.2.enc p.1).length<=v.length:=by
 have h1:=yk h hp;have h2:=congrArg List.length h1;have h3:=TP p.2 p.1;rw[KO,DC]at h2;omega
def Kac{l:List IK}{r:Nat}(h:q<r)(hr:r<=l.length):OP i l q<OP i l r:=by
 induction r with
 |zero=>omega
 |succ r ih =>
  obtain⟨p,hp⟩:∃p,l[r]?=some p:=⟨_,C' omg⟩
  rw[ŏ hp];have:=TP p.2 p.1;by_cases e:q=r
  ·subst e;omega
  ·have:=ih omg omg;omega
def vE(i:Nat)(y:CW)(BL:RF)(BR:List CW)(q:Nat)(p:IK)(hv:v.length<=850000000000)(h:v.drop i=y::(BL.enc++BR))(hp:BL.list[q]?=some p):CA cx 163 [.p (.sl (B9 v)),.p (.int .i64 i),.p (.int .i64 (OP i BL.list q))] [] (.p (.bool (decide (p.1∈(BL.list.take q).map (·.1))))) []:=by
 have hq:=(DX.1 hp).1;have BZ:=J7a h hp;have h0:i+1<=OP i BL.list q:=by unfold OP;omega
 obtain⟨k1,n1,s1,g1,e1,RQ⟩:=Ĕ (yk h hp);have w0:=DM (i:=i) omg;(refine CK func163 ?_;simp only[go_sem,simprocAttr,w0]);refine CL.loop (fun r:Nat=>⟨Ba 27 [(0,.p (.sl (B9 v))),(1,.p (.int .i64 i)),(2,.p (.int .i64 (OP i BL.list q))),(7,.p (.int .i64 (OP i BL.list r)))],[]⟩) (fun r=>r<=q/\p.1∉(BL.list.take r).map (·.1)) (fun r=>q-r) 0 (by rw[J2j];exact CH) ⟨EK _,by simp⟩ ?_;rintro r ⟨hr,hn⟩;by_cases xb:r<q
 ·have D':=Kac (i:=i) xb (by omega:q<=BL.list.length);have c1:((OP i BL.list r:Int)<(OP i BL.list q:Int))=True:=AE omg;obtain⟨x,hx⟩:∃x,BL.list[r]?=some x:=⟨_,C' omg⟩
  have hd:=yk h hx;obtain⟨k2,n2,s2,g2,e2,EH⟩:=Ĕ hd;by_cases LC:x.1=p.1
  ·have c2:=AE LC;have FU:p.1∈(BL.list.take q).map (·.1):=by
    rw[<-LC];refine FB.2 ⟨x,?_,rfl⟩;exact D4 (i:=r) (by rw[IQ,AB xb];exact hx)
   rw[AG FU];(refine CC ?_;simp only[go_sem,simprocAttr,c1,decide_true]);(repeat'(first|((refine EG ?_);simp only[go_sem,simprocAttr,RQ,c2,EH])|fail))
  ·have c2:=AD LC;have On:=yh v (OP i BL.list r) x.1 x.2 _ hv hd;rw[<-ŏ hx]at On;(refine CC ?_;simp only[go_sem,simprocAttr,c1,decide_true]);(repeat'(first|((first|refine EG ?_|refine BU On ?_);simp only[go_sem,simprocAttr,RQ,c2,EH])|fail));exact⟨r+1,⟨omg,by
    rw[NA,hx,Option.toList_some,Ry,H'];rintro(a|a)
    ·exact hn a
    ·simp at a;exact LC a.symm⟩,omg,CH⟩
 ·obtain rfl:r=q:=omg;have c1:((OP i BL.list r:Int)<(OP i BL.list r:Int))=False:=AD omg;rw[AH hn];(refine CC ?_;simp only[go_sem,simprocAttr,c1])
  skip
def UJ(l:List IK)(q:Nat)(p:IK):Prop:=Kef op p/\(op=4->q=0->p.2.kind≠4)/\(op=8->p.1∉(l.take q).map (·.1))
def J25{l:List (List UInt8)}:l.Nodup ↔ ∀q x,l[q]?=some x->x∉l.take q:=by
 constructor
 ·intro h q x hx II;obtain⟨r,hr⟩:=WE II;rw[IQ]at hr;split at hr
  ·obtain⟨a,rfl⟩:=DX.1 hr;obtain⟨b,hb⟩:=DX.1 hx;exact(List.pairwise_iff_getElem.1 h) r q a b omg hb.symm
  ·cases hr
 ·intro h;refine List.pairwise_iff_getElem.2 fun i j hi hj QS e=>?_
  have hx:=C' hj;refine h j _ hx (D4 (i:=i) ?_);rw[IQ,AB QS,<-e];exact C' hi
def J45{op:Int}{l:List IK}:aD op l ↔ ∀q p,l[q]?=some p->UJ op l q p:=by
 unfold aD UJ;constructor
 ·rintro⟨h1,h2,h3⟩ q p hp;refine⟨h1 p (D4 hp),fun a b=>?_,fun a=>?_⟩
  ·subst b;exact h2 a p (by rw[List.head?_eq_getElem?];exact hp)
  ·rw[aP];exact(J25.1 (h3 a)) q p.1 (by simp[hp])
 ·intro h;refine⟨fun p hp=>?_,fun a p hp=>?_,fun a=>?_⟩
  ·obtain⟨q,hq⟩:=WE hp;exact(h q p hq).1
  ·exact(h 0 p (by rw[<-List.head?_eq_getElem?];exact hp)).2.1 a rfl
  ·rw[J25];intro q x hx;rw[Eam]at hx;cases hq:l[q]? with
   |none=>rw[hq]at hx;cases hx
   |some p =>
    rw[hq]at hx;cases hx;rw[<-aP];exact(h q p hq).2.2 a
open Classical in
noncomputable def oQ (k:Int) (l:List IK):Bool:=decide (aD k l)
def J7q{l:List IK}(h:aD k l):true=oQ k l:=by unfold oQ;exact(@decide_eq_true _ (Classical.propDecidable _) h).symm
def J7h{l:List IK}(h:¬aD k l):false=oQ k l:=by unfold oQ;exact(@decide_eq_false _ (Classical.propDecidable _) h).symm
def Kbz(i:Nat)(nm:List UInt8)(k:Int)(s:List UInt8)(g:Int)(e:Node)(BL:RF)(BR:List CW)(hv:v.length<=850000000000)(h:v.drop i=(RT.mk k s g e BL).enc nm++BR)(hs:∀n∈v,n.name.length<=1000000):CA cx 131 [.p (.sl (B9 v)),.p (.int .i64 i)] [] (.p (.bool (oQ k BL.list))) []:=by
 have GB:=UG BL;have DV:=XJ BL;rw[GM]at h;have DD:=cQ h;rw[Z']at DD;have hb:=J4l h sm;simp only[PQ,DH,DC]at hb;have w0:=DM (i:=i) omg;have KN:=Ŏ k BL.len nm s g e;(refine CK func131 ?_;simp only[go_sem,simprocAttr,DD,w0]);refine CL.loop (fun q:Nat=>⟨Ba 77 [(0,.p (.sl (B9 v))),(1,.p (.int .i64 i)),(5,.ptr 5 0 0),(6,.p (.int .i64 (OP i BL.list q))),(7,.p (.int .i64 q))],[(5,.var 38 [.p (.int .i64 k),.p (.int .i64 BL.len),.p (.str nm),.p (.str s),.p (.int .i64 g),.p (.int .i64 e.kind),.p (.int .i64 e.many),.p (.str e.name),.p (.str e.s),.p (.bool e.neg),.p (.int .i64 e.e)])]⟩) (fun q=>q<=BL.len/\∀r p,r<q->BL.list[r]?=some p->UJ k BL.list r p) (fun q=>BL.len-q) 0 (by rw[J2j];exact CH) ⟨EK _,fun r p hr=>by omega⟩ ?_;rintro q ⟨h1,h2⟩;by_cases hq:q<BL.len
 ·have c1:((q:Int)<(BL.len:Int))=True:=AE omg;obtain⟨⟨DJ,k',s',g',e',BT⟩,hp⟩:∃p,BL.list[q]?=some p:=⟨_,C' omg⟩
  have hd:=yk h hp;have BZ:=J7a h hp;have IZ:=TP (.mk k' s' g' e' BT) DJ;simp only at hd BZ;have GG:(B9 v)[OP i BL.list q]?=some [.int .i64 k',.int .i64 BT.len,.str DJ,.str s',.int .i64 g',.int .i64 e'.kind,.int .i64 e'.many,.str e'.name,.str e'.s,.bool e'.neg,.int .i64 e'.e]:=by
   rw[GM]at hd;exact cQ hd
  have IB:DJ.length<=1000000:=by
   rw[GM]at hd;have hm:(⟨k',BT.len,DJ,s',g',e'⟩:CW)∈v.drop (OP i BL.list q):=by rw[hd];exact DQ
   exact hs _ (OR hm)
  have w1:=DM (i:=q) omg;have LG:=Ŏ k' BT.len DJ s' g' e';have On:=yh v (OP i BL.list q) DJ (.mk k' s' g' e' BT) _ hv hd;rw[show OP i BL.list q+((RT.mk k' s' g' e' BT).enc DJ).length=OP i BL.list (q+1)from(ŏ hp).symm]at On;have hU:=Cn DJ IB;have hH:=vE v i ⟨k,BL.len,nm,s,g,e⟩ BL BR q (DJ,.mk k' s' g' e' BT) hv h hp;simp only at hH;have GR:¬UJ k BL.list q (DJ,.mk k' s' g' e' BT)->false=oQ k BL.list:=fun hn=>J7h fun hk=>hn (J45.1 hk q _ hp)
  have PM:UJ k BL.list q (DJ,.mk k' s' g' e' BT)->∀r p,r<q+1->BL.list[r]?=some p->UJ k BL.list r p:=fun hy r p hr ph=>by
   by_cases e:r=q
   ·subst e;rw[hp]at ph;cases ph;exact hy
   ·exact h2 r p omg ph
  by_cases hX:KG k'
  ·rw[AG hX]at LG;by_cases hY:KG k
   ·rw[AG hY]at KN;have OA:KG k'↔KG k\/k=7:=⟨fun _=>.inl hY,fun _=>hX⟩
    by_cases o4:k=4
    ·have e4:=AE o4;have e8:(k=8)=False:=AD omg;by_cases q0:q=0
     ·have f0:((q:Int)=0)=True:=AE omg;by_cases k4:k'=4
      ·have g4:=AE k4;(refine CC ?_;simp only[go_sem,simprocAttr,c1,GG,decide_true]);(repeat'(first|((first|refine EG ?_|refine DS LG ?_|refine DS KN ?_);simp only[go_sem,simprocAttr,AM,e4,f0,g4])|fail))
       all_goals exact GR fun h=>h.2.1 o4 q0 k4
      ·have g4:=AD k4;by_cases n0:DJ=[]
       ·have fn:=AE n0;have hy:UJ k BL.list q (DJ,.mk k' s' g' e' BT):=⟨⟨OA,fun _=>n0,fun h=>absurd h omg⟩,fun _ _=>k4,fun h=>absurd h omg⟩
        (refine CC ?_;simp only[go_sem,simprocAttr,c1,GG,decide_true]);(repeat'(first|((first|refine EG ?_|refine DS LG ?_|refine DS KN ?_|refine BU On ?_);simp only[go_sem,simprocAttr,w1,JL,AM,e4,e8,f0,g4,fn])|fail))
        all_goals exact⟨q+1,⟨omg,PM hy⟩,omg,CH⟩
       ·have fn:=AD n0;(refine CC ?_;simp only[go_sem,simprocAttr,c1,GG,decide_true]);(repeat'(first|((first|refine EG ?_|refine DS LG ?_|refine DS KN ?_);simp only[go_sem,simprocAttr,JL,AM,e4,e8,f0,g4,fn])|fail))
        all_goals exact GR fun h=>n0 (h.1.2.1 omg)
     ·have f0:((q:Int)=0)=False:=AD omg;by_cases n0:DJ=[]
      ·have fn:=AE n0;have hy:UJ k BL.list q (DJ,.mk k' s' g' e' BT):=⟨⟨OA,fun _=>n0,fun h=>absurd h omg⟩,fun _ h=>absurd h q0,fun h=>absurd h omg⟩
       (refine CC ?_;simp only[go_sem,simprocAttr,c1,GG,decide_true]);(repeat'(first|((first|refine EG ?_|refine DS LG ?_|refine DS KN ?_|refine BU On ?_);simp only[go_sem,simprocAttr,w1,JL,AM,e4,e8,f0,fn])|fail))
       all_goals exact⟨q+1,⟨omg,PM hy⟩,omg,CH⟩
      ·have fn:=AD n0;(refine CC ?_;simp only[go_sem,simprocAttr,c1,GG,decide_true]);(repeat'(first|((first|refine EG ?_|refine DS LG ?_|refine DS KN ?_);simp only[go_sem,simprocAttr,JL,AM,e4,e8,f0,fn])|fail))
       all_goals exact GR fun h=>n0 (h.1.2.1 omg)
    ·have e4:=AD o4;by_cases o8:k=8
     ·have e8:=AE o8;cases VA:valid DJ with
      |false =>
       rw[VA]at hU;(refine CC ?_;simp only[go_sem,simprocAttr,c1,GG,decide_true]);(repeat'(first|((first|refine EG ?_|refine DS LG ?_|refine DS KN ?_|refine BU hU ?_);simp only[go_sem,simprocAttr,aR,AM,e4,e8])|fail))
       all_goals exact GR fun h=>by have:=h.1.2.2 o8;simp only at this;rw[VA]at this;cases this
      |true =>
       rw[VA]at hU;by_cases FU:DJ∈(BL.list.take q).map (·.1)
       ·rw[AG FU]at hH;(refine CC ?_;simp only[go_sem,simprocAttr,c1,GG,decide_true]);(repeat'(first|((first|refine EG ?_|refine DS LG ?_|refine DS KN ?_|refine BU hU ?_|refine BU hH ?_);simp only[go_sem,simprocAttr,JL,AM,e4,e8])|fail))
        all_goals exact GR fun h=>h.2.2 o8 FU
       ·rw[AH FU]at hH;have hy:UJ k BL.list q (DJ,.mk k' s' g' e' BT):=⟨⟨OA,fun h=>absurd o8 h,fun _=>VA⟩,fun h=>absurd h o4,fun _=>FU⟩
        (refine CC ?_;simp only[go_sem,simprocAttr,c1,GG,decide_true]);(repeat'(first|((first|refine EG ?_|refine DS LG ?_|refine DS KN ?_|refine BU hU ?_|refine BU hH ?_|refine BU On ?_);simp only[go_sem,simprocAttr,w1,JL,AM,e4,e8])|fail))
        all_goals exact⟨q+1,⟨omg,PM hy⟩,omg,CH⟩
     ·have e8:=AD o8;by_cases n0:DJ=[]
      ·have fn:=AE n0;have hy:UJ k BL.list q (DJ,.mk k' s' g' e' BT):=⟨⟨OA,fun _=>n0,fun h=>absurd h o8⟩,fun h=>absurd h o4,fun h=>absurd h o8⟩
       (refine CC ?_;simp only[go_sem,simprocAttr,c1,GG,decide_true]);(repeat'(first|((first|refine EG ?_|refine DS LG ?_|refine DS KN ?_|refine BU On ?_);simp only[go_sem,simprocAttr,w1,JL,AM,e4,e8,fn])|fail))
       all_goals exact⟨q+1,⟨omg,PM hy⟩,omg,CH⟩
      ·have fn:=AD n0;(refine CC ?_;simp only[go_sem,simprocAttr,c1,GG,decide_true]);(repeat'(first|((first|refine EG ?_|refine DS LG ?_|refine DS KN ?_);simp only[go_sem,simprocAttr,JL,AM,e4,e8,fn])|fail))
       all_goals exact GR fun h=>n0 (h.1.2.1 o8)
   ·rw[AH hY]at KN;by_cases o7:k=7
    ·have e7:=AE o7;have OA:KG k'↔KG k\/k=7:=⟨fun _=>.inr o7,fun _=>hX⟩
     by_cases o4:k=4
     ·have e4:=AE o4;have e8:(k=8)=False:=AD omg;by_cases q0:q=0
      ·have f0:((q:Int)=0)=True:=AE omg;by_cases k4:k'=4
       ·have g4:=AE k4;(refine CC ?_;simp only[go_sem,simprocAttr,c1,GG,decide_true]);(repeat'(first|((first|refine EG ?_|refine DS LG ?_|refine DS KN ?_);simp only[go_sem,simprocAttr,aQ,JL,e7,e4,f0,g4])|(exfalso;omega)))
        all_goals exact GR fun h=>h.2.1 o4 q0 k4
       ·have g4:=AD k4;by_cases n0:DJ=[]
        ·have fn:=AE n0;have hy:UJ k BL.list q (DJ,.mk k' s' g' e' BT):=⟨⟨OA,fun _=>n0,fun h=>absurd h omg⟩,fun _ _=>k4,fun h=>absurd h omg⟩
         (refine CC ?_;simp only[go_sem,simprocAttr,c1,GG,decide_true]);(repeat'(first|((first|refine EG ?_|refine DS LG ?_|refine DS KN ?_|refine BU On ?_);simp only[go_sem,simprocAttr,w1,aQ,JL,e7,e4,e8,f0,g4,fn])|(exfalso;omega)))
         all_goals exact⟨q+1,⟨omg,PM hy⟩,omg,CH⟩
        ·have fn:=AD n0;(refine CC ?_;simp only[go_sem,simprocAttr,c1,GG,decide_true]);(repeat'(first|((first|refine EG ?_|refine DS LG ?_|refine DS KN ?_);simp only[go_sem,simprocAttr,aQ,JL,e7,e4,e8,f0,g4,fn])|(exfalso;omega)))
         all_goals exact GR fun h=>n0 (h.1.2.1 omg)
      ·have f0:((q:Int)=0)=False:=AD omg;by_cases n0:DJ=[]
       ·have fn:=AE n0;have hy:UJ k BL.list q (DJ,.mk k' s' g' e' BT):=⟨⟨OA,fun _=>n0,fun h=>absurd h omg⟩,fun _ h=>absurd h q0,fun h=>absurd h omg⟩
        (refine CC ?_;simp only[go_sem,simprocAttr,c1,GG,decide_true]);(repeat'(first|((first|refine EG ?_|refine DS LG ?_|refine DS KN ?_|refine BU On ?_);simp only[go_sem,simprocAttr,w1,aQ,JL,e7,e4,e8,f0,fn])|(exfalso;omega)))
        all_goals exact⟨q+1,⟨omg,PM hy⟩,omg,CH⟩
       ·have fn:=AD n0;(refine CC ?_;simp only[go_sem,simprocAttr,c1,GG,decide_true]);(repeat'(first|((first|refine EG ?_|refine DS LG ?_|refine DS KN ?_);simp only[go_sem,simprocAttr,aQ,JL,e7,e4,e8,f0,fn])|(exfalso;omega)))
        all_goals exact GR fun h=>n0 (h.1.2.1 omg)
     ·have e4:=AD o4;by_cases o8:k=8
      ·have e8:=AE o8;cases VA:valid DJ with
       |false =>
        rw[VA]at hU;(refine CC ?_;simp only[go_sem,simprocAttr,c1,GG,decide_true]);(repeat'(first|((first|refine EG ?_|refine DS LG ?_|refine DS KN ?_|refine BU hU ?_);simp only[go_sem,simprocAttr,aQ,JL,aR,e7,e4,e8])|(exfalso;omega)))
        all_goals exact GR fun h=>by have:=h.1.2.2 o8;simp only at this;rw[VA]at this;cases this
       |true =>
        rw[VA]at hU;by_cases FU:DJ∈(BL.list.take q).map (·.1)
        ·rw[AG FU]at hH;(refine CC ?_;simp only[go_sem,simprocAttr,c1,GG,decide_true]);(repeat'(first|((first|refine EG ?_|refine DS LG ?_|refine DS KN ?_|refine BU hU ?_|refine BU hH ?_);simp only[go_sem,simprocAttr,aQ,JL,e7,e4,e8])|(exfalso;omega)))
         all_goals exact GR fun h=>h.2.2 o8 FU
        ·rw[AH FU]at hH;have hy:UJ k BL.list q (DJ,.mk k' s' g' e' BT):=⟨⟨OA,fun h=>absurd o8 h,fun _=>VA⟩,fun h=>absurd h o4,fun _=>FU⟩
         (refine CC ?_;simp only[go_sem,simprocAttr,c1,GG,decide_true]);(repeat'(first|((first|refine EG ?_|refine DS LG ?_|refine DS KN ?_|refine BU hU ?_|refine BU hH ?_|refine BU On ?_);simp only[go_sem,simprocAttr,w1,aQ,JL,e7,e4,e8])|(exfalso;omega)))
         all_goals exact⟨q+1,⟨omg,PM hy⟩,omg,CH⟩
      ·have e8:=AD o8;by_cases n0:DJ=[]
       ·have fn:=AE n0;have hy:UJ k BL.list q (DJ,.mk k' s' g' e' BT):=⟨⟨OA,fun _=>n0,fun h=>absurd h o8⟩,fun h=>absurd h o4,fun h=>absurd h o8⟩
        (refine CC ?_;simp only[go_sem,simprocAttr,c1,GG,decide_true]);(repeat'(first|((first|refine EG ?_|refine DS LG ?_|refine DS KN ?_|refine BU On ?_);simp only[go_sem,simprocAttr,w1,aQ,JL,e7,e4,e8,fn])|fail))
        all_goals exact⟨q+1,⟨omg,PM hy⟩,omg,CH⟩
       ·have fn:=AD n0;(refine CC ?_;simp only[go_sem,simprocAttr,c1,GG,decide_true]);(repeat'(first|((first|refine EG ?_|refine DS LG ?_|refine DS KN ?_);simp only[go_sem,simprocAttr,aQ,JL,e7,e4,e8,fn])|fail))
        all_goals exact GR fun h=>n0 (h.1.2.1 o8)
    ·have e7:=AD o7;(refine CC ?_;simp only[go_sem,simprocAttr,c1,GG,decide_true]);(repeat'(first|((first|refine EG ?_|refine DS LG ?_|refine DS KN ?_);simp only[go_sem,simprocAttr,aQ,JL,e7])|fail))
     all_goals exact GR fun h=>(h.1.1.1 hX).elim hY o7
  ·rw[AH hX]at LG;by_cases hY:KG k
   ·rw[AG hY]at KN;(refine CC ?_;simp only[go_sem,simprocAttr,c1,GG,decide_true]);(repeat'(first|((first|refine EG ?_|refine DS LG ?_|refine DS KN ?_);simp only[go_sem,simprocAttr,Bool.bne_true,aR])|fail))
    all_goals exact GR fun h=>hX (h.1.1.2 (.inl hY))
   ·rw[AH hY]at KN;by_cases o7:k=7
    ·have e7:=AE o7;(refine CC ?_;simp only[go_sem,simprocAttr,c1,GG,decide_true]);(repeat'(first|((first|refine EG ?_|refine DS LG ?_|refine DS KN ?_);simp only[go_sem,simprocAttr,aO,e7])|fail))
     all_goals exact GR fun h=>hX (h.1.1.2 (.inr o7))
    ·have e7:=AD o7;have OA:KG k'↔KG k\/k=7:=⟨fun h=>absurd h hX,fun h=>(h.elim hY o7).elim⟩
     by_cases o4:k=4
     ·have e4:=AE o4;have e8:(k=8)=False:=AD omg;by_cases q0:q=0
      ·have f0:((q:Int)=0)=True:=AE omg;by_cases k4:k'=4
       ·have g4:=AE k4;(refine CC ?_;simp only[go_sem,simprocAttr,c1,GG,decide_true]);(repeat'(first|((first|refine EG ?_|refine DS LG ?_|refine DS KN ?_);simp only[go_sem,simprocAttr,aO,e7,e4,f0,g4])|fail))
        all_goals exact GR fun h=>h.2.1 o4 q0 k4
       ·have g4:=AD k4;by_cases n0:DJ=[]
        ·have fn:=AE n0;have hy:UJ k BL.list q (DJ,.mk k' s' g' e' BT):=⟨⟨OA,fun _=>n0,fun h=>absurd h omg⟩,fun _ _=>k4,fun h=>absurd h omg⟩
         (refine CC ?_;simp only[go_sem,simprocAttr,c1,GG,decide_true]);(repeat'(first|((first|refine EG ?_|refine DS LG ?_|refine DS KN ?_|refine BU On ?_);simp only[go_sem,simprocAttr,w1,aO,JL,e7,e4,e8,f0,g4,fn])|fail))
         all_goals exact⟨q+1,⟨omg,PM hy⟩,omg,CH⟩
        ·have fn:=AD n0;(refine CC ?_;simp only[go_sem,simprocAttr,c1,GG,decide_true]);(repeat'(first|((first|refine EG ?_|refine DS LG ?_|refine DS KN ?_);simp only[go_sem,simprocAttr,aO,JL,e7,e4,e8,f0,g4,fn])|fail))
         all_goals exact GR fun h=>n0 (h.1.2.1 omg)
      ·have f0:((q:Int)=0)=False:=AD omg;by_cases n0:DJ=[]
       ·have fn:=AE n0;have hy:UJ k BL.list q (DJ,.mk k' s' g' e' BT):=⟨⟨OA,fun _=>n0,fun h=>absurd h omg⟩,fun _ h=>absurd h q0,fun h=>absurd h omg⟩
        (refine CC ?_;simp only[go_sem,simprocAttr,c1,GG,decide_true]);(repeat'(first|((first|refine EG ?_|refine DS LG ?_|refine DS KN ?_|refine BU On ?_);simp only[go_sem,simprocAttr,w1,aO,JL,e7,e4,e8,f0,fn])|fail))
        all_goals exact⟨q+1,⟨omg,PM hy⟩,omg,CH⟩
       ·have fn:=AD n0;(refine CC ?_;simp only[go_sem,simprocAttr,c1,GG,decide_true]);(repeat'(first|((first|refine EG ?_|refine DS LG ?_|refine DS KN ?_);simp only[go_sem,simprocAttr,aO,JL,e7,e4,e8,f0,fn])|fail))
        all_goals exact GR fun h=>n0 (h.1.2.1 omg)
     ·have e4:=AD o4;by_cases o8:k=8
      ·have e8:=AE o8;cases VA:valid DJ with
       |false =>
        rw[VA]at hU;(refine CC ?_;simp only[go_sem,simprocAttr,c1,GG,decide_true]);(repeat'(first|((first|refine EG ?_|refine DS LG ?_|refine DS KN ?_|refine BU hU ?_);simp only[go_sem,simprocAttr,aO,aR,e7,e4,e8])|fail))
        all_goals exact GR fun h=>by have:=h.1.2.2 o8;simp only at this;rw[VA]at this;cases this
       |true =>
        rw[VA]at hU;by_cases FU:DJ∈(BL.list.take q).map (·.1)
        ·rw[AG FU]at hH;(refine CC ?_;simp only[go_sem,simprocAttr,c1,GG,decide_true]);(repeat'(first|((first|refine EG ?_|refine DS LG ?_|refine DS KN ?_|refine BU hU ?_|refine BU hH ?_);simp only[go_sem,simprocAttr,aO,JL,e7,e4,e8])|fail))
         all_goals exact GR fun h=>h.2.2 o8 FU
        ·rw[AH FU]at hH;have hy:UJ k BL.list q (DJ,.mk k' s' g' e' BT):=⟨⟨OA,fun h=>absurd o8 h,fun _=>VA⟩,fun h=>absurd h o4,fun _=>FU⟩
         (refine CC ?_;simp only[go_sem,simprocAttr,c1,GG,decide_true]);(repeat'(first|((first|refine EG ?_|refine DS LG ?_|refine DS KN ?_|refine BU hU ?_|refine BU hH ?_|refine BU On ?_);simp only[go_sem,simprocAttr,w1,aO,JL,e7,e4,e8])|fail))
         all_goals exact⟨q+1,⟨omg,PM hy⟩,omg,CH⟩
      ·have e8:=AD o8;by_cases n0:DJ=[]
       ·have fn:=AE n0;have hy:UJ k BL.list q (DJ,.mk k' s' g' e' BT):=⟨⟨OA,fun _=>n0,fun h=>absurd h o8⟩,fun h=>absurd h o4,fun h=>absurd h o8⟩
        (refine CC ?_;simp only[go_sem,simprocAttr,c1,GG,decide_true]);(repeat'(first|((first|refine EG ?_|refine DS LG ?_|refine DS KN ?_|refine BU On ?_);simp only[go_sem,simprocAttr,w1,aO,JL,e7,e4,e8,fn])|fail))
        all_goals exact⟨q+1,⟨omg,PM hy⟩,omg,CH⟩
       ·have fn:=AD n0;(refine CC ?_;simp only[go_sem,simprocAttr,c1,GG,decide_true]);(repeat'(first|((first|refine EG ?_|refine DS LG ?_|refine DS KN ?_);simp only[go_sem,simprocAttr,aO,JL,e7,e4,e8,fn])|fail))
        all_goals exact GR fun h=>n0 (h.1.2.1 o8)
 ·obtain rfl:q=BL.len:=omg;have c1:((BL.len:Int)<(BL.len:Int))=False:=AD omg;have hK:aD k BL.list:=J45.2 fun r p hp=>h2 r p (by rw[<-DV];exact(DX.1 hp).1) hp
  (refine CC ?_;simp only[go_sem,simprocAttr,c1]);exact J7q hK
def Kb0(hv:v.length<=10000)(hf:∀n∈v,be n):CA cx 80 [.p (.sl (B9 v))] [] (.p (.bool (gF v))) []:=by
 cases v with
 |nil =>
  have hb:false=gF []:=Ħ (by
   rintro⟨t,_,h⟩;have:=congrArg List.length h;have h1:=TP t [];simp at this;omega)
  have c0:(((B9 []).length:Int)=0)=True:=AE rfl;rw[<-hb];(refine CK func80 ?_;simp only[go_sem,simprocAttr,c0])
  skip
 |cons n r =>
  have DD:=yG (v:=n::r) (i:=0) (n:=n) rfl;have c0:(((n::r).length:Int)=0)=False:=AD (by simp;omega);have hN:=J9r (n::r) hv;generalize IF:n::r=v at *
  by_cases LC:n.name=[]
  ·have c2:=AE LC;by_cases eA:TQ v 0 1=v.length
   ·obtain⟨nm,t,ht⟩:=J9g eA;have DR:nm=[]:=by
     cases t with
     |mk k s g e BL =>
      rw[GM,<-IF]at ht;have:=(List.cons.inj ht).1;rw[this]at LC;exact LC
    subst DR;have c3:(TQ v 0 1=(v.length:Int))=True:=AE eA;(refine CK func80 ?_;simp only[go_sem,simprocAttr,ON,DD,c0,c2,not_true_eq_false]);(repeat'(first|((refine BU hN ?_);simp only[go_sem,simprocAttr,ON,c3,not_true_eq_false])|fail));have hB:∀b:Bool,(b=true↔UI t)->b=gF v:=by
     intro b hb;rw[KA,hb,yR,ht,J85]
    refine CL.loop (fun x:Nat×RF=>⟨Ba 39 [(0,.p (.sl (B9 v))),(3,.p (.int .i64 x.1))],[]⟩) (fun x=>v.drop x.1=x.2.enc/\x.1+x.2.enc.length=v.length/\(UI t↔MW x.2)) (fun x=>v.length-x.1) (0,.cons [] t .nil) CH ⟨by rw[KF,SJ,ID,OB,ht],by rw[KF,SJ,ID,ht];simp,by rw[uk];exact⟨fun h=>⟨h,yP⟩,fun h=>h.1⟩⟩ ?_;rintro⟨i,F⟩ ⟨h1,h2,h3⟩;simp only at h1 h2 h3
    match F,h1,h2,h3 with
    |.nil,h1,h2,h3 =>
     rw[SJ]at h2;have c4:((i:Int)<(v.length:Int))=False:=AD (by simp at h2;omega);(refine CC ?_;simp only[go_sem,simprocAttr,ON,decide_false,c4]);exact hB true (by rw[h3];simp[yP])
    |.cons DJ (.mk k s g e BL) r,h1,h2,h3 =>
     rw[KF,GM]at h1 h2;simp only[DC,DH]at h2;have c4:((i:Int)<(v.length:Int))=True:=AE omg;have GG:=cQ h1;rw[Z']at GG;have w1:=DM (i:=i) omg;rw[Kca]at h3;have CR:(⟨k,BL.len,DJ,s,g,e⟩:CW)∈v:=by
      have:(⟨k,BL.len,DJ,s,g,e⟩:CW)∈v.drop i:=by rw[h1];simp
      exact OR this
     have Ui:=hf _ CR;have D':=Kcy k BL.len DJ s g e Ui.s Ui.c;have eB:=Kbz v i DJ k s g e BL r.enc omg (by rw[h1,GM]) fun n hn=>(hf n hn).name
     by_cases PW:HU k s g e BL.len
     ·rw[AG PW]at D';by_cases WI:aD k BL.list
      ·rw[<-J7q WI]at eB;(refine CC ?_;simp only[go_sem,simprocAttr,ON,decide_true,c4,GG,decide_true]);(repeat'(first|((first|refine BU D' ?_|refine BU eB ?_);simp only[go_sem,simprocAttr,w1,JL])|fail));refine⟨(i+1,BL.app r),⟨?_,?_,h3.trans ⟨fun h=>h.2.2,fun h=>⟨PW,WI,h⟩⟩⟩,?_,CH⟩
       ·simp only;rw[<-JO,h1,VZ];rfl
       ·simp only;rw[VZ,DC];omega
       ·simp only;omega
      ·rw[<-J7h WI]at eB;(refine CC ?_;simp only[go_sem,simprocAttr,ON,decide_true,c4,GG,decide_true]);(repeat'(first|((first|refine BU D' ?_|refine BU eB ?_);simp only[go_sem,simprocAttr,JL,aR])|fail));exact hB false (by rw[h3];simp[WI])
     ·rw[AH PW]at D';(refine CC ?_;simp only[go_sem,simprocAttr,ON,decide_true,c4,GG,decide_true]);(repeat'(first|((refine BU D' ?_);simp only[go_sem,simprocAttr,aR])|fail));exact hB false (by rw[h3];simp[PW])
   ·have c3:(TQ v 0 1=(v.length:Int))=False:=AD eA;have hb:=Ħ (v:=v) (fun h=>eA (J6y h));rw[<-hb];(refine CK func80 ?_;simp only[go_sem,simprocAttr,ON,DD,c0,c2,not_true_eq_false]);(repeat'(first|((refine BU hN ?_);simp only[go_sem,simprocAttr,ON,c3,AJ])|fail))
  ·have c2:=AD LC;have hb:=Ħ (v:=v) (by
    rintro⟨t,_,h⟩;cases t with
    |mk k s g e BL =>
     rw[GM,<-IF]at h;have:=(List.cons.inj h).1;rw[this]at LC;exact LC rfl)
   rw[<-hb];(refine CK func80 ?_;simp only[go_sem,simprocAttr,ON,DD,c0,c2,AJ])
   skip
def Kc3(hv:v.length<=10000)(hf:∀n∈v,be n):CA cx 28 [.p (.sl (B9 v))] [] (.p (.bool (cS v))) []:=by
 have hW:=Kb0 v hv hf;cases hb:gF v with
 |false =>
  have:false=cS v:=Jxx fun⟨t,h1,_,h3⟩=>by
   rw[yR.2 ⟨t,h1,h3⟩]at hb;cases hb
  rw[hb]at hW;rw[<-this];refine CB func28 ?_;(repeat'(first|((refine BU hW ?_);simp only[go_sem,simprocAttr])|fail))
 |true =>
  obtain⟨⟨k,s,n,c,BL⟩,ht,rfl⟩:=yR.1 hb;rw[hb]at hW;have hI:=Ŏ k BL.len [] s n c;have DD:(B9 ((RT.mk k s n c BL).enc []))[0]?=some [.int .i64 k,.int .i64 BL.len,.str [],.str s,.int .i64 n,.int .i64 c.kind,.int .i64 c.many,.str c.name,.str c.s,.bool c.neg,.int .i64 c.e]:=by rw[GM];rfl
  by_cases hc:KG k
  ·have:false=cS ((RT.mk k s n c BL).enc []):=Jxx fun h=>(J2l.1 h).2 hc
   rw[AG hc]at hI;rw[<-this];generalize B9 ((RT.mk k s n c BL).enc [])=DZ at *
   (refine CB func28 ?_);(repeat'(first|((first|refine BU hW ?_|refine BU hI ?_);simp only[go_sem,simprocAttr,DD,JL])|fail))
  ·have:cS ((RT.mk k s n c BL).enc [])=true:=ĥ.2 (J2l.2 ⟨ht,hc⟩);rw[AH hc]at hI;rw[this];generalize B9 ((RT.mk k s n c BL).enc [])=DZ at *
   (refine CB func28 ?_);(repeat'(first|((first|refine BU hW ?_|refine BU hI ?_);simp only[go_sem,simprocAttr,DD,aR])|fail))
noncomputable def aF (v:List CW) (m:Nat):Bool:=ug v m&&cS v
def Kg2(m:Nat)(II:m<=1000)(hv:v.length<=9223372036854775807)(hf:∀n∈v,eU n):CA cx 33 [.p (.sl (B9 v)),.p (.int .i64 m)] [] (.p (.bool (aF v m))) []:=by
 by_cases hl:v.length<=m
 ·have c0:((m:Int)<(v.length:Int))=False:=AD omg;have hsh:ug v m=v.all Jx:=by unfold ug;rw[AG hl,Bool.true_and]
  (refine CK func33 ?_;simp only[go_sem,simprocAttr,ON,c0]);refine CL.loop (fun i:Nat=>⟨Ba 44 [(0,.p (.sl (B9 v))),(1,.p (.int .i64 m)),(5,.p (.int .i64 i))],[]⟩) (fun i=>i<=v.length/\∀r∈v.take i,Jx r=true) (fun i=>v.length-i) 0 CH ⟨EK _,by simp⟩ ?_;rintro i ⟨hi,ha⟩;by_cases BZ:i<v.length
  ·have c1:((i:Int)<(v.length:Int))=True:=AE omg;obtain⟨r,hr⟩:∃r,v[i]?=some r:=⟨_,C' BZ⟩
   have hg:=yG hr;have w1:=DM (i:=i) omg;have GR:¬Jx r=true->false=aF v m:=fun hn=>by
    have:v.all Jx=false:=by
     rw[List.all_eq_false];exact⟨r,D4 hr,hn⟩
    unfold aF;rw[hsh,this];rfl
   have cK:Jx r=true↔r.s.length<=100/\r.name.length<=100/\r.c.s.length<=100:=by simp[Jx]
   by_cases a1:r.s.length<=100
   ·have d1:((100:Int)<(r.s.length:Int))=False:=AD omg;by_cases a2:r.name.length<=100
    ·have d2:((100:Int)<(r.name.length:Int))=False:=AD omg;by_cases a3:r.c.s.length<=100
     ·have d3:((100:Int)<(r.c.s.length:Int))=False:=AD omg;(refine CC ?_;simp only[go_sem,simprocAttr,ON,c1,hg,w1,d1,d2,d3,decide_false]);exact⟨i+1,⟨omg,fun x hx=>by
       rw[NA,hr,Option.toList_some]at hx;rcases H'.1 hx with hx|hx
       ·exact ha x hx
       ·simp only[KI]at hx;subst hx;exact cK.2 ⟨a1,a2,a3⟩⟩,omg,CH⟩
     ·have d3:((100:Int)<(r.c.s.length:Int))=True:=AE omg;(refine CC ?_;simp only[go_sem,simprocAttr,ON,c1,hg,d1,d2,d3,decide_false,decide_true])
      all_goals exact GR fun h=>a3 (cK.1 h).2.2
    ·have d2:((100:Int)<(r.name.length:Int))=True:=AE omg;(refine CC ?_;simp only[go_sem,simprocAttr,ON,c1,hg,d1,d2,decide_false,decide_true])
     all_goals exact GR fun h=>a2 (cK.1 h).2.1
   ·have d1:((100:Int)<(r.s.length:Int))=True:=AE omg;(refine CC ?_;simp only[go_sem,simprocAttr,ON,c1,hg,d1,decide_true])
    all_goals exact GR fun h=>a1 (cK.1 h).1
  ·obtain rfl:i=v.length:=omg;have c1:((v.length:Int)<(v.length:Int))=False:=AD omg;rw[bz]at ha;have hR:=Kc3 v omg (fun n hn=>by
    have h1:=ha n hn;have h2:=hf n hn;simp only[Jx,OS,AF]at h1;exact⟨omg,omg,omg,h2.e0,h2.e1⟩)
   rw[show aF v m=cS v by unfold aF;rw[hsh,SQ.2 ha,Bool.true_and]];(refine CC ?_;simp only[go_sem,simprocAttr,ON,c1]);(repeat'(first|((refine BU hR ?_);simp only[go_sem,simprocAttr])|fail))
 ·have c0:((m:Int)<(v.length:Int))=True:=AE omg;rw[show aF v m=false by unfold aF ug;rw[AH hl];rfl];(refine CK func33 ?_;simp only[go_sem,simprocAttr,ON,c0])
  skip
def GT(v:BM):Prop:=EZ v/\GC v
def aG{e:Int}{BL:BO}(h:GT (.mk k s g e BL)){p:KT}(hp:p∈BL.list):valid p.1=true/\p.1.length<=1000000/\GT p.2:=
 ⟨(Lu.1 h.1).2.1.2.1 p hp,(Mg h.2 hp).1,cP h.1 hp,(Mg h.2 hp).2⟩
def cV{v:BM}(h:GT v):∀x∈CV v,GT x:=by
 obtain⟨k,s,g,e,BL⟩:=v;intro x hx;obtain⟨p,hp,rfl⟩:=FB.1 hx;exact(aG h hp).2.2
def J4z:∀l:List BM,(∀x∈l,GT x)->∀n∈(A1 (UH l)).enc,HP n
 |[],_,n,hn=>by rw[show A1 (UH [])=.nil from rfl,Bl]at hn;cases hn
 |t::l,hl,n,hn=>by
  rw[show A1 (UH (t::l))=.cons [] t (A1 (UH l))from rfl,A0]at hn;rcases H'.1 hn with hn|hn
  ·exact(hl t DQ).2 n hn
  ·exact J4z l (fun x hx=>hl x (EW _ hx)) n hn
def Ő(k m:Int):HP ⟨k,m,[],[],false,0⟩:=⟨EK _,EK _,(by decide:(-9223372036854775808:Int)<=0),(by decide:(0:Int)<=9223372036854775807)⟩
def bl{l:List BM}(h:∀x∈l,GT x):GT (CG l):=by
 refine⟨Kf7 fun x hx=>(h x hx).1,fun n hn=>?_⟩;unfold CG at hn;rw[A6]at hn;rcases DN.1 hn with rfl|hn
 ·exact Ő _ _
 ·exact J4z l h n hn
def oR(hr:EJ l)(h:∀p∈l,valid p.1=true/\p.1.length<=1000000/\GT p.2):GT (nd 6 l):=by
 refine⟨th.2 ⟨by simp[G3],⟨fun h=>by omega,fun p hp=>(h p hp).1,fun _=>hr⟩,fun p hp=>(h p hp).2.2.1⟩,fun n hn=>?_⟩;unfold nd at hn;rw[A6]at hn;rcases DN.1 hn with rfl|hn
 ·exact Ő _ _
 ·exact J3m l (fun p hp=>⟨(h p hp).2.2.2,(h p hp).2.1⟩) n hn
def gK:GT Es:=⟨yW,fun n hn=>by
 unfold Es at hn;rw[A6,Bl]at hn;simp only[DN,Ebj,or_false]at hn;subst hn;exact Ő _ _⟩
def ő(hv:valid s=true)(hs:s.length<=1000000):GT (GY s):=⟨mf hv,Kgz hs⟩
def J0y:∀(n:Nat) (u:List UInt8),u.length=n->∃k,u=I7 u++List.replicate k 48
 |0,u,h=>⟨0,by have:u=[]:=KH h;subst this;rfl⟩
 |n+1,u,h=>by
  obtain⟨b,c,rfl⟩:∃b c,u=b++[c]:=⟨u.dropLast,u.getLast (List.ne_nil_of_length_pos omg),(nG _).symm⟩
  rw[oB];by_cases hc:c=48
  ·rw[AB hc];obtain⟨k,hk⟩:=J0y n b (by simpa using h);refine⟨k+1,?_⟩
   conv=>lhs;rw[hk]
   rw[hc,List.replicate_succ',<-KJ]
  ·rw[AA hc];exact⟨0,by simp⟩
def J3g:∀(n:Nat) (u:List UInt8),u.length=n->0<(I7 u).length->BS (I7 u) ((I7 u).length-1)≠48
 |0,u,h,h'=>by have:u=[]:=KH h;subst this;exact absurd h' de
 |n+1,u,h,h'=>by
  obtain⟨b,c,rfl⟩:∃b c,u=b++[c]:=⟨u.dropLast,u.getLast (List.ne_nil_of_length_pos omg),(nG _).symm⟩
  rw[oB]at h'⊢;by_cases hc:c=48
  ·rw[AB hc]at h'⊢;exact J3g n b (by simpa using h) h'
  ·rw[AA hc];rw[DC,WD,Nat.add_sub_cancel,uC];exact fun e=>hc (uA.1 e)
def mg(h:i<10^20):GT (JA i):=by
 have EU:∀(s:List UInt8) (e:Int),s.length<=1000->0<=e->e<=1000->GC (.mk 3 s false e .nil):=fun s e h1 h2 h3 n hn=>by
  rw[A6,Bl]at hn;simp only[DN,Ebj,or_false]at hn;subst hn;exact⟨by show s.length<=_;omega,EK _,by show _<=e;omega,by show e<=_;omega⟩
 unfold JA;split
 ·refine⟨?_,EU [] 0 sm omg omg⟩;rw[Lu];exact⟨by decide,Sb 3,I6⟩
 ·rename_i h0;have hl:=Xk 19 i omg;have HI:=ü (Lib.decDigits i);have hp:=Ĳ h0;obtain⟨k,hk⟩:=J0y _ (Lib.decDigits i) rfl;have bZ:=J3g _ (Lib.decDigits i) rfl hp;have GI:Pk (I7 (Lib.decDigits i))=true:=by
   unfold Pk;rw[SQ];intro c hc;have:=ä i c (by rw[hk];exact aL _ hc);unfold GV at this;simp[tf,this.1,this.2]
  have vG:BS (I7 (Lib.decDigits i)) 0≠48:=by
   cases hs:I7 (Lib.decDigits i)with
   |nil=>rw[hs]at hp;exact absurd hp de
   |cons c r =>
    rw[uB];intro e;rw[hs]at hk;exact h0 (xh i c _ hk e).2
  refine⟨?_,EU _ _ omg omg omg⟩;rw[Lu];refine⟨?_,Sb 3,I6⟩;have DA:I7 (Lib.decDigits i)≠[]:=VN.1 hp;simp only[G3,BO.len];refine⟨rfl,GI,omg,omg,omg,omg,?_⟩;rw[AA DA];exact⟨vG,bZ⟩
def J8c{key x:BM}(hk:GT key)(hx:GT x):GT (VF key x):=by
 have BZ:Op.bytesLess FE EY=true:=de;show GT (nd 6 [(FE,key),(EY,x)]);refine oR (NC.2 ⟨fun q hq=>by simp only[DN,Ebj,or_false]at hq;subst hq;exact BZ,by simp⟩) fun p hp=>?_
 simp only[DN,Ebj,or_false]at hp;rcases hp with rfl|rfl
 ·exact⟨(by decide:valid FE=true),(by decide:FE.length<=1000000),hk⟩
 ·exact⟨(by decide:valid EY=true),(by decide:EY.length<=1000000),hx⟩
def Œ(ht:GT t)(h:IM x t=.ok u):GT u:=by
 have hk:∀p∈t.kids.list,GT p.2:=by
  obtain⟨k,s,g,e,BL⟩:=t;exact fun p hp=>(aG ht hp).2.2
 unfold IM at h;split at h
 ·cases h;exact gK
 ·split at h
  ·split at h
   ·cases h;cases hq:t.kids.list[x.n.toNat]? with
    |none=>exact gK
    |some p=>exact hk p (D4 hq)
   ·cases h
  ·split at h
   ·cases h;cases hq:Ch x.name t.kids.list with
    |none=>exact gK
    |some w =>
     obtain⟨p,hp,rfl,_⟩:=H2 hq;exact hk p hp
   ·cases h
def wK(ws:List Nat):Nat:=if op=4 then ws.headD 1*ws.getD 1 1 else if op=5\/op=6 then ws.headD 1 else if op=8\/op=9 then 1+ws.sum else 3
mutual
def FA:RT->Nat|.mk op _ _ _ BL=>wK op (J' BL)
def J':RF->List Nat|.nil=>[]|.cons _ t r=>FA t::J' r
end
def vH{op:Int}{n:Int}:FA (.mk op s n c BL)=wK op (J' BL):=by rw[FA]
def J63:J' .nil=[]:=by rw[J']
def J49{nm:List UInt8}{t:RT}{r:RF}:J' (.cons nm t r)=FA t::J' r:=by rw[J']
def bm:∀f:RF,J' f=f.list.map fun p=>FA p.2
 |.nil=>by rw[J63];rfl
 |.cons nm t r=>by rw[J49,bm r];rfl
mutual
def bn:∀f:RT,1<=FA f
 |.mk op s n c BL=>by
  have hL:=J76 BL;rw[vH];generalize J' BL=ws at *
  unfold wK;have h1:1<=ws.headD 1:=by
   cases ws with
   |nil=>exact CS _
   |cons a l=>exact hL a DQ
  have h2:1<=ws.getD 1 1:=by
   rw[GU];cases h:ws[1]? with
   |none=>exact CS _
   |some a=>exact hL a (D4 h)
  split
  ·exact Nat.mul_pos h1 h2
  ·split
   ·exact h1
   ·split<;>omega
def J76:∀(f:RF),∀w∈J' f,1<=w
 |.nil,w,h=>by rw[J63]at h;cases h
 |.cons nm t r,w,h=>by
  rw[J49]at h;rcases DN.1 h with rfl|h
  ·exact bn t
  ·exact J76 r w h
end
def Rq(w l:Nat):Prop:=w*15^(l+1)<=26^(l+1)
def œ:∀l:Nat,1<=l->26*15^l<=15*26^l
 |0,h=>by omega
 |1,_=>by decide
 |l+2,_=>by
  have:=œ (l+1) omg;rw[Nat.pow_succ 15 (l+1),Nat.pow_succ 26 (l+1)];omega
def Kce(l:Nat)(h:1<=l):Rq 3 l:=by
 unfold Rq
 induction l with
 |zero=>omega
 |succ l ih =>
  by_cases e:l=0
  ·subst e;decide
  ·have:=ih omg;rw[Nat.pow_succ 15 (l+1),Nat.pow_succ 26 (l+1)];omega
def J7x{l:Nat}(h:Rq w l):Rq w (l+1):=by
 unfold Rq at *
 rw[Nat.pow_succ 15 (l+1),Nat.pow_succ 26 (l+1)];have:w*(15^(l+1)*15)=w*15^(l+1)*15:=by rw[Qm]
 omega
def Kg0{u a b:Nat}(h:Rq w a)(h':Rq u b):Rq (w*u) (a+b+1):=by
 unfold Rq at *
 have e:∀x:Nat,x^(a+b+1+1)=x^(a+1)*x^(b+1):=fun x=>by rw[<-fF];congr 1;omega
 rw[e,e]
 calc w*u*(15^(a+1)*15^(b+1))=(w*15^(a+1))*(u*15^(b+1)):=by rw[Nat.mul_mul_mul_comm]
  _<=_:=Nat.mul_le_mul h h'
def Kay:∀(ps:List (Nat×Nat)),(∀p∈ps,Rq p.1 p.2/\1<=p.2)->Rq (1+(ps.map (·.1)).sum) (1+(ps.map (·.2)).sum)
 |[],_=>by unfold Rq;decide
 |p::ps,h=>by
  have ih:=Kay ps fun q hq=>h q (EW _ hq)
  obtain⟨h1,h2⟩:=h p DQ;obtain⟨w,l⟩:=p;simp only at h1 h2;rw[Fc,Fc,List.sum_cons,List.sum_cons];have hr:=œ l h2;have hS:=œ (1+(ps.map (·.2)).sum+1) omg;simp only;cases ps with
  |nil =>
   unfold Rq at *
   simp only[SR,List.sum_nil,Nat.add_zero]at *
   have e:∀x:Nat,x^(1+l+1)=x^l*(x*x):=fun x=>by rw[show 1+l+1=l+2 by omega,fF,Nat.pow_two]
   have e1:∀x:Nat,x^(l+1)=x^l*x:=fun x=>Nat.pow_succ ..
   rw[e1,e1]at h1;rw[e,e];have h3:w*(15^l*15)=w*15^l*15:=by rw[Qm]
   have h4:(1+w)*(15^l*(15*15))=225*15^l+225*(w*15^l):=by
    rw[ME,YO,show w*(15^l*(15*15))=w*15^l*225 by rw[Qm]];omega
   omega
  |cons q qs =>
   have hq:=(h q (EW _ DQ)).2;generalize hSv:1+((q::qs).map (·.1)).sum=S at *
   generalize hLv:1+((q::qs).map (·.2)).sum=L at *
   have hL3:2<=L:=by rw[<-hLv,Fc,List.sum_cons];omega
   have e0:1+(w+((q::qs).map (·.1)).sum)=S+w:=omg;have e1:1+(l+((q::qs).map (·.2)).sum)=L+l:=omg;rw[e0,e1];unfold Rq at *
   have e2:∀x:Nat,x^(L+l+1)=x^(L+1)*x^l:=fun x=>by rw[<-fF];congr 1;omega
   have e3:∀x:Nat,x^(l+1)=x^l*x:=fun x=>Nat.pow_succ ..
   rw[e3,e3]at h1;rw[e2,e2];have h5:5*15^(L+1)<=26^(L+1):=by
    obtain⟨m,rfl⟩:∃m,L=m+2:=⟨L-2,omg⟩
    have:∀m:Nat,5*15^(m+3)<=26^(m+3):=by
     intro m
     induction m with
     |zero=>decide
     |succ m ihm=>rw[show m+1+3=(m+3)+1 by omega,Nat.pow_succ 15 (m+3),Nat.pow_succ 26 (m+3)];omega
    exact this m
   generalize 15^(L+1)=b at *
   generalize 26^(L+1)=a at *
   generalize 15^l=d at *
   generalize 26^l=c at *
   have t1:(S+w)*(b*d)=(S*b)*d+b*(w*d):=by
    rw[ME,Qm,Nat.mul_left_comm w b d]
   have t2:(S*b)*d<=a*d:=M' _ ih;have t3:26*(a*d)<=15*(a*c):=by
    have:=ZT a hr;rw[Nat.mul_left_comm a 26 d,Nat.mul_left_comm a 15 c]at this;exact this
   have t4:15*(b*(w*d))<=26*(b*c):=by
    have h6:15*(w*d)<=26*c:=by
     have:w*(d*15)=15*(w*d):=by rw[<-Qm,UA]
     omega
    have:=ZT b h6;rw[Nat.mul_left_comm b 15 (w*d),Nat.mul_left_comm b 26 c]at this;exact this
   have t5:5*(b*c)<=a*c:=by
    have:=M' c h5;rw[Qm]at this;exact this
   rw[t1];omega
def Kbc:∀(n:Nat) (f:RT),(f.enc []).length<=n->UI f->Rq (FA f) (f.enc []).length
 |0,f,h,_=>by have:=TP f [];omega
 |n+1,.mk op s m c BL,h,ok=>by
  obtain⟨h1,h2,h3⟩:=mR.1 ok;rw[GM,DH]at h⊢;have HH:∀p∈BL.list,Rq (FA p.2) (p.2.enc p.1).length/\1<=(p.2.enc p.1).length:=fun p hp=>by
   have hl:(p.2.enc p.1).length<=BL.enc.length:=by
    rw[<-gJ BL,aB];have:∀l:List IK,p∈l->(p.2.enc p.1).length<=(l.flatMap fun q=>q.2.enc q.1).length:=by
     intro l
     induction l with
     |nil=>intro h;cases h
     |cons a l ih =>
      intro h;rw[nL,DC];rcases DN.1 h with rfl|h
      ·omega
      ·have:=ih h;omega
    exact this _ hp
   have e:=eL p.2 p.1;refine⟨?_,TP p.2 p.1⟩;have:=Kbc n p.2 omg (bf.1 h3 p hp);rw[<-e]at this;exact this
  rw[vH,bm];have PH:(BL.list.map fun p=>(p.2.enc p.1).length).sum=BL.enc.length:=by
   conv=>rhs;rw[<-gJ BL,aB]
   rw[List.length_flatMap]
  unfold wK;by_cases o4:op=4
  ·rw[AB o4];subst o4;have vI:BL.len=2:=by simp[HU]at h1;omega
   cases BL with
   |nil=>simp[RF.len]at vI
   |cons a t0 r =>
    cases r with
    |nil=>simp[RF.len]at vI
    |cons b t1 r2 =>
     cases r2 with
     |cons x y z=>simp[RF.len]at vI
     |nil =>
      have a0:=(HH (a,t0) DQ).1;have a1:=(HH (b,t1) (EW _ DQ)).1;have II:=Kg0 a0 a1;rw[KF,KF,SJ,DC,ID];exact II
  ·rw[AA o4];by_cases o5:op=5\/op=6
   ·rw[AB o5];have h1l:BL.len=1:=by rcases o5 with rfl|rfl<;>simp[HU]at h1<;>omega
    cases BL with
    |nil=>simp[RF.len]at h1l
    |cons a t0 r =>
     cases r with
     |cons b c d=>simp[RF.len]at h1l
     |nil =>
      have a0:=(HH (a,t0) DQ).1;rw[KF,SJ,ID];exact J7x a0
   ·rw[AA o5];by_cases o8:op=8\/op=9
    ·rw[AB o8];have hw:=Kay (BL.list.map fun p=>(FA p.2,(p.2.enc p.1).length)) fun q hq=>by
      obtain⟨p,hp,rfl⟩:=FB.1 hq;exact HH p hp
     rw[OT,OT]at hw;have e1:(BL.list.map ((fun x:Nat×Nat=>x.2)∘fun p:IK=>(FA p.2,(p.2.enc p.1).length))).sum=BL.enc.length:=PH;rw[e1]at hw;rw[show BL.enc.length+1=1+BL.enc.length by omega];exact hw
    ·rw[AA o8];exact Kce _ omg
def yl{f:BM->Except Nat BM}{w:Nat}:∀{l:List BM} {i:Nat} {us:List (Nat×BM)},(∀t∈l,∀u,f t=.ok u->(u.enc []).length<=w*(t.enc []).length)->IP f i l=.ok us->ER (us.map (·.2))<=w*ER l
 |[],i,us,_,h=>by rw[IP]at h;cases h;exact EK _
 |t::l,i,us,hw,h=>by
  rw[IP]at h;have hw':=fun x hx=>hw x (EW t hx)
  rw[SM,Nat.mul_add];cases hf:f t with
  |error e =>
   rw[hf]at h;simp only at h;split at h
   ·cases h
   ·have:=yl hw' h;omega
  |ok u =>
   rw[hf]at h;cases hk:IP f (i+1) l with
   |error e=>rw[hk]at h;cases h
   |ok us' =>
    rw[hk]at h;cases h;have h1:=yl hw' hk;have h2:=hw t DQ u hf;simp only[Fc];rw[SM];omega
def ym{f:BM->Except Nat BM}:∀{l:List BM} {i:Nat} {us:List (Nat×BM)},IP f i l=.ok us->us.Pairwise fun a b=>a.1<b.1
 |[],i,us,h=>by rw[IP]at h;cases h;exact .nil
 |t::l,i,us,h=>by
  rw[IP]at h;cases hf:f t with
  |error e =>
   rw[hf]at h;simp only at h;split at h
   ·cases h
   ·exact ym h
  |ok u =>
   rw[hf]at h;cases hk:IP f (i+1) l with
   |error e=>rw[hk]at h;cases h
   |ok us' =>
    rw[hk]at h;cases h;exact NC.2 ⟨fun p hp=>by have:=vB hk p hp;simp only;omega,ym hk⟩
def LH(us:List (Nat×BM)):List KT:=us.map fun p=>(ns.getD p.1 [],p.2)
def yn(us:List (Nat×BM)):(LH ns us).map (·.2)=us.map (·.2):=by unfold LH;rw[OT];rfl
def J4m(hu:∀p∈us,p.1<l.length):∀q∈LH (l.map (·.1)) us,∃r∈l,q.1=r.1:=by
 intro q hq;obtain⟨p,hp,rfl⟩:=FB.1 hq;have:=hu p hp;refine⟨l[p.1],UN this,?_⟩;simp[GU,C' this]
def J1x(hr:EJ l)(hi:us.Pairwise fun a b=>a.1<b.1)(hu:∀p∈us,p.1<l.length):EJ (LH (l.map (·.1)) us):=by
 unfold EJ LH;rw[fG];refine List.Pairwise.imp_of_mem ?_ hi;intro a b ha hb YW;have h1:=hu a ha;have h2:=hu b hb;have:=List.pairwise_iff_getElem.1 hr a.1 b.1 h1 h2 YW;simpa[GU,C' h1,C' h2]using this
def Kb9{k:Nat}{p:Nat×BM}(hp:us[k]?=some p){q:KT}(hq:l[p.1]?=some q):(LH (l.map (·.1)) us)[k]?=some (q.1,p.2):=by
 unfold LH;simp[hp,GU,hq]
def Ke6(hr:EJ l)(hv:∀p∈l,valid p.1=true):RS l=.tup [.sl (BP ((nd 6 l).enc [])),.int .i64 0]:=by
 have GZ:M3 l=true:=by unfold M3;rw[AF];exact⟨hv,hr.nodup⟩
 unfold RS;rw[AB GZ,Jwx hr];rfl
def J1r(f:RT)(w:Nat)(hE:u9 f w)(hw:1<=w)(he:∀v e,EL f v=.error e->e=5\/e=6)(hs:∀t u,GT t->(t.enc []).length*w<=450000000000->EL f t=.ok u->(u.enc []).length<=w*(t.enc []).length)(FL:Bool)(v:BM)(hg:GT v)(hv:(v.enc []).length*w<=450000000000):CA cx 49 [.p (.sl (B9 (f.enc []))),.p (.sl (BP (v.enc []))),.p (.bool FL)] [] (BV (VH (EL f) FL v)) []:=by
 have aj:(v.enc []).length<=(v.enc []).length*w:=gQ _ hw;have DI:=QH v;have HI:=SN (CV v);have hP:=uv v omg;have OA:=cV hg;have ny:w*ER (CV v)<=450000000000:=by
  have:=ZT w (show ER (CV v)<=(v.enc []).length by omega);rw[UA w (v.enc []).length]at this;omega
 have HK:=Kb8 f w hE hw he (CV v) (fun t ht=>⟨(OA t ht).1,(OA t ht).2,by
  have:=M' w (WA ht);rw[UA (ER (CV v)) w]at this;omega⟩) omg
 have TT:=yi (EL f) (CV v) 0;have F':=fun us=>yl (f:=EL f) (w:=w) (l:=CV v) (i:=0) (us:=us) (fun t ht u hu=>hs t u (OA t ht) (by
  have:=M' w (WA ht);rw[UA (ER (CV v)) w]at this;omega) hu)
 obtain⟨k,s,g,e,BL⟩:=v;have ES:=Cc [] k s g e BL;have DV:=LU BL;by_cases mh:k=5\/k=6
 ·have c5:(k<5)=False:=AD omg;have Ŕ:VH (EL f) FL (.mk k s g e BL)=if FL=true/\k=6 then(match MY (EL f) BL.list with
   |.error e=>.error e
   |.ok l=>.ok (nd 6 l))else match MX (EL f) (CV (.mk k s g e BL))with
   |.error e=>.error e
   |.ok l=>.ok (CG l):=by unfold VH;exact AB mh
  have TV:=Ń (EL f) (BL.list.map (·.1)) BL.list 0 sm;have cW:CV (.mk k s g e BL)=BL.list.map (·.2):=rfl;rw[<-cW]at TV;rw[Ŕ];cases PZ:IP (EL f) 0 (CV (.mk k s g e BL))with
  |error er =>
   have h5:=vA PZ;subst h5;rw[PZ]at HK TT TV;simp only at TT TV;rw[TT,TV];simp only[ite_self];rw[BV];simp only[vC]at HK;generalize BP ((BM.mk k s g e BL).enc [])=V at *
   (refine CK func49 ?_;simp only[go_sem,simprocAttr,ES,c5]);(repeat'(first|((first|refine BU hP ?_|refine BU HK ?_);simp only[go_sem,simprocAttr])|fail))
   all_goals rfl
  |ok us =>
   rw[PZ]at HK TT TV;simp only at TT TV;simp only[vC]at HK;have bW:=F' us PZ;have hL:=cT (us.map (·.2)) omg;have BZ:=vB PZ;by_cases gI:FL=true/\k=6
   ·obtain⟨rfl,rfl⟩:=gI;rw[AB ⟨rfl,rfl⟩,TV,BV];have h9:((BM.mk 6 s g e BL).enc []).length=BL.enc.length+1:=by rw[A6,DH]
    have hN:=Ir [] s g e BL omg;have MQ:∀p∈us,p.1<BL.list.length:=fun p hp=>by
     have:=(BZ p hp).2;rw[cW,HM]at this;omega
    have hr:EJ BL.list:=(Lu.1 hg.1).2.1.2.2 rfl;have OY:=J1x hr (ym PZ) MQ;have LC:=J4m MQ;have oA:∀p∈LH (BL.list.map (·.1)) us,valid p.1=true/\p.1.length<=1000000:=fun p hp=>by
     obtain⟨r,hr,e⟩:=LC p hp;rw[e];exact⟨(aG hg hr).1,(aG hg hr).2.1⟩
    have hO:=Zc (LH (BL.list.map (·.1)) us) (by rw[ej,yn];omega) fun p hp=>(oA p hp).2
    rw[Ke6 OY fun p hp=>(oA p hp).1,eY,yn]at hO;have IB:(LH (BL.list.map (·.1)) us).length=us.length:=by unfold LH;simp
    have ŕ:∀(k:Nat) (p:Nat×BM),us[k]?=some p->∀q,BL.list[p.1]?=some q->(LH (BL.list.map (·.1)) us)[k]?=some (q.1,p.2):=fun k p h1 q h2=>Kb9 h1 h2
    have VR:us.length<=450000000000:=by have:=SN (us.map (·.2));rw[HM]at this;omega
    rw[show(us.map fun p=>((BL.list.map (·.1)).getD p.1 [],p.2))=LH (BL.list.map (·.1)) us from rfl];generalize LH (BL.list.map (·.1)) us=NP at *
    generalize BP ((BM.mk 6 s g e BL).enc [])=V at *
    (refine CK func49 ?_;simp only[go_sem,simprocAttr,ES,c5]);(repeat'(first|((first|refine BU hP ?_|refine BU HK ?_|refine BU hN ?_);simp only[go_sem,simprocAttr,ES])|fail));refine HD (B1 [(43,59)] _ sm) ?_;simp only[go_sem,simprocAttr];refine CL.loop (fun i:Nat=>⟨Ba 65 [(8,.p (.sl (CQ (us.map (·.2))))),(9,.p (.sl (CJ (us.map (·.1))))),(11,.p (.sl (Bd BL.list))),(12,.own 59 0 i),(13,.p (.int .i64 i))],[(59,.row 9 1 (Bd (NP.take i)))]⟩) (fun i=>i<=us.length) (fun i=>us.length-i) 0 CH (EK _) ?_;rintro i hi;by_cases OE:i<us.length
    ·have c1:((i:Int)<(us.length:Int))=True:=AE omg;obtain⟨p,hp⟩:∃p,us[i]?=some p:=⟨_,C' OE⟩
     have D':=MQ p (D4 hp);obtain⟨q,hq⟩:∃q,BL.list[p.1]?=some q:=⟨_,C' D'⟩
     have GG:(CJ (us.map (·.1)))[i]?=some [.int .i64 (p.1:Int)]:=mT (by simp[hp]);have JY:(Bd BL.list)[p.1]?=some [.str q.1]:=by simp[Bd,hq]
     have hnp:=ŕ i p hp q hq;have DR:Bd (NP.take (i+1))=Bd (NP.take i)++[[.str q.1]]:=by rw[YI hnp,T6];rfl
     have JB:(Bd (NP.take i)).length=i:=by rw[A9,GF];omega
     (refine CC ?_;simp only[go_sem,simprocAttr,NV,HM,c1,GG,JY,JB,DM (i:=i) omg]);(repeat'(first|(refine And.intro (by first|(simp;done)|(simp;omega)) ?_)|refine EA ?_|fail));exact⟨i+1,omg,omg,by rw[DR];exact CH⟩
    ·obtain rfl:i=us.length:=omg;have c1:((us.length:Int)<(us.length:Int))=False:=AD omg;have QG:NP.take us.length=NP:=DK omg;have JI:(Bd NP).take us.length=Bd NP:=DK (by rw[A9];omega);have JB:(Bd NP).length=us.length:=by rw[A9];exact IB
     (refine CC ?_;simp only[go_sem,simprocAttr,NV,HM,c1,QG,JI,JB,CS]);(repeat'(first|((refine BU hO ?_);simp only[go_sem,simprocAttr])|fail))
   ·rw[AA gI,TT,BV];cases FL with
    |false =>
     generalize BP ((BM.mk k s g e BL).enc [])=V at *
     (refine CK func49 ?_;simp only[go_sem,simprocAttr,ES,c5]);(repeat'(first|((first|refine BU hP ?_|refine BU HK ?_|refine BU hL ?_);simp only[go_sem,simprocAttr])|fail))
    |true =>
     have k5:k=5:=by
      rcases mh with h|h
      ·exact h
      ·exact absurd ⟨rfl,h⟩ gI
     subst k5;generalize BP ((BM.mk 5 s g e BL).enc [])=V at *
     (refine CK func49 ?_;simp only[go_sem,simprocAttr,ES]);(repeat'(first|((first|refine BU hP ?_|refine BU HK ?_|refine BU hL ?_);simp only[go_sem,simprocAttr,ES])|fail))
 ·have HE:=ya hg.1;have c5:(k<5)=True:=AE omg;rw[show VH (EL f) FL (.mk k s g e BL)=.error 5 from AA mh,BV];generalize BP ((BM.mk k s g e BL).enc [])=V at *
  (refine CK func49 ?_;simp only[go_sem,simprocAttr,ES,c5])
  all_goals rfl
def Rv(us:List BM):Except Nat (List BM)->Except Nat (List BM)|.ok l=>.ok (us++l)|.error e=>.error e
def J0q{v:BM}(h:f v=.ok u)(us:List BM):Rv us (N4 obj v (f::fs))=Rv (us++[u]) (N4 obj v fs):=by
 rw[N4,h];cases N4 obj v fs with
 |ok ks=>simp[Rv]
 |error e=>rfl
def yp{v:BM}(h:f v=.error e)(he:e=5\/obj=true)(us:List BM):Rv us (N4 obj v (f::fs))=.error e:=by
 rw[N4,h];simp only;rw[AB he];rfl
def J0o{v:BM}(h:f v=.error e)(he:e≠5)(us:List BM):Rv us (N4 false v (f::fs))=Rv us (N4 false v fs):=by
 rw[N4,h];simp only;rw[AA (by simp[he])]
def Ŗ(h:a.length=b.length):(a.zip b).map (·.1)=a:=by
 induction a generalizing b with
 |nil=>rfl
 |cons x a ih =>
  cases b with
  |nil=>simp at h
  |cons y b=>rw[List.zip_cons_cons,Fc,ih (by simpa using h)]
def ŗ(h:a.length=b.length):(a.zip b).map (·.2)=b:=by
 induction a generalizing b with
 |nil=>cases b with
  |nil=>rfl
  |cons y b=>simp at h
 |cons x a ih =>
  cases b with
  |nil=>simp at h
  |cons y b=>rw[List.zip_cons_cons,Fc,ih (by simpa using h)]
def Kcz(l:List IK):YG l=(l.map (·.1)).map fun s=>[.str s]:=by unfold YG;rw[OT];rfl
def Ket(l:List KT):Bd l=(l.map (·.1)).map fun s=>[.str s]:=by unfold Bd;rw[OT];rfl
def Kdf(s:List UInt8)(n:Int)(c:Node)(BL:RF)(LJ:op=8\/op=9)(hq:aD op BL.list)(hl:BL.enc.length<=150000000000)(IB:∀p∈BL.list,p.1.length<=1000000)(hE:∀p∈BL.list,u9 p.2 (FA p.2))(he:∀p∈BL.list,∀v e,EL p.2 v=.error e->e=5\/e=6)(hs:∀p∈BL.list,∀t u,GT t->(t.enc []).length*FA p.2<=450000000000->EL p.2 t=.ok u->(u.enc []).length<=FA p.2*(t.enc []).length)(v:BM)(hg:GT v)(hv:(v.enc []).length*(1+(BL.list.map fun p=>FA p.2).sum)<=450000000000) :
  CA cx 51 [.p (.sl (B9 ((RT.mk op s n c BL).enc []))),.p (.sl (BP (v.enc [])))] [] (BV (OO (decide (op=8)) (BL.list.map (·.1)) (FW BL) v)) []:=by
 have DV:=XJ BL;have GB:=UG BL;have hP:=ł [] op s n c BL omg;have hN:=Kdo [] op s n c BL omg;have DD:(B9 ((RT.mk op s n c BL).enc []))[0]?=some [.int .i64 op,.int .i64 BL.len,.str [],.str s,.int .i64 n,.int .i64 c.kind,.int .i64 c.many,.str c.name,.str c.s,.bool c.neg,.int .i64 c.e]:=by rw[GM];rfl
 have OI:∀p∈BL.list,(v.enc []).length*FA p.2<=450000000000:=fun p hp=>by
  have h1:=oP (FB.2 ⟨p,hp,rfl⟩:FA p.2∈BL.list.map fun p=>FA p.2);have:=ZT (v.enc []).length (show FA p.2<=1+(BL.list.map fun p=>FA p.2).sum by omega);omega
 have XO:∀us:List BM,ER us<=(BL.list.map fun p=>FA p.2).sum*(v.enc []).length->ER us<=450000000000:=fun us h=>by
  rw[Nat.mul_add,UA (v.enc []).length (List.sum _)]at hv;omega
 have KZ:BP (v.enc [])=BP (v.enc []):=rfl;generalize hrr:B9 ((RT.mk op s n c BL).enc [])=DZ at *
 have YY:∀obj:Bool,(obj=true↔op=8)->CA cx 51 [.p (.sl DZ),.p (.sl (BP (v.enc [])))] [] (BV (OO obj (BL.list.map (·.1)) (FW BL) v)) []:=by
  intro obj TW;refine CB func51 ?_;(repeat'(first|((refine BU hP ?_);simp only[go_sem,simprocAttr])|fail));refine HD (B1 [(13,48)] _ sm) ?_;simp only[go_sem,simprocAttr];refine CL.loop (fun x:Nat×List BM=>⟨Ba 62 [(0,.p (.sl DZ)),(1,.p (.sl (BP (v.enc [])))),(6,.p (.sl (NS BL.list))),(7,.own 48 0 x.2.length),(8,.p (.int .i64 x.1))],[(48,.row 25 1 (CQ x.2))]⟩) (fun x=>x.1<=BL.list.length/\x.2.length<=x.1/\(obj=true->x.2.length=x.1)/\ER x.2<=((BL.list.take x.1).map fun p=>FA p.2).sum*(v.enc []).length/\N4 obj v (FW BL)=Rv x.2 (N4 obj v ((FW BL).drop x.1))) (fun x=>BL.list.length-x.1) (0,[]) CH ⟨EK _,CS _,fun _=>rfl,EK _,by rw[OB];cases N4 obj v (FW BL)<;>rfl⟩ ?_;rintro⟨i,us⟩ ⟨h1,h2,h3,h4,h5⟩;simp only at h1 h2 h3 h4 h5;by_cases BZ:i<BL.list.length
  ·have c1:((i:Int)<(BL.list.length:Int))=True:=AE omg;obtain⟨p,hp⟩:∃p,BL.list[i]?=some p:=⟨_,C' BZ⟩
   have KX:=D4 hp;have RQ:=cR hp;have hF:=hE p KX v hg.1 hg.2 (OI p KX);have hd:(FW BL).drop i=EL p.2::(FW BL).drop (i+1):=by
    have hi:(FW BL)[i]?=some (EL p.2):=by rw[XM];simp[hp]
    obtain⟨a,b⟩:=DX.1 hi;rw[Mx a,b]
   rw[hd]at h5;have PH:((BL.list.take (i+1)).map fun p=>FA p.2).sum=((BL.list.take i).map fun p=>FA p.2).sum+FA p.2:=by
    rw[YI hp,Ry,List.sum_append];simp
   cases hf:EL p.2 v with
   |error er =>
    rw[hf,BV]at hF;rcases he p KX v er hf with rfl|rfl
    ·rw[yp hf (.inl rfl)]at h5;rw[show OO obj (BL.list.map (·.1)) (FW BL) v=.error 5 by unfold OO;rw[h5],BV];(refine CC ?_;simp only[go_sem,simprocAttr,XK,c1,RQ]);(repeat'(first|((refine BU hF ?_);simp only[go_sem,simprocAttr])|fail))
     all_goals rfl
    ·cases obj with
     |true =>
      have o8:=TW.1 rfl;have e8:=AE o8;rw[yp hf (.inr rfl)]at h5;rw[show OO true (BL.list.map (·.1)) (FW BL) v=.error 6 by unfold OO;rw[h5],BV];(refine CC ?_;simp only[go_sem,simprocAttr,XK,c1,RQ]);(repeat'(first|((refine BU hF ?_);simp only[go_sem,simprocAttr,DD,e8])|fail))
      all_goals rfl
     |false =>
      have o8:¬op=8:=fun h=>by have:=TW.2 h;cases this
      have e8:=AD o8;rw[J0o hf omg]at h5;have QK:ER us<=((BL.list.take (i+1)).map fun p=>FA p.2).sum*(v.enc []).length:=by rw[PH,ME];omega
      (refine CC ?_;simp only[go_sem,simprocAttr,XK,c1,RQ,DM (i:=i) omg]);(repeat'(first|((refine BU hF ?_);simp only[go_sem,simprocAttr,DD,e8,DM (i:=i) omg])|fail))
      all_goals exact⟨(i+1,us),⟨by simp only;omega,by simp only;omega,QK,h5⟩,by simp only;omega,CH⟩
   |ok u =>
    rw[hf,BV]at hF;rw[J0q hf]at h5;have bW:=hs p KX v u hg (OI p KX) hf;have QK:ER (us++[u])<=((BL.list.take (i+1)).map fun p=>FA p.2).sum*(v.enc []).length:=by
     rw[PH,ME,eX,SM,ĭ];omega
    have ha:CQ us++[[.sl (BP (u.enc []))]]=CQ (us++[u]):=(V' us [u]).symm;have hn:us.length+1=(us++[u]).length:=sm
    (refine CC ?_;simp only[go_sem,simprocAttr,XK,c1,RQ,DM (i:=i) omg]);(repeat'(first|(refine And.intro (by first|(simp;done)|(simp;omega)) ?_)|refine EA ?_|((refine BU hF ?_);simp only[go_sem,simprocAttr,ha,DM (i:=i) omg])|fail))
    all_goals exact⟨(i+1,us++[u]),⟨by simp only;omega,by simp only;rw[<-hn];omega,fun h=>by simp only;rw[<-hn,h3 h],QK,h5⟩,by simp only;omega,by simp only;rw[<-hn];exact CH⟩
  ·obtain rfl:i=BL.list.length:=omg;have c1:((BL.list.length:Int)<(BL.list.length:Int))=False:=AD omg;have EF:(FW BL).length=BL.list.length:=by rw[XM,HM]
   rw[JD omg,N4,Rv,ID]at h5;rw[bz]at h4;have bW:=XO us h4;have JI:(CQ us).take us.length=CQ us:=DK sm;cases obj with
   |true =>
    have o8:=TW.1 rfl;subst o8;have VR:=h3 rfl;rw[show OO true (BL.list.map (·.1)) (FW BL) v=.ok (nd 6 (Lp ((BL.list.map (·.1)).zip us)))by unfold OO;rw[h5];rfl,BV];have Q':=Ŗ (a:=BL.list.map (·.1)) (b:=us) (by rw[HM];exact VR.symm);have ZW:=ŗ (a:=BL.list.map (·.1)) (b:=us) (by rw[HM];exact VR.symm);have yq:∀q∈(BL.list.map (·.1)).zip us,∃p∈BL.list,q.1=p.1:=fun q hq=>by
     have:q.1∈((BL.list.map (·.1)).zip us).map (·.1):=FB.2 ⟨q,hq,rfl⟩;rw[Q']at this;obtain⟨p,hp,e⟩:=FB.1 this;exact⟨p,hp,e.symm⟩
    have hO:=Zc ((BL.list.map (·.1)).zip us) (by rw[ej,ZW];omega) fun q hq=>by
     obtain⟨p,hp,e⟩:=yq q hq;rw[e];exact IB p hp
    have GZ:M3 ((BL.list.map (·.1)).zip us)=true:=by
     unfold M3;rw[AF];refine⟨fun q FJ=>?_,by rw[Q'];exact hq.2.2 rfl⟩;obtain⟨p,hp,e⟩:=yq q FJ;rw[e];exact(hq.1 p hp).2.2 rfl
    rw[RS,AB GZ,Ket,Q',<-Kcz,eY,ZW]at hO;rw[show BM.mk 6 [] false 0 (A1 (Lp ((BL.list.map (·.1)).zip us)))=nd 6 (Lp ((BL.list.map (·.1)).zip us))from rfl]at hO;generalize nd 6 (Lp ((BL.list.map (·.1)).zip us))=en at *
    (refine CC ?_;simp only[go_sem,simprocAttr,XK,c1,DD]);(repeat'(first|((first|refine BU hN ?_|refine BU hO ?_);simp only[go_sem,simprocAttr,JI,FZ,CS])|fail))
   |false =>
    have o9:op=9:=by
     rcases LJ with h|h
     ·have:=TW.2 h;cases this
     ·exact h
    subst o9;have hL:=cT us omg;rw[show OO false (BL.list.map (·.1)) (FW BL) v=.ok (CG us)by unfold OO;rw[h5];rfl,BV];(refine CC ?_;simp only[go_sem,simprocAttr,XK,c1,DD,JI,FZ,CS]);(repeat'(first|((refine BU hL ?_);simp only[go_sem,simprocAttr])|fail))
 exact YY (decide (op=8)) decide_eq_true_iff
def HZ:Except Nat Bool->Bool|.ok b=>b|.error _=>false
def Ht:Except Nat Bool->Int|.ok _=>0|.error e=>e
def Khb(f:RT):Prop:=∀v:BM,GT v->(v.enc []).length<=450000000000->CA cx 19 [.p (.sl (B9 (f.enc []))),.p (.sl (BP (v.enc [])))] [] (.tup [.bool (HZ (IN f v)),.int .i64 (Ht (IN f v))]) []
def Ř(h:VE c):BP ((SK c).enc [])=[[.int .i64 c.kind,.int .i64 c.many,.str c.name,.str c.s,.bool c.neg,.int .i64 c.e]]:=by
 obtain⟨h1,h2,h3⟩:=h;have h4:c.many=0:=by
  unfold G3 at h3;split at h3
  ·exact h3.1
  ·split at h3
   ·exact h3.1
   ·split at h3
    ·exact h3.2.1
    ·split at h3
     ·omega
     ·exact h3.elim
 unfold SK;rw[A6,Bl,h2,h4];rfl
def ř(c:Node):((SK c).enc []).length=1:=by unfold SK;rw[A6,Bl];rfl
def mi(hp:p∈BL.list):(p.2.enc p.1).length<=BL.enc.length:=by
 rw[<-gJ BL,aB];have:∀l:List IK,p∈l->(p.2.enc p.1).length<=(l.flatMap fun q=>q.2.enc q.1).length:=by
  intro l
  induction l with
  |nil=>intro h;cases h
  |cons a l ih =>
   intro h;rw[nL,DC];rcases DN.1 h with rfl|h
   ·omega
   ·have:=ih h;omega
 exact this _ hp
def oS:∀(n:Nat) (f:RT) (v:BM) (e:Nat),(f.enc []).length<=n->IN f v=.error e->e=5
 |0,f,v,e,h,_=>by have:=TP f [];omega
 |n+1,.mk op s m c BL,v,e,h,hh=>by
  rw[GM,DH]at h;rw[oM]at hh;have HH:∀p∈BL.list,∀v e,IN p.2 v=.error e->e=5:=fun p hp v e he=>by
   have hl:(p.2.enc p.1).length<=BL.enc.length:=mi hp;rw[eL p.2 p.1]at hl;exact oS n p.2 v e omg he
  unfold gH at hh;split at hh
  ·split at hh
   ·rename_i h1;cases hh;exact eQ h1
   ·cases hh
  ·rw[mS]at hh;cases GS:BL.list with
   |nil=>rw[GS]at hh;cases hh
   |cons p r =>
    rw[GS]at hh;simp only[Fc]at hh;have hp:=HH p (by rw[GS];exact DQ);split at hh
    ·rename_i h1;cases hh;exact hp v _ h1
    ·split at hh
     ·cases hh
     ·split at hh
      ·cases hh
      ·cases r with
       |nil=>cases hh
       |cons q r=>exact HH q (by rw[GS];exact EW _ DQ) v e hh
def Ye{n:Node}:∀{l:List KT},n∈(A1 l).enc->∃p∈l,n∈p.2.enc p.1
 |[],h=>by simp[A1,Bl]at h
 |p::l,h=>by
  rw[A1,A0,H']at h;rcases h with h|h
  ·exact⟨p,DQ,h⟩
  ·obtain⟨q,h1,h2⟩:=Ye h;exact⟨q,EW _ h1,h2⟩
def Jli(h:∀p∈l,p.1.length<=1000000/\GC p.2):GC (nd k l):=by
 intro n hn;unfold nd at hn;rw[A6]at hn;rcases DN.1 hn with rfl|hn
 ·exact⟨by simp,by simp,by simp only;omega,by simp only;omega⟩
 ·obtain⟨p,h1,h2⟩:=Ye hn;exact Y3 (h p h1).2 (h p h1).1 n h2
def Jnz{w y:BM}(hf:GC t)(hw:Way t x w)(hy:GC y):GC (MR t x y):=by
 cases hw with
 |list l h hp hn hi =>
  subst h;rw[Cr hp hn];refine Jli fun p IA=>?_
  rcases cc IA with IA|rfl
  ·have:=Mg (k:=5) (s:=[]) (g:=false) (e:=0) (BL:=A1 l) hf (p:=p) (by rw[Ea];exact IA);exact this
  ·exact⟨by simp,hy⟩
 |obj l h hp hr hi =>
  subst h;rw[C7 hp hr hi];refine Jli fun p IA=>?_
  obtain⟨q,hq,rfl⟩:=FB.1 IA;have:=Mg (k:=6) (s:=[]) (g:=false) (e:=0) (BL:=A1 l) hf (p:=q) (by rw[Ea];exact hq);split
  ·rename_i he;exact⟨by simp only;rw[<-he];exact this.1,hy⟩
  ·exact this
def Jdv:∀{p:List CD} {t u y:BM},EZ t->EZ u->GC t->GC u->GL p t u=.ok y->GC y
 |[],t,u,y,_,_,_,hu,h=>by cases h;exact hu
 |x::p,t,u,y,ht,hu,ft,fu,h=>by
  rw[GL]at h;cases hi:KS t x with
  |error e=>rw[hi]at h;cases h
  |ok w =>
   rw[hi]at h;simp only at h;have hw:=Jv ht hi;cases hz:GL p w u with
   |error e=>rw[hz]at h;cases h
   |ok z =>
    rw[hz]at h;simp only at h;cases h;exact Jnz ft hw (Jdv (Ig ht hw) hu (ô ft hi) fu hz)
structure vJ (r:CW):Prop where
 s:r.s.length<=1000000
 name:r.name.length<=1000000
def VK(f:RT):Prop:=∀r∈f.enc [],vJ r
def aH{op:Int}{n:Int}(h:VK (.mk op s n c BL))(hp:p∈BL.list):p.1.length<=1000000/\VK p.2:=by
 have hk:∀r∈p.2.enc p.1,vJ r:=fun r hr=>by
  refine h r ?_;rw[GM,<-gJ BL,aB];exact EW _ (List.mem_flatMap.2 ⟨p,hp,hr⟩)
 obtain⟨nm,t⟩:=p;obtain⟨k',s',n',c',BT⟩:=t;simp only[GM]at hk;refine⟨(hk _ DQ).name,fun r hr=>?_⟩;simp only[GM]at hr;rcases DN.1 hr with rfl|hr
 ·exact⟨(hk _ DQ).s,EK _⟩
 ·exact hk r (EW _ hr)
def J4i:∀(n:Nat) (f:RT),(f.enc []).length<=n->UI f->KG f.kind->VK f->(f.enc []).length<=150000000000->Khb f
 |0,f,h,_,_,_,_=>by have:=TP f [];omega
 |n+1,.mk op s m c BL,h,ok,hc,hf,hl=>by
  intro v hg hv;obtain⟨h1,h2,h3⟩:=mR.1 ok;have hc:KG op:=hc;rw[GM,DH]at h hl;have XT:s.length<=1000000:=(hf ⟨op,BL.len,[],s,m,c⟩ (by rw[GM];exact DQ)).s;have DD:(B9 ((RT.mk op s m c BL).enc []))[0]?=some [.int .i64 op,.int .i64 BL.len,.str [],.str s,.int .i64 m,.int .i64 c.kind,.int .i64 c.many,.str c.name,.str c.s,.bool c.neg,.int .i64 c.e]:=by rw[GM];rfl
  by_cases mj:op=16
  ·subst mj;have b9:VE c:=by simp[HU]at h1;exact h1.2.2.2.2
   have hN:=Ř b9;obtain⟨D',ZQ⟩:=mN s;have hP:=ě s XT;have hF:=yK (Je s).1 v omg ZQ omg;have hR:IN (.mk 16 s m c BL) v=match KU (Je s).1 v with
    |.error e=>.error e
    |.ok x=>.ok (eN m (DT x (SK c))):=by
     rw[oM];unfold gH;rw[AB rfl];cases KU (Je s).1 v<;>rfl
   rw[hR];cases VL:KU (Je s).1 v with
   |error e =>
    rw[VL,BV]at hF;have:=eQ VL;subst this;simp only[HZ,Ht];generalize B9 ((RT.mk 16 s m c BL).enc [])=DZ at *
    generalize(Je s).1=P at *
    (refine CK func19 ?_;simp only[go_sem,simprocAttr,DD]);(repeat'(first|((first|refine BU hP ?_|refine BU hF ?_);simp only[go_sem,simprocAttr])|fail))
    all_goals rfl
   |ok x =>
    rw[VL,BV]at hF;have hC:=Ą _ x (SK c) (CS _) (uw hg.1 VL) (yH b9) (by have:=uY VL;omega) (by rw[ř];omega);have hS:=mM m (DT x (SK c));rw[hN]at hC;simp only[HZ,Ht];generalize B9 ((RT.mk 16 s m c BL).enc [])=DZ at *
    generalize(Je s).1=P at *
    (refine CK func19 ?_;simp only[go_sem,simprocAttr,DD]);(repeat'(first|((first|refine EG ?_|refine BU hP ?_|refine BU hF ?_|refine DS hC ?_|refine DS hS ?_);simp only[go_sem,simprocAttr])|fail))
  ·have DV:=XJ BL;have GB:=UG BL;have vK:1<=BL.len/\(op≠19->BL.len=2):=by
    obtain⟨a,b⟩:=hc;have:op=17\/op=18\/op=19:=omg;rcases this with rfl|rfl|rfl<;>simp[HU]at h1<;>omega
   have hT:=ł [] op s m c BL omg;have hR:IN (.mk op s m c BL) v=match IL BL with
    |[]=>.ok false
    |h::hs=>match h v with
     |.error e=>.error e
     |.ok a=>if op=19 then .ok (!a)else if a=decide (op=18)then .ok a else match hs with
      |[]=>.ok false
      |h2::_=>h2 v:=by
     rw[oM];unfold gH;rw[AA mj];cases IL BL with
     |nil=>rfl
     |cons a l=>cases l<;>(simp only;cases a v<;>rfl)
   rw[mS]at hR;have CY:∀p∈BL.list,(p.2.enc []).length<=n/\(p.2.enc []).length<=150000000000:=fun p hp=>by
    have:=mi hp;rw[eL p.2 p.1]at this;omega
   have hI:∀p∈BL.list,CA cx 19 [.p (.sl (B9 (p.2.enc []))),.p (.sl (BP (v.enc [])))] [] (.tup [.bool (HZ (IN p.2 v)),.int .i64 (Ht (IN p.2 v))]) []:=fun p hp=>J4i n p.2 (CY p hp).1 (bf.1 h3 p hp) ((h2.1 p hp).1.2 (.inl hc)) (aH hf hp).2 (CY p hp).2 v hg hv
   generalize B9 ((RT.mk op s m c BL).enc [])=DZ at *
   cases GS:BL.list with
   |nil=>rw[GS]at DV;simp only[KM]at DV;omega
   |cons p0 r0 =>
    have I0:=hI p0 (by rw[GS];exact DQ);have g0:(NS BL.list)[0]?=some [.sl (B9 (p0.2.enc []))]:=cR (by rw[GS];rfl);rw[GS,Fc]at hR;simp only at hR;rw[hR];have vD:=AD mj;cases hh:IN p0.2 v with
    |error e =>
     have:=oS _ _ _ _ (CS _) hh;subst this;rw[hh]at I0;simp only[HZ,Ht]at I0⊢;(refine CK func19 ?_;simp only[go_sem,simprocAttr,DD,vD]);(repeat'(first|((first|refine BU hT ?_|refine BU I0 ?_);simp only[go_sem,simprocAttr,g0])|fail))
     all_goals rfl
    |ok a =>
     rw[hh]at I0;simp only[HZ,Ht]at I0;by_cases vL:op=19
     ·subst vL;change CA cx _ _ _ (.tup [.bool (!a),.int .i64 0]) _;(refine CK func19 ?_;simp only[go_sem,simprocAttr,DD]);(repeat'(first|((first|refine BU hT ?_|refine BU I0 ?_);simp only[go_sem,simprocAttr,g0])|fail))
      all_goals rfl
     ·have Ś:op=17\/op=18:=by obtain⟨x,y⟩:=hc;omega
      cases r0 with
      |nil =>
       have:=vK.2 vL;rw[GS]at DV;simp only[DH,KM]at DV;omega
      |cons p1 r1 =>
       have I1:=hI p1 (by rw[GS];exact EW _ DQ);have g1:(NS BL.list)[1]?=some [.sl (B9 (p1.2.enc []))]:=cR (by rw[GS];rfl);rcases Ś with rfl|rfl
       ·cases a with
        |false =>
         change CA cx _ _ _ (.tup [.bool false,.int .i64 0]) _;(refine CK func19 ?_;simp only[go_sem,simprocAttr,DD]);(repeat'(first|((first|refine BU hT ?_|refine BU I0 ?_);simp only[go_sem,simprocAttr,g0])|fail))
         all_goals rfl
        |true =>
         change CA cx _ _ _ (.tup [.bool (HZ (IN p1.2 v)),.int .i64 (Ht (IN p1.2 v))]) _;(refine CK func19 ?_;simp only[go_sem,simprocAttr,DD]);(repeat'(first|((first|refine BU hT ?_|refine BU I0 ?_|refine BU I1 ?_);simp only[go_sem,simprocAttr,g0,g1])|fail))
         all_goals rfl
       ·cases a with
        |true =>
         change CA cx _ _ _ (.tup [.bool true,.int .i64 0]) _;(refine CK func19 ?_;simp only[go_sem,simprocAttr,DD]);(repeat'(first|((first|refine BU hT ?_|refine BU I0 ?_);simp only[go_sem,simprocAttr,g0])|fail))
         all_goals rfl
        |false =>
         change CA cx _ _ _ (.tup [.bool (HZ (IN p1.2 v)),.int .i64 (Ht (IN p1.2 v))]) _;(refine CK func19 ?_;simp only[go_sem,simprocAttr,DD]);(repeat'(first|((first|refine BU hT ?_|refine BU I0 ?_|refine BU I1 ?_);simp only[go_sem,simprocAttr,g0,g1])|fail))
         all_goals rfl
def ś(l:List BM):ER (l.drop n)<=ER l:=by
 conv=>rhs;rw[<-PO n l,eX]
 omega
def Ŝ(l:List BM):ER (l.eraseIdx n)<=ER l:=by
 rw[List.eraseIdx_eq_take_drop_succ,eX]
 conv=>rhs;rw[<-PO n l,eX]
 have:=ś 1 (l.drop n);rw[JO]at this;omega
def vM:∀{p:List CD} {t:BM} {e:Nat},FN p t=.error e->e=5
 |[],t,e,h=>by rw[FN]at h;cases h
 |x::p,t,e,h=>by
  rw[FN]at h;split at h
  ·cases h
  ·cases hi:KS t x with
   |error er =>
    rw[hi]at h;simp only at h;split at h
    ·cases h
    ·cases h;rfl
   |ok u =>
    rw[hi]at h;simp only at h;split at h
    ·cases h
    ·cases hd:FN p u with
     |error er=>rw[hd]at h;cases h;exact vM hd
     |ok w=>rw[hd]at h;simp only[GL,hi]at h;cases h
def Kgc(ht:GT t)(h:KS t x=.ok u):GT (gG t x)/\((gG t x).enc []).length<=(t.enc []).length:=by
 have hk:=cV ht;have DI:=QH t;obtain⟨k,s,g,e,BL⟩:=t;cases hp:x.part with
 |true =>
  have e1:gG (.mk k s g e BL) x=CG ((CV (.mk k s g e BL)).eraseIdx x.n.toNat):=AB hp;rw[e1];refine⟨bl fun y hy=>hk y ((List.eraseIdx_sublist _ _).subset hy),?_⟩;rw[ZP];have:=Ŝ x.n.toNat (CV (.mk k s g e BL));omega
 |false =>
  have e1:gG (.mk k s g e BL) x=nd k (A8 x.name BL.list):=AA (by rw[hp];decide);rw[e1];by_cases k6:k=6
  ·subst k6;refine⟨oR (EJ.kept ((Lu.1 ht.1).2.1.2.2 rfl) _) fun p hp=>aG ht (ed hp).1,?_⟩;unfold nd;rw[A6,A6,DH,DH];have:=El x.name BL;omega
  ·rw[Iw hp k6]at h;cases h
def vN:∀{p:List CD} {t w:BM},GT t->FN p t=.ok w->GT w/\(w.enc []).length<=(t.enc []).length
 |[],t,w,ht,h=>by
  rw[FN]at h;cases h;refine⟨gK,?_⟩;rw[gD];exact Et t []
 |x::p,t,w,ht,h=>by
  rw[FN]at h;split at h
  ·cases h;exact⟨ht,CS _⟩
  ·cases hi:KS t x with
   |error er =>
    rw[hi]at h;simp only at h;split at h
    ·cases h;exact⟨ht,CS _⟩
    ·cases h
   |ok u =>
    rw[hi]at h;simp only at h;split at h
    ·cases h;exact Kgc ht hi
    ·cases hd:FN p u with
     |error er=>rw[hd]at h;cases h
     |ok w' =>
      rw[hd]at h;simp only at h;have hu:GT u:=⟨Ig ht.1 (Jv ht.1 hi),ô ht.2 hi⟩
      obtain⟨h1,h2⟩:=vN hu hd;have hs:=h;obtain⟨w2,a1,a2,a3,a4,a5,a6⟩:=Kg ht.1 h1.1 h;have:w2=u:=by simp only[JX,hi]at a1;cases a1;rfl
      subst this;exact⟨⟨a4,Jdv ht.1 h1.1 ht.2 h1.2 hs⟩,omg⟩
def Kbu(s:List UInt8)(g:Bool)(e:Int)(BL:BO)(j:Nat)(p:List CD)(hp:p.length<=1000)(GZ:∀y∈p,Bc y)(hg:GT (.mk 5 s g e BL))(hv:((BM.mk 5 s g e BL).enc []).length<=150000000000)(GQ:Bc ⟨true,[],(j:Int)⟩)(ih:∀u,GT u->(u.enc []).length<=150000000000->CA cx 23 [.p (.sl (Bb p)),.p (.sl (BP (u.enc [])))] [] (BV (FN p u)) []) :
  CA cx 23 [.p (.sl (Bb (⟨true,[],j⟩::p))),.p (.sl (BP ((BM.mk 5 s g e BL).enc [])))] [] (BV (FN (⟨true,[],j⟩::p) (.mk 5 s g e BL))) []:=by
 have EH:(Bb (⟨true,[],j⟩::p))[0]?=some [.bool true,.str [],.int .i64 j]:=rfl;have Lt:∀q∈Bb (⟨true,[],(j:Int)⟩::p),q.length=3:=by
  intro q hq;obtain⟨y,_,rfl⟩:=FB.1 hq;rfl
 have VX:(Bb (⟨true,[],j⟩::p)).drop 1=Bb p:=rfl;have GH:(⟨true,[],(j:Int)⟩::p:List CD).length=p.length+1:=rfl;have DR:(Bb p).take p.length=Bb p:=DK (by rw[Aq];exact CS _);have hN:=Ğ 5 s g e BL de;have hP:=uv (.mk 5 s g e BL) omg;have hF:=Jxy (.mk 5 s g e BL) [] omg;rw[show eP (.mk 5 s g e BL) []=none from rfl,Oo]at hF;have ES:=Cc [] 5 s g e BL;have OA:=cV hg;have DI:=QH (.mk 5 s g e BL);have HI:=SN (CV (.mk 5 s g e BL));have DV:(CV (.mk 5 s g e BL)).length=BL.list.length:=HM ..
 have hR:FN (⟨true,[],j⟩::p) (.mk 5 s g e BL)=match BL.list[j]? with
   |none=>.ok (.mk 5 s g e BL)
   |some q=>if p=[]then .ok (CG ((CV (.mk 5 s g e BL)).eraseIdx j))else match FN p q.2 with
    |.error e=>.error e
    |.ok w=>GL [⟨true,[],j⟩] (.mk 5 s g e BL) w:=by
  have h5:KS (.mk 5 s g e BL) ⟨true,[],(j:Int)⟩=match BL.list[j]? with
   |some p=>.ok p.2
   |none=>.error 6:=Tm rfl
  have hk:¬(BM.mk 5 s g e BL).kind=0:=(by decide:¬(5:Int)=0)
  rw[FN,AA hk,h5];cases BL.list[j]? with
  |none=>rfl
  |some q =>
   simp only;by_cases SW:p=[]
   ·rw[AB SW,AB SW];rfl
   ·rw[AA SW,AA SW];cases FN p q.2<;>rfl
 rw[hR];cases kN:BL.list[j]? with
 |none =>
  have c1:((BL.list.length:Int)<=(j:Int))=True:=AE (by have:=List.getElem?_eq_none_iff.1 kN;omega);simp only[BV];generalize BP ((BM.mk 5 s g e BL).enc [])=V at *
  (refine CK func23 ?_;simp only[go_sem,simprocAttr,Aq,ES,GH]);(repeat'(first|(apply BY<;>intro h)|((first|refine EG ?_|refine BU hN ?_|refine BU hP ?_);simp only[go_sem,simprocAttr,EH,ES])|(exfalso;omega)));refine CL.loop (fun _:Unit=>⟨Ba 150 [(0,.p (.sl (Bb (⟨true,[],(j:Int)⟩::p)))),(1,.p (.sl V)),(6,.p (.sl [])),(7,.p (.sl (CQ (CV (.mk 5 s g e BL))))),(8,.p (.int .i64 j)),(9,.p (.int .i64 0))],[]⟩) (fun _=>True) (fun _=>0) () CH trivial ?_;rintro _ _;(refine CC ?_;simp only[go_sem,simprocAttr,EH]);(repeat'(first|((refine BU hF ?_);simp only[go_sem,simprocAttr,EH,FZ,DV,c1])|fail))
 |some q =>
  have BZ:j<BL.list.length:=(DX.1 kN).1;have c1:((BL.list.length:Int)<=(j:Int))=False:=AD omg;have hq:(CV (.mk 5 s g e BL))[j]?=some q.2:=by
   show(BL.list.map (·.2))[j]?=_;rw[Eam,kN];rfl
  have vO:=RW hq;have ŝ:=D4 hq;have hqs:=WA ŝ;cases p with
  |nil =>
   have hL:=cT ((CV (.mk 5 s g e BL)).eraseIdx j) (by have:=Ŝ j (CV (.mk 5 s g e BL));omega);simp only[if_true,BV];generalize BP ((BM.mk 5 s g e BL).enc [])=V at *
   have eo:=oO (CV (.mk 5 s g e BL));have htd:(CQ (CV (.mk 5 s g e BL))).take j++(CQ (CV (.mk 5 s g e BL))).drop (j+1)=CQ ((CV (.mk 5 s g e BL)).eraseIdx j):=by
    rw[<-List.eraseIdx_eq_take_drop_succ];simp only[CQ,List.eraseIdx_eq_take_drop_succ,Ry,aP,nH]
   have Ş:∀q∈(CQ (CV (.mk 5 s g e BL))).take j,q.length=1:=fun q hq=>eo q (UL hq)
   have ş:∀q∈(CQ (CV (.mk 5 s g e BL))).drop (j+1),q.length=1:=fun q hq=>eo q (OR hq)
   have IX:((CQ (CV (.mk 5 s g e BL))).take j).length=j:=by rw[GF,FZ];omega
   have ZJ:((CQ (CV (.mk 5 s g e BL))).drop (j+1)).length=(CV (.mk 5 s g e BL)).length-(j+1):=by rw[KO,FZ]
   have yr:((CV (.mk 5 s g e BL)).eraseIdx j).length=(CV (.mk 5 s g e BL)).length-1:=by rw[nK,AB omg]
   have hl5:j+((CV (.mk 5 s g e BL)).length-(j+1))=(CV (.mk 5 s g e BL)).length-1:=omg;have Ux:(CQ ((CV (.mk 5 s g e BL)).eraseIdx j)).take ((CV (.mk 5 s g e BL)).length-1)=CQ ((CV (.mk 5 s g e BL)).eraseIdx j):=DK (by rw[FZ];omega);have w1:IntKind.i64.wrap ((j:Int)+1)=((j+1:Nat):Int):=by rw[Aa omg omg];omega
   generalize CV (.mk 5 s g e BL)=K at *
   generalize BL.list.length=N at *
   subst DV;(refine CK func23 ?_;simp only[go_sem,simprocAttr,Aq,ES]);(repeat'(first|((first|refine EG ?_|refine BU hN ?_|refine BU hP ?_);simp only[go_sem,simprocAttr,EH,ES])|fail));refine CL.loop (fun _:Unit=>⟨Ba 150 [(0,.p (.sl (Bb [⟨true,[],(j:Int)⟩]))),(1,.p (.sl V)),(6,.p (.sl [])),(7,.p (.sl (CQ K))),(8,.p (.int .i64 j)),(9,.p (.int .i64 0))],[]⟩) (fun _=>True) (fun _=>0) () CH trivial ?_;rintro _ _;(refine CC ?_;simp only[go_sem,simprocAttr,EH]);(repeat'(first|((refine BU hF ?_);simp only[go_sem,simprocAttr,Aq,EH,FZ,c1])|fail));refine tD (qj 1 4 5 9) [1,2,3,5,6,7,8] (.node 0 (.node 4 (.node 9 (.node 10 .leaf .nil) .nil) .nil) .nil) 4 hm rfl kr kr ?_;simp only[go_sem,simprocAttr,FZ,w1,htd,Ux,IX,ZJ,yr,hl5,CS];(repeat'(first|(refine And.intro (by first|exact eo|exact Ş|exact ş|(simp;done)|(simp;omega)|omega) ?_)|((refine BU hL ?_);simp only[go_sem,simprocAttr])|fail))
  |cons y p =>
   have hI:=ih q.2 (OA _ ŝ) omg;have IX:(y::p).length=p.length+1:=rfl;have c2:((1:Int)<((p.length+1+1:Nat):Int))=True:=AE omg;simp only[reduceCtorEq,if_false];cases hd:FN (y::p) q.2 with
   |error er =>
    rw[hd,BV]at hI;have:=vM hd;subst this;simp only[BV];generalize BP ((BM.mk 5 s g e BL).enc [])=V at *
    (refine CK func23 ?_;simp only[go_sem,simprocAttr,Aq,ES,GH,IX]);(repeat'(first|(apply BY<;>intro h)|((first|refine EG ?_|refine BU hN ?_|refine BU hP ?_);simp only[go_sem,simprocAttr,EH,ES])|(exfalso;omega)));refine CL.loop (fun _:Unit=>⟨Ba 150 [(0,.p (.sl (Bb (⟨true,[],(j:Int)⟩::y::p)))),(1,.p (.sl V)),(6,.p (.sl [])),(7,.p (.sl (CQ (CV (.mk 5 s g e BL))))),(8,.p (.int .i64 j)),(9,.p (.int .i64 0))],[]⟩) (fun _=>True) (fun _=>0) () CH trivial ?_;rintro _ _;(refine CC ?_;simp only[go_sem,simprocAttr,EH]);(repeat'(first|refine And.intro Lt ?_|refine EA ?_|((first|refine EG ?_|refine BU hF ?_|refine DS hI ?_);simp only[go_sem,simprocAttr,Aq,EH,GH,IX,FZ,DV,c1,c2,vO,VX])|fail))
   |ok w =>
    rw[hd,BV]at hI;have hw:=vN (OA _ ŝ) hd;have hS:=Tk [⟨true,[],(j:Int)⟩] (.mk 5 s g e BL) w sm (fun x hx=>by simp only[DN,Ebj,or_false]at hx;subst hx;exact GQ) hg.1 hg.2 hw.1.1 omg;have NN:(Bb (⟨true,[],(j:Int)⟩::y::p)).take 1=Bb [⟨true,[],(j:Int)⟩]:=rfl;simp only;rw[LF]at hS⊢;generalize BP ((BM.mk 5 s g e BL).enc [])=V at *
    (refine CK func23 ?_;simp only[go_sem,simprocAttr,Aq,ES,GH,IX]);(repeat'(first|(apply BY<;>intro h)|((first|refine EG ?_|refine BU hN ?_|refine BU hP ?_);simp only[go_sem,simprocAttr,EH,ES])|(exfalso;omega)));refine CL.loop (fun _:Unit=>⟨Ba 150 [(0,.p (.sl (Bb (⟨true,[],(j:Int)⟩::y::p)))),(1,.p (.sl V)),(6,.p (.sl [])),(7,.p (.sl (CQ (CV (.mk 5 s g e BL))))),(8,.p (.int .i64 j)),(9,.p (.int .i64 0))],[]⟩) (fun _=>True) (fun _=>0) () CH trivial ?_;rintro _ _;(refine CC ?_;simp only[go_sem,simprocAttr,EH]);(repeat'(first|refine And.intro Lt ?_|refine EA ?_|((first|refine EG ?_|refine BU hF ?_|refine DS hI ?_|refine BU hS ?_);simp only[go_sem,simprocAttr,Aq,EH,GH,IX,FZ,DV,c1,c2,vO,VX,NN])|fail))
def TX(name:List UInt8)(l:List KT):Nat->Nat
 |0=>0
 |i+1=>match l[i]? with
  |some q=>if q.1=name then i else TX name l i
  |none=>TX name l i
def yu{q:KT}(h:l[i]?=some q)(hn:q.1=name):TX name l (i+1)=i:=by rw[TX,h];exact AB hn
def vP{q:KT}(h:l[i]?=some q)(hn:q.1≠name):TX name l (i+1)=TX name l i:=by rw[TX,h];exact AA hn
def Kd7{name:List UInt8}{l:List KT}:∀n,TX name l n<=n
 |0=>CS _
 |n+1=>by
  have:=Kd7 (name:=name) (l:=l) n;rw[TX];split
  ·split<;>omega
  ·omega
def J7w{name:List UInt8}{l:List KT}:∀n,n<=l.length->(∃i q,i<n/\l[i]?=some q/\q.1=name)->∃q,l[TX name l n]?=some q/\q.1=name
 |0,_,⟨i,q,h,_⟩=>by omega
 |n+1,hn,⟨i,q,h1,h2,h3⟩=>by
  obtain⟨r,hr⟩:∃r,l[n]?=some r:=⟨_,C' omg⟩
  by_cases e:r.1=name
  ·rw[yu hr e];exact⟨r,hr,e⟩
  ·rw[vP hr e];refine J7w n omg ⟨i,q,?_,h2,h3⟩;rcases fI i n with h|h
   ·exact h
   ·exfalso;obtain rfl:i=n:=omg;rw[hr]at h2;cases h2;exact e h3
def Š:∀{l:List KT},(l.map (·.1)).Nodup->∀{q:KT},q∈l->Ch q.1 l=some q.2
 |[],_,q,h=>by cases h
 |p::l,hn,q,h=>by
  rw[Fc,UO]at hn;rw[Ch];rcases DN.1 h with rfl|h
  ·exact AB rfl
  ·rw[AA (fun e=>hn.1 (by rw[e];exact FB.2 ⟨q,h,rfl⟩))];exact Š hn.2 h
def Kam(s:List UInt8)(g:Bool)(e:Int)(BL:BO)(nm:List UInt8)(p:List CD)(hp:p.length<=1000)(GZ:∀y∈p,Bc y)(hg:GT (.mk 6 s g e BL))(hv:((BM.mk 6 s g e BL).enc []).length<=150000000000)(GQ:Bc ⟨false,nm,0⟩)(ih:∀u,GT u->(u.enc []).length<=150000000000->CA cx 23 [.p (.sl (Bb p)),.p (.sl (BP (u.enc [])))] [] (BV (FN p u)) []) :
  CA cx 23 [.p (.sl (Bb (⟨false,nm,0⟩::p))),.p (.sl (BP ((BM.mk 6 s g e BL).enc [])))] [] (BV (FN (⟨false,nm,0⟩::p) (.mk 6 s g e BL))) []:=by
 have EH:(Bb (⟨false,nm,0⟩::p))[0]?=some [.bool false,.str nm,.int .i64 0]:=rfl;have Lt:∀q∈Bb (⟨false,nm,0⟩::p),q.length=3:=by
  intro q hq;obtain⟨y,_,rfl⟩:=FB.1 hq;rfl
 have VX:(Bb (⟨false,nm,0⟩::p)).drop 1=Bb p:=rfl;have GH:(⟨false,nm,0⟩::p:List CD).length=p.length+1:=rfl;have DR:(Bb p).take p.length=Bb p:=DK (by rw[Aq];exact CS _);have h9:((BM.mk 6 s g e BL).enc []).length=BL.enc.length+1:=by rw[A6,DH]
 have hN:=Ir [] s g e BL omg;have hP:=uv (.mk 6 s g e BL) omg;have hF:=Jxy (.mk 6 s g e BL) nm omg;rw[show eP (.mk 6 s g e BL) nm=Ch nm BL.list from rfl]at hF;have ES:=Cc [] 6 s g e BL;have OA:=cV hg;have DI:=QH (.mk 6 s g e BL);have HI:=SN (CV (.mk 6 s g e BL));have DV:(CV (.mk 6 s g e BL)).length=BL.list.length:=HM ..
 have gL:EJ BL.list:=(Lu.1 hg.1).2.1.2.2 rfl;have h6:KS (.mk 6 s g e BL) ⟨false,nm,0⟩=match Ch nm BL.list with
  |some t=>.ok t
  |none=>.error 6:=Tp rfl
 have hk:¬(BM.mk 6 s g e BL).kind=0:=(by decide:¬(6:Int)=0)
 have hR:FN (⟨false,nm,0⟩::p) (.mk 6 s g e BL)=match Ch nm BL.list with
   |none=>.ok (.mk 6 s g e BL)
   |some u=>if p=[]then .ok (nd 6 (A8 nm BL.list))else match FN p u with
    |.error e=>.error e
    |.ok w=>GL [⟨false,nm,0⟩] (.mk 6 s g e BL) w:=by
  rw[FN,AA hk,h6];cases Ch nm BL.list with
  |none=>rfl
  |some u =>
   simp only;by_cases SW:p=[]
   ·rw[AB SW,AB SW];rfl
   ·rw[AA SW,AA SW];cases FN p u<;>rfl
 rw[hR];have IB:=A9 BL.list;have VW:=Kd7 (name:=nm) (l:=BL.list) BL.list.length;cases hf:Ch nm BL.list with
 |none =>
  rw[hf,Oo]at hF;simp only[BV];generalize BP ((BM.mk 6 s g e BL).enc [])=V at *
  (refine CK func23 ?_;simp only[go_sem,simprocAttr,Aq,ES,GH]);(repeat'(first|(apply BY<;>intro h)|((first|refine EG ?_|refine BU hN ?_|refine BU hP ?_);simp only[go_sem,simprocAttr,EH,ES])|(exfalso;omega)));refine CL.loop (fun i:Nat=>⟨Ba 150 [(0,.p (.sl (Bb (⟨false,nm,0⟩::p)))),(1,.p (.sl V)),(6,.p (.sl (Bd BL.list))),(7,.p (.sl (CQ (CV (.mk 6 s g e BL))))),(8,.p (.int .i64 (TX nm BL.list i))),(9,.p (.int .i64 i))],[]⟩) (fun i=>i<=BL.list.length) (fun i=>BL.list.length-i) 0 (by rw[show TX nm BL.list 0=0 from rfl];exact CH) (EK _) ?_;rintro i hi;by_cases BZ:i<BL.list.length
  ·have c1:((i:Int)<(BL.list.length:Int))=True:=AE omg;obtain⟨q,hq⟩:∃q,BL.list[i]?=some q:=⟨_,C' BZ⟩
   have JY:=fz hq;have PY:q.1≠nm:=fun h=>by
    have:=Š gL.nodup (D4 hq);rw[h,hf]at this;cases this
   have DA:=AD PY;have QX:=vP hq PY;(refine CC ?_;simp only[go_sem,simprocAttr,IB,c1,DM (i:=i) omg]);(repeat'(first|((refine EG ?_);simp only[go_sem,simprocAttr,EH,JY,DA,DM (i:=i) omg])|fail))
   all_goals exact⟨i+1,omg,omg,by rw[QX];exact CH⟩
  ·obtain rfl:i=BL.list.length:=omg;have c1:((BL.list.length:Int)<(BL.list.length:Int))=False:=AD omg;(refine CC ?_;simp only[go_sem,simprocAttr,EH,IB,c1]);(repeat'(first|((refine BU hF ?_);simp only[go_sem,simprocAttr,EH])|fail))
 |some u =>
  rw[hf,Oo]at hF;obtain⟨q,nZ,hq2,hq3⟩:=H2 hf;obtain⟨iq,hiq⟩:=WE nZ;obtain⟨r,Zk,MH⟩:=J7w (name:=nm) (l:=BL.list) BL.list.length (CS _) ⟨iq,q,(DX.1 hiq).1,hiq,hq3⟩;have hru:r.2=u:=by
   have:=Š gL.nodup (D4 Zk);rw[MH,hf]at this;cases this;rfl
  have XN:(CV (.mk 6 s g e BL))[TX nm BL.list BL.list.length]?=some u:=by
   show(BL.list.map (·.2))[_]?=_;rw[Eam,Zk,<-hru];rfl
  have vO:=RW XN;have š:=D4 XN;have bW:=WA š;cases p with
  |nil =>
   have hW:=Jy6 [] s g e BL nm omg;rw[show BM.mk 6 [] false 0 (A1 (A8 nm BL.list))=nd 6 (A8 nm BL.list)from rfl]at hW;simp only[if_true,BV];generalize BP ((nd 6 (A8 nm BL.list)).enc [])=R at *
   generalize BP ((BM.mk 6 s g e BL).enc [])=V at *
   (refine CK func23 ?_;simp only[go_sem,simprocAttr,Aq,ES]);(repeat'(first|((first|refine EG ?_|refine BU hN ?_|refine BU hP ?_);simp only[go_sem,simprocAttr,EH,ES])|fail));refine CL.loop (fun i:Nat=>⟨Ba 150 [(0,.p (.sl (Bb [⟨false,nm,0⟩]))),(1,.p (.sl V)),(6,.p (.sl (Bd BL.list))),(7,.p (.sl (CQ (CV (.mk 6 s g e BL))))),(8,.p (.int .i64 (TX nm BL.list i))),(9,.p (.int .i64 i))],[]⟩) (fun i=>i<=BL.list.length) (fun i=>BL.list.length-i) 0 (by rw[show TX nm BL.list 0=0 from rfl];exact CH) (EK _) ?_;rintro i hi;by_cases BZ:i<BL.list.length
   ·have c1:((i:Int)<(BL.list.length:Int))=True:=AE omg;obtain⟨q,hq⟩:∃q,BL.list[i]?=some q:=⟨_,C' BZ⟩
    have JY:=fz hq;by_cases PY:q.1=nm
    ·have DA:=AE PY;have QX:=yu hq PY;(refine CC ?_;simp only[go_sem,simprocAttr,IB,c1,DM (i:=i) omg]);(repeat'(first|((refine EG ?_);simp only[go_sem,simprocAttr,EH,JY,DA,DM (i:=i) omg])|fail))
     all_goals exact⟨i+1,omg,omg,by rw[QX];exact CH⟩
    ·have DA:=AD PY;have QX:=vP hq PY;(refine CC ?_;simp only[go_sem,simprocAttr,IB,c1,DM (i:=i) omg]);(repeat'(first|((refine EG ?_);simp only[go_sem,simprocAttr,EH,JY,DA,DM (i:=i) omg])|fail))
     all_goals exact⟨i+1,omg,omg,by rw[QX];exact CH⟩
   ·obtain rfl:i=BL.list.length:=omg;have c1:((BL.list.length:Int)<(BL.list.length:Int))=False:=AD omg;(refine CC ?_;simp only[go_sem,simprocAttr,EH,IB,c1]);(repeat'(first|((first|refine BU hF ?_|refine BU hW ?_);simp only[go_sem,simprocAttr,Aq,EH])|fail))
  |cons y p =>
   have hI:=ih u (OA _ š) omg;have IX:(y::p).length=p.length+1:=rfl;have c2:((1:Int)<((p.length+1+1:Nat):Int))=True:=AE omg;simp only[reduceCtorEq,if_false];cases hd:FN (y::p) u with
   |error er =>
    rw[hd,BV]at hI;have:=vM hd;subst this;simp only[BV];generalize BP ((BM.mk 6 s g e BL).enc [])=V at *
    (refine CK func23 ?_;simp only[go_sem,simprocAttr,Aq,ES,GH,IX]);(repeat'(first|(apply BY<;>intro h)|((first|refine EG ?_|refine BU hN ?_|refine BU hP ?_);simp only[go_sem,simprocAttr,EH,ES])|(exfalso;omega)));refine CL.loop (fun i:Nat=>⟨Ba 150 [(0,.p (.sl (Bb (⟨false,nm,0⟩::y::p)))),(1,.p (.sl V)),(6,.p (.sl (Bd BL.list))),(7,.p (.sl (CQ (CV (.mk 6 s g e BL))))),(8,.p (.int .i64 (TX nm BL.list i))),(9,.p (.int .i64 i))],[]⟩) (fun i=>i<=BL.list.length) (fun i=>BL.list.length-i) 0 (by rw[show TX nm BL.list 0=0 from rfl];exact CH) (EK _) ?_;rintro i hi;by_cases BZ:i<BL.list.length
    ·have c1:((i:Int)<(BL.list.length:Int))=True:=AE omg;obtain⟨q,hq⟩:∃q,BL.list[i]?=some q:=⟨_,C' BZ⟩
     have JY:=fz hq;by_cases PY:q.1=nm
     ·have DA:=AE PY;have QX:=yu hq PY;(refine CC ?_;simp only[go_sem,simprocAttr,IB,c1,DM (i:=i) omg]);(repeat'(first|((refine EG ?_);simp only[go_sem,simprocAttr,EH,JY,DA,DM (i:=i) omg])|fail))
      all_goals exact⟨i+1,omg,omg,by rw[QX];exact CH⟩
     ·have DA:=AD PY;have QX:=vP hq PY;(refine CC ?_;simp only[go_sem,simprocAttr,IB,c1,DM (i:=i) omg]);(repeat'(first|((refine EG ?_);simp only[go_sem,simprocAttr,EH,JY,DA,DM (i:=i) omg])|fail))
      all_goals exact⟨i+1,omg,omg,by rw[QX];exact CH⟩
    ·obtain rfl:i=BL.list.length:=omg;have c1:((BL.list.length:Int)<(BL.list.length:Int))=False:=AD omg;(refine CC ?_;simp only[go_sem,simprocAttr,EH,IB,c1]);(repeat'(first|refine And.intro Lt ?_|refine EA ?_|((first|refine EG ?_|refine BU hF ?_|refine DS hI ?_);simp only[go_sem,simprocAttr,Aq,EH,GH,IX,c2,vO,VX])|fail))
   |ok w =>
    rw[hd,BV]at hI;have hw:=vN (OA _ š) hd;have hS:=Tk [⟨false,nm,0⟩] (.mk 6 s g e BL) w sm (fun x hx=>by simp only[DN,Ebj,or_false]at hx;subst hx;exact GQ) hg.1 hg.2 hw.1.1 omg;have NN:(Bb (⟨false,nm,0⟩::y::p)).take 1=Bb [⟨false,nm,0⟩]:=rfl;simp only;rw[LF]at hS⊢;generalize BP ((BM.mk 6 s g e BL).enc [])=V at *
    (refine CK func23 ?_;simp only[go_sem,simprocAttr,Aq,ES,GH,IX]);(repeat'(first|(apply BY<;>intro h)|((first|refine EG ?_|refine BU hN ?_|refine BU hP ?_);simp only[go_sem,simprocAttr,EH,ES])|(exfalso;omega)));refine CL.loop (fun i:Nat=>⟨Ba 150 [(0,.p (.sl (Bb (⟨false,nm,0⟩::y::p)))),(1,.p (.sl V)),(6,.p (.sl (Bd BL.list))),(7,.p (.sl (CQ (CV (.mk 6 s g e BL))))),(8,.p (.int .i64 (TX nm BL.list i))),(9,.p (.int .i64 i))],[]⟩) (fun i=>i<=BL.list.length) (fun i=>BL.list.length-i) 0 (by rw[show TX nm BL.list 0=0 from rfl];exact CH) (EK _) ?_;rintro i hi;by_cases BZ:i<BL.list.length
    ·have c1:((i:Int)<(BL.list.length:Int))=True:=AE omg;obtain⟨q,hq⟩:∃q,BL.list[i]?=some q:=⟨_,C' BZ⟩
     have JY:=fz hq;by_cases PY:q.1=nm
     ·have DA:=AE PY;have QX:=yu hq PY;(refine CC ?_;simp only[go_sem,simprocAttr,IB,c1,DM (i:=i) omg]);(repeat'(first|((refine EG ?_);simp only[go_sem,simprocAttr,EH,JY,DA,DM (i:=i) omg])|fail))
      all_goals exact⟨i+1,omg,omg,by rw[QX];exact CH⟩
     ·have DA:=AD PY;have QX:=vP hq PY;(refine CC ?_;simp only[go_sem,simprocAttr,IB,c1,DM (i:=i) omg]);(repeat'(first|((refine EG ?_);simp only[go_sem,simprocAttr,EH,JY,DA,DM (i:=i) omg])|fail))
      all_goals exact⟨i+1,omg,omg,by rw[QX];exact CH⟩
    ·obtain rfl:i=BL.list.length:=omg;have c1:((BL.list.length:Int)<(BL.list.length:Int))=False:=AD omg;(refine CC ?_;simp only[go_sem,simprocAttr,EH,IB,c1]);(repeat'(first|refine And.intro Lt ?_|refine EA ?_|((first|refine EG ?_|refine BU hF ?_|refine DS hI ?_|refine BU hS ?_);simp only[go_sem,simprocAttr,Aq,EH,GH,IX,c2,vO,VX,NN])|fail))
def J13:∀(rs:List Int) (s:List UInt8) (f i:Nat),IV rs->s.drop i=EN rs->s.length<i+f->aE s f i=rs.map FG
 |[],s,0,i,_,_,_=>rfl
 |r::rs,s,0,i,ha,h,hf=>by
  have:=congrArg List.length h;rw[KO,Ki,DC]at this;have:=I4 r;omega
 |[],s,f+1,i,_,h,_=>by
  have hl:=congrArg List.length h;simp[EN]at hl;rw[aE,AA omg];rfl
 |r::rs,s,f+1,i,ha,h,hf=>by
  rw[Ki]at h;obtain⟨h1,_⟩:=Rp ha.head (EN rs);rw[<-h,Ny,Nat.add_zero]at h1;have hp:=I4 r;have hd:s.drop (i+DF s i)=EN rs:=by
   rw[<-JO,h,h1,YL]
  have BZ:i<s.length:=by
   have:=congrArg List.length h;rw[KO,DC]at this;omega
  rw[aE,AB BZ,show max (DF s i) 1=DF s i by omega,J13 rs s f _ ha.tail hd omg,h,h1,List.take_left];rfl
def yv{rs:List Int}(h:IV rs):Oz (EN rs)=rs.map FG:=J13 rs _ _ 0 h rfl omg
def J4x(rs:List Int):(rs.map FG).flatten=EN rs:=rfl
def Kcw(h:valid s=true):valid (Oz s).reverse.flatten=true:=by
 obtain⟨rs,ha,rfl⟩:=Jb.1 h;rw[yv ha,<-List.map_reverse,J4x];exact Jb.2 ⟨_,fun r hr=>ha r (List.mem_reverse.1 hr),rfl⟩
def J9p(h:valid s=true):valid ((Oz s).drop n).flatten=true:=by
 obtain⟨rs,ha,rfl⟩:=Jb.1 h;rw[yv ha,<-nH,J4x];exact Jb.2 ⟨_,fun r hr=>ha r (OR hr),rfl⟩
def Kcg(h:∀f∈es,∀v e,f v=.error e->e=5\/e=6)(v:BM)(e:Nat)(he:(es.headD fun _=>.error 5) v=.error e):e=5\/e=6:=by
 cases es with
 |nil=>cases he;exact .inl rfl
 |cons f fs=>exact h f DQ v e he
def Kd2(h:∀f∈es,∀v e,f v=.error e->e=5\/e=6)(v:BM)(e:Nat)(he:(es.getD 1 fun _=>.error 5) v=.error e):e=5\/e=6:=by
 rw[GU]at he;cases hf:es[1]? with
 |none=>rw[hf]at he;cases he;exact .inl rfl
 |some f=>rw[hf]at he;exact h f (D4 hf) v e he
def Ţ{f:BM->Except Nat BM}:∀{l:List BM} {e:Nat},MX f l=.error e->e=5
 |[],e,h=>by cases h
 |t::l,e,h=>by
  rw[MX]at h;cases hf:f t with
  |error e' =>
   rw[hf]at h;simp only at h;split at h
   ·cases h;rfl
   ·exact Ţ h
  |ok u =>
   rw[hf]at h;cases hk:MX f l with
   |error e'=>rw[hk]at h;cases h;exact Ţ hk
   |ok us=>rw[hk]at h;cases h
def ţ{f:BM->Except Nat BM}:∀{l:List KT} {e:Nat},MY f l=.error e->e=5
 |[],e,h=>by cases h
 |t::l,e,h=>by
  rw[MY]at h;cases hf:f t.2 with
  |error e' =>
   rw[hf]at h;simp only at h;split at h
   ·cases h;rfl
   ·exact ţ h
  |ok u =>
   rw[hf]at h;cases hk:MY f l with
   |error e'=>rw[hk]at h;cases h;exact ţ hk
   |ok us=>rw[hk]at h;cases h
def Kak{b:Bool}{v:BM}(h:VH f b v=.error e):e=5:=by
 unfold VH at h;split at h
 ·split at h
  ·split at h
   ·rename_i h1;cases h;exact ţ h1
   ·cases h
  ·split at h
   ·rename_i h1;cases h;exact Ţ h1
   ·cases h
 ·cases h;rfl
def Ť{obj:Bool}{v:BM}:∀{fs:List (BM->Except Nat BM)} {e:Nat},(∀f∈fs,∀v e,f v=.error e->e=5\/e=6)->N4 obj v fs=.error e->e=5\/e=6
 |[],e,_,h=>by cases h
 |f::fs,e,hf,h=>by
  rw[N4]at h;cases hv:f v with
  |error e' =>
   rw[hv]at h;simp only at h;split at h
   ·cases h;exact hf f DQ v _ hv
   ·exact Ť (fun g hg=>hf g (EW _ hg)) h
  |ok u =>
   rw[hv]at h;cases hk:N4 obj v fs with
   |error e'=>rw[hk]at h;cases h;exact Ť (fun g hg=>hf g (EW _ hg)) hk
   |ok us=>rw[hk]at h;cases h
def J8e{p:List CD}:∀{l:List BM} {e:Nat},KV p l=.error e->e=5
 |[],e,h=>by cases h
 |t::l,e,h=>by
  rw[KV]at h;cases hf:KU p t with
  |error e'=>rw[hf]at h;cases h;exact eQ hf
  |ok u =>
   rw[hf]at h;cases hk:KV p l with
   |error e'=>rw[hk]at h;cases h;exact J8e hk
   |ok us=>rw[hk]at h;cases h
def ť:∀(n:Nat) (f:RT) (v:BM) (e:Nat),(f.enc []).length<=n->EL f v=.error e->e=5\/e=6
 |0,f,v,e,h,_=>by have:=TP f [];omega
 |n+1,.mk op s m c BL,v,e,hl,h=>by
  rw[GM,DH]at hl;have HH:∀f∈FW BL,∀v e,f v=.error e->e=5\/e=6:=fun f hf v e he=>by
   rw[XM]at hf;obtain⟨p,hp,rfl⟩:=FB.1 hf;have:=mi hp;rw[eL p.2 p.1]at this;exact ť n p.2 v e omg he
  rw[uo]at h;unfold KW at h;by_cases o0:op=0
  ·rw[AB o0]at h;cases h
  rw[AA o0]at h;by_cases o1:op=1
  ·rw[AB o1]at h;exact .inl (oH h)
  rw[AA o1]at h;by_cases o2:op=2
  ·rw[AB o2]at h;exact .inl (oH h)
  rw[AA o2]at h;by_cases o3:op=3
  ·rw[AB o3]at h;obtain⟨k,a,b,c',d⟩:=v;have h:(if k=0 then(.ok Es:Except Nat BM)else if k=5 then .ok (CG ((d.list.map (·.2)).drop m.toNat))else if k=4 then .ok (GY ((Oz a).drop m.toNat).flatten)else .error 5)=.error e:=h;split at h
   ·cases h
   ·split at h
    ·cases h
    ·split at h
     ·cases h
     ·cases h;exact .inl rfl
  rw[AA o3]at h;by_cases o5:op=5\/op=6
  ·rw[AB o5]at h;exact .inl (Kak h)
  rw[AA o5]at h;by_cases o8:op=8\/op=9
  ·rw[AB o8]at h;unfold OO at h;split at h
   ·rename_i h1;cases h;exact Ť HH h1
   ·cases h
  rw[AA o8]at h;by_cases ep:op=10
  ·rw[AB ep]at h;unfold Vi at h;split at h
   ·cases h
   ·split at h
    ·cases h
    ·cases h;exact .inl rfl
  rw[AA ep]at h;by_cases ey:op=11
  ·rw[AB ey]at h;unfold Vw at h;split at h
   ·split at h
    ·cases h
    ·cases h;exact .inl rfl
   ·cases h;exact .inl rfl
  rw[AA ey]at h;by_cases ez:op=12\/op=13
  ·rw[AB ez]at h;unfold SL at h;split at h
   ·split at h
    ·rename_i h1;cases h;exact .inl (J8e h1)
    ·cases h
   ·cases h;exact .inl rfl
  rw[AA ez]at h;by_cases fA:op=14
  ·rw[AB fA]at h;obtain⟨k,a,b,c',d⟩:=v;have h:(if k=0 then(.ok (CG []):Except Nat BM)else if k=5 then .ok (CG (d.list.map (·.2)).reverse)else if k=4 then .ok (GY (Oz a).reverse.flatten)else .error 5)=.error e:=h;split at h
   ·cases h
   ·split at h
    ·cases h
    ·split at h
     ·cases h
     ·cases h;exact .inl rfl
  rw[AA fA]at h;by_cases fB:op=15
  ·rw[AB fB]at h;exact .inl (vM h)
  rw[AA fB]at h;by_cases o7:op=7
  ·rw[AB o7,mS]at h;cases GS:BL.list with
   |nil=>rw[GS]at h;cases h;exact .inl rfl
   |cons p r =>
    rw[GS]at h;simp only[Fc,List.headD_cons]at h;cases hh:IN p.2 v with
    |error er =>
     rw[hh]at h;cases h;exact .inl (oS _ p.2 v _ (CS _) hh)
    |ok b =>
     rw[hh]at h;cases b with
     |true=>cases h
     |false=>cases h;exact .inr rfl
  rw[AA o7]at h;cases hh:(FW BL).headD (fun _=>.error 5) v with
  |error er=>rw[hh]at h;cases h;exact Kcg HH v _ hh
  |ok b=>rw[hh]at h;exact Kd2 HH _ _ h
def GW(w:Nat)(t u:BM):Prop:=GT u/\(u.enc []).length<=w*(t.enc []).length
def fC(f:RT):Prop:=∀t u,GT t->(t.enc []).length*FA f<=10^18->EL f t=.ok u->GW (FA f) t u
def GK(p:KT):Prop:=valid p.1=true/\p.1.length<=1000000/\GT p.2
def Ŧ(k:Int)(l:List KT):((nd k l).enc []).length=ER (l.map (·.2))+1:=by
 unfold nd;rw[A6,DH,ej]
def vQ{e:Int}{BL:BO}(h:GT (.mk k s g e BL)):s.length<=1000000/\(k=4->valid s=true):=by
 refine⟨(h.2 ⟨k,BL.len,[],s,g,e⟩ (by rw[A6];exact DQ)).s,fun h4=>?_⟩;have:=(Lu.1 h.1).1;subst h4;simp[G3]at this;exact this.1
def ŧ{f:BM->Except Nat BM}{w:Nat}:∀{l us:List BM},MX f l=.ok us->(∀t∈l,∀u,f t=.ok u->GW w t u)->(∀u∈us,GT u)/\ER us<=w*ER l
 |[],us,h,_=>by
  rw[MX]at h;cases h;exact⟨fun u hu=>(by cases hu),EK _⟩
 |t::l,us,h,hl=>by
  have DB:=fun x hx=>hl x (EW t hx)
  rw[MX]at h;rw[SM,Nat.mul_add];cases hf:f t with
  |error e =>
   rw[hf]at h;simp only at h;split at h
   ·cases h
   ·obtain⟨a,b⟩:=ŧ h DB;exact⟨a,omg⟩
  |ok u =>
   rw[hf]at h;simp only at h;cases hk:MX f l with
   |error e=>rw[hk]at h;cases h
   |ok us' =>
    rw[hk]at h;cases h;obtain⟨a,b⟩:=ŧ hk DB;have hu:=hl t DQ u hf;have h2:=hu.2;refine⟨fun x hx=>?_,by rw[SM];omega⟩;rcases DN.1 hx with rfl|hx
    ·exact hu.1
    ·exact a x hx
def Ũ{f:BM->Except Nat BM}{w:Nat}:∀{l us:List KT},MY f l=.ok us->(∀t∈l,∀u,f t.2=.ok u->GW w t.2 u)->(us.map (·.1)).Sublist (l.map (·.1))/\(∀u∈us,GT u.2)/\ER (us.map (·.2))<=w*ER (l.map (·.2))
 |[],us,h,_=>by
  rw[MY]at h;cases h;exact⟨.slnil,fun u hu=>(by cases hu),EK _⟩
 |t::l,us,h,hl=>by
  have DB:=fun x hx=>hl x (EW t hx)
  rw[MY]at h;rw[Fc,Fc,SM,Nat.mul_add];cases hf:f t.2 with
  |error e =>
   rw[hf]at h;simp only at h;split at h
   ·cases h
   ·obtain⟨c,a,b⟩:=Ũ h DB;exact⟨c.cons _,a,omg⟩
  |ok u =>
   rw[hf]at h;simp only at h;cases hk:MY f l with
   |error e=>rw[hk]at h;cases h
   |ok us' =>
    rw[hk]at h;cases h;obtain⟨c,a,b⟩:=Ũ hk DB;have hu:=hl t DQ u hf;have h2:=hu.2;refine⟨by rw[Fc];exact c.cons_cons _,fun x hx=>?_,by simp only[Fc];rw[SM];omega⟩;rcases DN.1 hx with rfl|hx
    ·exact hu.1
    ·exact a x hx
def Kdm{a b:List KT}(h:(a.map (·.1)).Sublist (b.map (·.1)))(hb:EJ b):EJ a:=by
 unfold EJ at *
 have h1:(b.map (·.1)).Pairwise fun x y=>Op.bytesLess x y=true:=fG.2 hb
 exact fG.1 (h1.sublist h)
def Kbj(hw:1<=w){b:Bool}(ht:GT t)(hl:∀x∈CV t,∀u,f x=.ok u->GW w x u)(h:VH f b t=.ok u):GW w t u:=by
 have DI:=QH t;have hm:w*(t.enc []).length=w*ER (CV t)+w:=by rw[<-DI,Nat.mul_add,XR]
 unfold VH at h;split at h
 ·split at h
  ·rename_i hk;cases II:MY f t.kids.list with
   |error e=>rw[II]at h;cases h
   |ok us =>
    rw[II]at h;cases h;obtain⟨k,s,g,e,BL⟩:=t;obtain⟨_,k6⟩:=hk;have k6:k=6:=k6;subst k6;obtain⟨c,a,b'⟩:=Ũ II (fun q hq u hu=>hl q.2 (FB.2 ⟨q,hq,rfl⟩) u hu);refine⟨oR (Kdm c ((Lu.1 ht.1).2.1.2.2 rfl)) fun p hp=>?_,?_⟩
    ·obtain⟨q,hq,e1⟩:=FB.1 (c.subset (FB.2 ⟨p,hp,rfl⟩));have hg:=aG ht hq;rw[<-e1];exact⟨hg.1,hg.2.1,a p hp⟩
    ·rw[Ŧ,hm];have:ER (us.map (·.2))<=w*ER (CV (.mk 6 s g e BL)):=b';omega
  ·cases II:MX f (CV t)with
   |error e=>rw[II]at h;cases h
   |ok us =>
    rw[II]at h;cases h;obtain⟨a,b'⟩:=ŧ II hl;refine⟨bl a,?_⟩;rw[ZP,hm];omega
 ·cases h
def ũ{obj:Bool}{v:BM}:∀{fs:List (BM->Except Nat BM)} {ws:List Nat} {us:List BM},fs.length=ws.length->(∀p∈fs.zip ws,∀u,p.1 v=.ok u->GW p.2 v u)->N4 obj v fs=.ok us->(∀u∈us,GT u)/\ER us<=ws.sum*(v.enc []).length/\(obj=true->us.length=fs.length)
 |[],ws,us,_,_,h=>by
  rw[N4]at h;cases h;exact⟨fun u hu=>(by cases hu),EK _,fun _=>rfl⟩
 |f::fs,[],us,hn,_,_=>by simp at hn
 |f::fs,w::ws,us,hn,hf,h=>by
  have QU:∀p∈fs.zip ws,∀u,p.1 v=.ok u->GW p.2 v u:=fun p hp=>hf p (by rw[List.zip_cons_cons];exact EW _ hp)
  have cD:fs.length=ws.length:=by simpa using hn
  rw[N4]at h;rw[List.sum_cons,ME];cases hv:f v with
  |error e =>
   rw[hv]at h;simp only at h;split at h
   ·cases h
   ·rename_i he;obtain⟨a,b,c⟩:=ũ cD QU h;exact⟨a,omg,fun ho=>absurd (.inr ho) he⟩
  |ok u =>
   rw[hv]at h;simp only at h;cases hk:N4 obj v fs with
   |error e=>rw[hk]at h;cases h
   |ok us' =>
    rw[hk]at h;cases h;obtain⟨a,b,c⟩:=ũ cD QU hk;have hu:=hf (f,w) (by rw[List.zip_cons_cons];exact DQ) u hv;have h2:=hu.2;simp only at h2;refine⟨fun x hx=>?_,by rw[SM];omega,fun ho=>by rw[DH,DH,c ho]⟩;rcases DN.1 hx with rfl|hx
    ·exact hu.1
    ·exact a x hx
def Khc{p:List UInt8×BM}(ht:GT t)(h:TS t=some p):GK p/\(p.2.enc []).length<=(t.enc []).length:=by
 obtain⟨k,s,g,e,BL⟩:=t;rw[uj]at h;split at h
 ·cases hk:Ch FE BL.list with
  |none=>rw[hk]at h;cases h
  |some u =>
   rw[hk]at h;obtain⟨k',s',g',e',BT⟩:=u;simp only at h;split at h
   ·rename_i k6 k4;cases h;obtain⟨q,hq,e1,e2⟩:=H2 hk;have hg:=(aG ht hq).2.2;rw[e1]at hg;have ml:=vQ hg;refine⟨⟨ml.2 k4,ml.1,?_⟩,?_⟩
    ·show GT ((Ch EY BL.list).getD Es);cases hv:Ch EY BL.list with
     |none=>exact gK
     |some w =>
      obtain⟨r,hr,e3,e4⟩:=H2 hv;rw[Option.getD_some,<-e3];exact(aG ht hr).2.2
    ·show(((Ch EY BL.list).getD Es).enc []).length<=_;rw[A6,DH];cases hv:Ch EY BL.list with
     |none=>rw[Option.getD_none,gD];omega
     |some w =>
      obtain⟨r,hr,e3,e4⟩:=H2 hv;rw[Option.getD_some,<-e3];have:=YE hr;omega
   ·cases h
 ·cases h
def J7d:∀{l:List BM} {GJ en:List KT},(∀t∈l,GT t)->EJ GJ->(∀p∈GJ,GK p)->VG l GJ=some en->EJ en/\(∀p∈en,GK p)/\(A1 en).enc.length<=(A1 GJ).enc.length+ER l
 |[],GJ,en,_,hr,ho,h=>by
  rw[VG]at h;cases h;exact⟨hr,ho,Nat.le_add_right _ _⟩
 |t::l,GJ,en,hl,hr,ho,h=>by
  rw[VG]at h;cases he:TS t with
  |none=>rw[he]at h;cases h
  |some p =>
   rw[he]at h;simp only at h;obtain⟨h1,h2⟩:=Khc (hl t DQ) he;obtain⟨a,b,c⟩:=J7d (fun x hx=>hl x (EW _ hx)) (Kh (hr.kept _) fun q hq=>(ed hq).2) (fun q hq=>by
    rcases Jjz.1 hq with rfl|hq
    ·exact h1
    ·exact ho q (ed hq).1) h
   have h3:=Iv p.1 p.2 (A8 p.1 GJ);have h4:=ĸ p.1 GJ;exact⟨a,b,by rw[SM];omega⟩
def mn(ht:GT t)(hb:(t.enc []).length<=10^18)(h:Vi t=.ok u):GW 3 t u:=by
 have DI:=QH t;have GB:=SN (CV t);obtain⟨k,s,g,e,BL⟩:=t;have DV:(CV (.mk k s g e BL)).length=BL.list.length:=HM ..
 have yw:ER (BL.list.map (·.2))=ER (CV (.mk k s g e BL)):=rfl;unfold Vi at h;split at h
 ·cases h;refine⟨bl fun x hx=>?_,?_⟩
  ·obtain⟨p,hp,rfl⟩:=FB.1 hx;have hg:=aG ht hp;exact J8c (ő hg.1 hg.2.1) hg.2.2
  ·rw[ZP];have:ER (NT BL.list)=2*BL.list.length+ER (CV (.mk k s g e BL)):=yY BL.list;show ER (NT BL.list)+1<=_;omega
 ·split at h
  ·cases h;have GI:∀(l:List KT) (i:Nat),(∀p∈l,GT p.2)->i+l.length<10^20->∀x∈ND i l,GT x:=by
    intro l
    induction l with
    |nil=>intro i _ _ x hx;cases hx
    |cons p l ih =>
     intro i hl hi x hx;rw[ND]at hx;rw[DH]at hi;rcases DN.1 hx with rfl|hx
     ·exact J8c (mg omg) (hl p DQ)
     ·exact ih (i+1) (fun q hq=>hl q (EW _ hq)) omg x hx
   refine⟨bl (GI _ 0 (fun p hp=>(aG ht hp).2.2) (by show 0+BL.list.length<_;omega)),?_⟩;rw[ZP];have:ER (ND 0 BL.list)=2*BL.list.length+ER (CV (.mk k s g e BL)):=yZ BL.list 0;show ER (ND 0 BL.list)+1<=_;omega
  ·cases h
def Kf1(ht:GT t)(h:Vw t=.ok u):GW 1 t u:=by
 have DI:=QH t;unfold Vw at h;split at h
 ·cases hf:VG (CV t) []with
  |none=>rw[hf]at h;cases h
  |some l =>
   rw[hf]at h;cases h;obtain⟨a,b,c⟩:=J7d (cV ht) .nil (fun p hp=>by cases hp) hf;refine⟨oR a b,?_⟩;rw[Ŧ,<-ej];rw[show A1 []=.nil from rfl,Bl,KM]at c;omega
 ·cases h
def Kbg{l:List BM}(h:∀x∈l,GT x)(S:List Nat):∀x∈FV l S,GT x:=fun x hx=>by
 obtain⟨i,_,rfl⟩:=FB.1 hx;unfold HQ;rw[GU];cases hi:l[i]? with
 |none=>exact gK
 |some y=>exact h y (D4 hi)
def Kdz{aC:Bool}(ht:GT t)(h:SL aC s t=.ok u):GW 2 t u:=by
 have DI:=QH t;have hk:=cV ht;unfold SL at h;split at h
 ·cases hf:KV (Je s).1 (CV t)with
  |error e=>rw[hf]at h;cases h
  |ok ks =>
   rw[hf]at h;obtain⟨WB,DV,_⟩:=yX (fun x hx=>(hk x hx).1) hf;cases aC with
   |true =>
    cases h;refine⟨bl fun x hx=>?_,?_⟩
    ·obtain⟨g,_,rfl⟩:=FB.1 hx;exact bl (Kbg hk g)
    ·have:=Į WB DV;show((CG ((Pc ks).map fun g=>CG (FV (CV t) g))).enc []).length<=_;rw[ZP];omega
   |false =>
    cases h;refine⟨bl (Kbg hk _),?_⟩;have:=yV DV;show((CG (FV (CV t) (IJ ks))).enc []).length<=_;rw[ZP];omega
 ·cases h
def Kga(ht:GT t)(h:Lx t=.ok u):GW 1 t u:=by
 have DI:=QH t;have hk:=cV ht;have IZ:=Et t [];obtain⟨k,s,g,e,BL⟩:=t;have ml:=vQ ht;have h:(if k=0 then(.ok (CG []):Except Nat BM)else if k=5 then .ok (CG (CV (.mk k s g e BL)).reverse)else if k=4 then .ok (GY (Oz s).reverse.flatten)else .error 5)=.ok u:=h;split at h
 ·cases h;exact⟨bl fun x hx=>(by cases hx),by rw[ZP,ĭ];omega⟩
 ·split at h
  ·cases h;refine⟨bl fun x hx=>hk x (List.mem_reverse.1 hx),?_⟩;have:ER (CV (.mk k s g e BL)).reverse=ER (CV (.mk k s g e BL)):=by
    unfold ER;rw[List.map_reverse,List.sum_reverse]
   rw[ZP];omega
  ·split at h
   ·rename_i k4;cases h;refine⟨ő (Kcw (ml.2 k4)) ?_,by rw[uz];omega⟩;rw[ĺ,yb];exact ml.1
   ·cases h
def Kei{n:Nat}(ht:GT t)(h:V8 n t=.ok u):GW 1 t u:=by
 have DI:=QH t;have hk:=cV ht;have IZ:=Et t [];obtain⟨k,s,g,e,BL⟩:=t;have ml:=vQ ht;have h:(if k=0 then(.ok Es:Except Nat BM)else if k=5 then .ok (CG ((CV (.mk k s g e BL)).drop n))else if k=4 then .ok (GY ((Oz s).drop n).flatten)else .error 5)=.ok u:=h;split at h
 ·cases h;exact⟨gK,by rw[gD];omega⟩
 ·split at h
  ·cases h;refine⟨bl fun x hx=>hk x (OR hx),?_⟩;have:=ś n (CV (.mk k s g e BL));rw[ZP];omega
  ·split at h
   ·rename_i k4;cases h;refine⟨ő (J9p n (ml.2 k4)) ?_,by rw[uz];omega⟩;have:=Jxv (Oz s) n;rw[yb]at this;omega
   ·cases h
def GW.mono{a b:Nat}(h:GW a t u)(YW:a<=b):GW b t u:=⟨h.1,Nat.le_trans h.2 (M' _ YW)⟩
def yx:∀(n:Nat) (f:RT),(f.enc []).length<=n->UI f->¬KG f.kind->VK f->fC f
 |0,f,h,_,_,_=>by have:=TP f [];omega
 |n+1,.mk op s m c BL,hl,ok,LN,UK=>by
  intro t u ht hb h;obtain⟨h1,h2,h3⟩:=mR.1 ok;have LN:¬KG op:=LN;rw[GM,DH]at hl;have IZ:=Et t [];have DI:=QH t;have HH:∀p∈BL.list,op≠7->fC p.2:=fun p hp o7=>by
   have:=mi hp;rw[eL p.2 p.1]at this;refine yx n p.2 omg (bf.1 h3 p hp) (fun hc=>?_) (aH UK hp).2;rcases(h2.1 p hp).1.1 hc with hc|hc
   ·exact LN hc
   ·exact o7 hc
  have DV:=XJ BL;rw[vH]at hb⊢;rw[uo]at h;unfold KW at h;have gM:GW 1 t t:=⟨ht,omg⟩
  by_cases o4:op=4
  ·subst o4;have VS:BL.len=2:=by simp[HU]at h1;omega
   have h:(match(FW BL).headD (fun _=>.error 5) t with
    |.error e=>.error e
    |.ok x=>((FW BL).getD 1 fun _=>.error 5) x:Except Nat BM)=.ok u:=h
   rw[show wK 4 (J' BL)=(J' BL).headD 1*(J' BL).getD 1 1 from rfl]at hb⊢;rw[bm]at hb⊢;rw[XM]at h;cases GS:BL.list with
   |nil=>rw[GS]at DV;simp at DV;omega
   |cons p0 r0 =>
    cases r0 with
    |nil=>rw[GS]at DV;simp at DV;omega
    |cons p1 r1 =>
     rw[GS]at h hb;have hb:(t.enc []).length*(FA p0.2*FA p1.2)<=10^18:=hb;show GW (FA p0.2*FA p1.2) t u;have h:(match EL p0.2 t with
      |.error e=>.error e
      |.ok x=>EL p1.2 x:Except Nat BM)=.ok u:=h
     have I0:=HH p0 (by rw[GS];exact DQ) de;have I1:=HH p1 (by rw[GS];exact EW _ DQ) de;have w1:=bn p1.2;cases hx:EL p0.2 t with
     |error e=>rw[hx]at h;cases h
     |ok x =>
      rw[hx]at h;have cC:(t.enc []).length*FA p0.2<=10^18:=by
       have:=ZT (t.enc []).length (gQ (FA p0.2) w1);omega
      obtain⟨g0,l0⟩:=I0 t x ht cC hx;have PB:(x.enc []).length*FA p1.2<=10^18:=by
       have:=M' (FA p1.2) l0;rw[UA (FA p0.2),Qm]at this;omega
      obtain⟨g1,l1⟩:=I1 x u g0 PB h;refine⟨g1,Nat.le_trans l1 ?_⟩;have:=ZT (FA p1.2) l0;rw[<-Qm,UA (FA p1.2) (FA p0.2)]at this;exact this
  by_cases o5:op=5\/op=6
  ·have o0:¬op=0/\¬op=1/\¬op=2/\¬op=3/\op≠7:=omg;have WI:BL.len=1:=by rcases o5 with rfl|rfl<;>simp[HU]at h1<;>omega
   rw[AA o0.1,AA o0.2.1,AA o0.2.2.1,AA o0.2.2.2.1,AB o5]at h;unfold wK at hb⊢;rw[AA o4,AB o5]at hb⊢;rw[bm]at hb⊢;rw[XM]at h;cases GS:BL.list with
   |nil=>rw[GS]at DV;simp at DV;omega
   |cons p0 r0 =>
    rw[GS]at h hb;have hb:(t.enc []).length*FA p0.2<=10^18:=hb;show GW (FA p0.2) t u;have I0:=HH p0 (by rw[GS];exact DQ) o0.2.2.2.2;exact Kbj (bn _) ht (fun x hx u hu=>I0 x u (cV ht x hx) (by
     have h5:=WA hx;have:=M' (FA p0.2) (show(x.enc []).length<=(t.enc []).length by omega);omega) hu) h
  by_cases o8:op=8\/op=9
  ·have o0:¬op=0/\¬op=1/\¬op=2/\¬op=3/\op≠7:=omg;rw[AA o0.1,AA o0.2.1,AA o0.2.2.1,AA o0.2.2.2.1,AA o5,AB o8]at h;unfold wK at hb⊢;rw[AA o4,AA o5,AB o8]at hb⊢;rw[bm]at hb⊢;rw[XM]at h;unfold OO at h;cases hx:N4 (decide (op=8)) t (BL.list.map fun p=>EL p.2)with
   |error e=>rw[hx]at h;cases h
   |ok us =>
    rw[hx]at h;obtain⟨a,b,c'⟩:=ũ (ws:=BL.list.map fun p=>FA p.2) (by rw[HM,HM]) (fun q hq u hu=>by
     rw[List.zip_map']at hq;obtain⟨p,hp,rfl⟩:=FB.1 hq;refine HH p hp o0.2.2.2.2 t u ht ?_ hu;have h5:=oP (FB.2 ⟨p,hp,rfl⟩:FA p.2∈BL.list.map fun p=>FA p.2);have:=ZT (t.enc []).length (show FA p.2<=1+(BL.list.map fun p=>FA p.2).sum by omega);omega) hx
    rw[HM]at c';have PH:ER us+1<=(1+(BL.list.map fun p=>FA p.2).sum)*(t.enc []).length:=by rw[ME,YO];omega
    by_cases e8:op=8
    ·subst e8;have h:(.ok (nd 6 (Lp ((BL.list.map (·.1)).zip us))):Except Nat BM)=.ok u:=h;cases h;have VR:=c' rfl;have Q':=Ŗ (a:=BL.list.map (·.1)) (b:=us) (by rw[HM];exact VR.symm);have ZW:=ŗ (a:=BL.list.map (·.1)) (b:=us) (by rw[HM];exact VR.symm);refine⟨oR (Jj (by rw[Q'];exact h2.2.2 rfl)) fun q hq=>?_,?_⟩
     ·have hq:=(E3 _).mem_iff.1 hq;have e1:q.1∈BL.list.map (·.1):=by rw[<-Q'];exact FB.2 ⟨q,hq,rfl⟩
      have e2:q.2∈us:=by rw[<-ZW];exact FB.2 ⟨q,hq,rfl⟩
      obtain⟨p,hp,e3⟩:=FB.1 e1;rw[<-e3];exact⟨(h2.1 p hp).2.2 rfl,(aH UK hp).1,a _ e2⟩
     ·rw[Ŧ,<-ej,Hm (E3 _),ej,ZW];exact PH
    ·have h:(.ok (if decide (op=8)=true then nd 6 (Lp ((BL.list.map (·.1)).zip us))else CG us):Except Nat BM)=.ok u:=h;rw[AA (by rw[AF];exact e8)]at h;cases h;exact⟨bl a,by rw[ZP];exact PH⟩
  have hw:wK op (J' BL)=3:=by unfold wK;rw[AA o4,AA o5,AA o8]
  rw[hw]at hb⊢;by_cases o0:op=0
  ·rw[AB o0]at h;cases h;exact gM.mono omg
  rw[AA o0]at h;by_cases o1:op=1
  ·rw[AB o1]at h;exact⟨Œ ht h,by have:=oG h;omega⟩
  rw[AA o1]at h;by_cases o2:op=2
  ·rw[AB o2]at h;exact⟨Œ ht h,by have:=oG h;omega⟩
  rw[AA o2]at h;by_cases o3:op=3
  ·rw[AB o3]at h;exact(Kei ht h).mono omg
  rw[AA o3,AA o5,AA o8]at h;by_cases ep:op=10
  ·rw[AB ep]at h;exact mn ht omg h
  rw[AA ep]at h;by_cases ey:op=11
  ·rw[AB ey]at h;exact(Kf1 ht h).mono omg
  rw[AA ey]at h;by_cases ez:op=12\/op=13
  ·rw[AB ez]at h;exact(Kdz ht h).mono omg
  rw[AA ez]at h;by_cases fA:op=14
  ·rw[AB fA]at h;exact(Kga ht h).mono omg
  rw[AA fA]at h;by_cases fB:op=15
  ·rw[AB fB]at h;have:=vN ht h;exact⟨this.1,by have:=this.2;omega⟩
  rw[AA fB]at h;by_cases o7:op=7
  ·rw[AB o7]at h;split at h
   ·cases h
   ·split at h
    ·cases h;exact gM.mono omg
    ·cases h
  exfalso;unfold KG at LN;have:∀P:Prop,P->P:=fun _ h=>h
  simp only[HU]at h1
  repeat' split at h1
  all_goals first|exact h1|omega
end Go.LX
