/- Filters, the document's answer: what is left; all of it. -/
import Derived.Test.YtaghbedfogiopaaGreatDoorTxM
import Derived.Shelf.Sort.Plain
import Derived.Shelf.Slices.In.SortNone
set_option linter.all false
set_option maxRecDepth 100000
set_option maxHeartbeats 2000000
namespace Go.LX
open Go Go.RowKit Go.Proofs Go.Proofs.Tryz
attribute [local irreducible] Al CL Bi
variable {x:List PV}{p:List CD}{s:List UInt8}{g:Bool}{e:Int}{BL:BO}{k:Nat}{l:List (List UInt8)}(v:BM)(f:RF)(nm:List UInt8)(rs:List Int)(ns:List (List UInt8))
def J61{x:CD}:FN (x::p) (.mk 0 s g e BL)=.ok (.mk 0 s g e BL):=by rw[FN];exact AB rfl
def J7v{x:CD}{k:Int}(h0:¬k=0)(h:KS (.mk k s g e BL) x=.error 5):FN (x::p) (.mk k s g e BL)=.error 5:=by
 have hk:¬(BM.mk k s g e BL).kind=0:=h0;rw[FN,AA hk,h];rfl
def J1w:∀(p:List CD) (t:BM),p.length<=1000->(∀x∈p,Bc x)->GT t->(t.enc []).length<=150000000000->CA cx 23 [.p (.sl (Bb p)),.p (.sl (BP (t.enc [])))] [] (BV (FN p t)) []
 |[],t,_,_,_,_=>by
  rw[FN,BV];(refine CK func23 ?_;simp only[go_sem,simprocAttr,Aq]);(repeat'(first|((refine BU mP ?_);simp only[go_sem,simprocAttr])|fail))
 |x::p,t,hp,GZ,hg,hv=>by
  rw[DH]at hp;have MP:∀y∈p,Bc y:=fun y hy=>GZ y (EW _ hy)
  have GQ:=GZ x DQ;have ih:=fun u hu hv=>J1w p u omg MP hu hv
  obtain⟨k,s,g,e,BL⟩:=t;have ES:=Cc [] k s g e BL;have EH:(Bb (x::p))[0]?=some [.bool x.part,.str x.name,.int .i64 x.n]:=rfl;have GH:(x::p).length=p.length+1:=rfl;by_cases k0:k=0
  ·subst k0;rw[J61,BV];generalize BP ((BM.mk 0 s g e BL).enc [])=V at *
   (refine CK func23 ?_;simp only[go_sem,simprocAttr,Aq,ES,GH]);(repeat'(first|(apply BY<;>intro h)|(exact True.intro)|(exfalso;omega)))
   all_goals rfl
  ·have e0:=AD k0;obtain⟨b,nm,m⟩:=x;cases b with
   |true =>
    have EH:(Bb (⟨true,nm,m⟩::p))[0]?=some [.bool true,.str nm,.int .i64 m]:=rfl;by_cases k5:k=5
    ·subst k5;obtain⟨h1,h2,h3⟩:=GQ;have h2:0<=m:=h2;obtain⟨j,rfl⟩:∃j:Nat,m=j:=⟨m.toNat,omg⟩
     have h1:nm=[]:=h1;subst h1;exact Kbu s g e BL j p omg MP hg hv ⟨rfl,h2,h3⟩ ih
    ·have e5:=AD k5;have b5:(k==5)=false:=by simp[k5]
     rw[J7v k0 (Iz rfl k5),BV];generalize BP ((BM.mk k s g e BL).enc [])=V at *
     (refine CK func23 ?_;simp only[go_sem,simprocAttr,Aq,ES,GH,e0]);(repeat'(first|(apply BY<;>intro h)|((refine EG ?_);simp only[go_sem,simprocAttr,EH,ES,b5])|(exfalso;omega)))
     all_goals rfl
   |false =>
    have EH:(Bb (⟨false,nm,m⟩::p))[0]?=some [.bool false,.str nm,.int .i64 m]:=rfl;by_cases k6:k=6
    ·subst k6;obtain⟨h1,h2⟩:=GQ;have h1:m=0:=h1;subst h1;exact Kam s g e BL nm p omg MP hg hv ⟨rfl,h2⟩ ih
    ·have e6:=AD k6;rw[J7v k0 (Iw rfl k6),BV];generalize BP ((BM.mk k s g e BL).enc [])=V at *
     by_cases k5:k=5
     ·subst k5;(refine CK func23 ?_;simp only[go_sem,simprocAttr,Aq,ES,GH]);(repeat'(first|(apply BY<;>intro h)|((refine EG ?_);simp only[go_sem,simprocAttr,EH,ES])|(exfalso;omega)))
      all_goals rfl
     ·have e5:=AD k5;have b5:(k==5)=false:=by simp[k5]
      (refine CK func23 ?_;simp only[go_sem,simprocAttr,Aq,ES,GH,e0]);(repeat'(first|(apply BY<;>intro h)|((refine EG ?_);simp only[go_sem,simprocAttr,EH,ES,b5,e6])|(exfalso;omega)))
      all_goals rfl
def bo(l:List BM)(h:ER l<=1350000000000):CA cx 69 [.p (.sl (CQ l))] [] (.p (.sl (BP ((CG l).enc [])))) []:=by
 have:=Ke4 (UH l) (by rw[yU,yT];exact h);rw[yU,<-J21]at this;exact this
def vR(hv:(v.enc []).length<=1500000000000):CA cx 68 [.p (.sl (BP (v.enc [])))] [] (.p (.sl (CQ (CV v)))) []:=by
 obtain⟨k,s,g,e,BL⟩:=v;have:=Px [] k s g e BL (by rw[A6]at hv;simp at hv;omega);rw[eY]at this;exact this
def J7b(hv:(v.enc []).length<=1500000000000):CA cx 68 [.p (.sl (BP (v.enc [])))] [] (.own 900 0 (CV v).length) [(900,.row 25 1 (CQ (CV v)))]:=by
 obtain⟨k,s,g,e,BL⟩:=v;have:=Ñ [] k s g e BL (by rw[A6]at hv;simp at hv;omega);rw[eY,<-LU]at this;rw[show(CV (.mk k s g e BL)).length=BL.list.length from HM ..];exact this
def J0n:∀(l:List BM) (j:Nat),(CQ l).eraseIdx j=CQ (l.eraseIdx j)
 |[],_=>rfl
 |_::_,0=>rfl
 |t::l,j+1=>by
  rw[show CQ (t::l)=[.sl (BP (t.enc []))]::CQ l from rfl,List.eraseIdx_cons_succ,List.eraseIdx_cons_succ,J0n l j];rfl
def Ū:∀(p:List CD) (t:BM),p.length<=1000->(∀x∈p,Bc x)->GT t->(t.enc []).length<=150000000000->CA cx 22 [.p (.sl (Bb p)),.p (.sl (BP (t.enc [])))] [] (BV (FN p t)) []
 |[],t,_,_,_,_=>by
  rw[FN,BV];(refine CK func22 ?_;simp only[go_sem,simprocAttr,Aq]);(repeat'(first|((refine BU yc ?_);simp only[go_sem,simprocAttr])|fail))
 |x::p,t,hp,GZ,hg,hv=>by
  rw[DH]at hp;have MP:∀y∈p,Bc y:=fun y hy=>GZ y (EW _ hy)
  have GQ:=GZ x DQ;have ih:=fun u hu hv=>Ū p u omg MP hu hv
  have hI:=u7 x t GQ hg.1 omg;have hG:=M1 [x] t sm (fun y hy=>by simp at hy;subst hy;exact GQ) omg;rw[J8f]at hG;have EH:(Bb (x::p))[0]?=some [.bool x.part,.str x.name,.int .i64 x.n]:=rfl;have GH:(x::p).length=p.length+1:=rfl;have NN:(Bb (x::p)).take 1=Bb [x]:=rfl;have VX:(Bb (x::p)).drop 1=Bb p:=rfl;have Lt:∀q∈Bb (x::p),q.length=3:=by
   intro q hq;obtain⟨y,_,rfl⟩:=FB.1 hq;rfl
  have DR:(Bb p).take p.length=Bb p:=DK (by rw[Aq];exact CS _);have c0:(((p.length+1:Nat):Int)=0)=False:=AD omg;by_cases k0:t.kind=0
  ·obtain⟨k,s,g,e,BL⟩:=t;have k0:k=0:=k0;subst k0;have h5:KS (.mk 0 s g e BL) x=.error 5:=by
    cases hx:x.part with
    |true=>exact Iz hx de
    |false=>exact Iw hx de
   have h0:IM x (.mk 0 s g e BL)=.ok Es:=by unfold IM;exact AB rfl
   rw[h5,BV]at hG;rw[h0,BV]at hI;rw[J61,BV];generalize BP ((BM.mk 0 s g e BL).enc [])=V at *
   (refine CK func22 ?_;simp only[go_sem,simprocAttr,Aq,EH,GH,c0]);(repeat'(first|refine And.intro Lt ?_|refine EA ?_|((first|refine BU hI ?_|refine BU hG ?_);simp only[go_sem,simprocAttr,Aq,GH,NN])|fail))
   all_goals rfl
  ·rw[FN,AA k0];cases hi:KS t x with
   |error e =>
    rw[hi,BV]at hG;rcases M2 hi with rfl|rfl
    ·have h5:IM x t=.error 5:=by
      obtain⟨k,s,g,e,BL⟩:=t;have k0:¬k=0:=k0;obtain⟨b,nm,n⟩:=x;cases b with
      |true =>
       by_cases k5:k=5
       ·subst k5;rw[Tm rfl]at hi;simp only at hi;split at hi<;>cases hi
       ·exact Ě k0 k5
      |false =>
       by_cases k6:k=6
       ·subst k6;rw[Tp rfl]at hi;simp only at hi;split at hi<;>cases hi
       ·exact yI k0 k6
     rw[h5,BV]at hI;change CA cx _ _ _ (BV (.error 5)) _;rw[BV];generalize BP (t.enc [])=V at *
     (refine CK func22 ?_;simp only[go_sem,simprocAttr,Aq,EH,GH,c0]);(repeat'(first|((refine BU hI ?_);simp only[go_sem,simprocAttr])|fail))
     all_goals rfl
    ·have h6:∃u,IM x t=.ok u:=by
      cases hs:IM x t with
      |ok u=>exact⟨u,rfl⟩
      |error e =>
       exfalso;obtain⟨k,s,g,e',BL⟩:=t;have k0:¬k=0:=k0;obtain⟨b,nm,n⟩:=x;cases b with
       |true =>
        by_cases k5:k=5
        ·subst k5;rw[yJ]at hs;cases hs
        ·rw[Iz rfl k5]at hi;cases hi
       |false =>
        by_cases k6:k=6
        ·subst k6;rw[uZ]at hs;cases hs
        ·rw[Iw rfl k6]at hi;cases hi
     obtain⟨u,h6⟩:=h6;rw[h6,BV]at hI;change CA cx _ _ _ (BV (.ok t)) _;rw[BV];generalize BP (t.enc [])=V at *
     (refine CK func22 ?_;simp only[go_sem,simprocAttr,Aq,EH,GH,c0]);(repeat'(first|refine And.intro Lt ?_|refine EA ?_|((first|refine BU hI ?_|refine BU hG ?_);simp only[go_sem,simprocAttr,Aq,GH,NN])|fail))
     all_goals rfl
   |ok u =>
    rw[hi,BV]at hG;have hs:IM x t=.ok u:=by
     obtain⟨k,s,g,e',BL⟩:=t;obtain⟨b,nm,n⟩:=x;cases b with
     |true =>
      by_cases k5:k=5
      ·subst k5;rw[yJ];rw[Tm rfl]at hi;simp only at hi;cases hq:BL.list[n.toNat]? with
       |none=>rw[hq]at hi;cases hi
       |some q=>rw[hq]at hi;cases hi;rfl
      ·rw[Iz rfl k5]at hi;cases hi
     |false =>
      by_cases k6:k=6
      ·subst k6;rw[uZ];rw[Tp rfl]at hi;simp only at hi;cases hq:Ch nm BL.list with
       |none=>rw[hq]at hi;cases hi
       |some q=>rw[hq]at hi;cases hi;rfl
      ·rw[Iw rfl k6]at hi;cases hi
    rw[hs,BV]at hI;have XN:GT u:=Œ hg hs;have VR:=Q7 hi;cases p with
    |nil =>
     obtain⟨k,s,g,e',BL⟩:=t;obtain⟨b,nm,n⟩:=x;cases b with
     |true =>
      have k5:k=5:=by
       by_cases k5:k=5
       ·exact k5
       ·rw[Iz rfl k5]at hi;cases hi
      subst k5;obtain⟨_,SA,_⟩:=GQ;have SA:0<=n:=SA;obtain⟨j,rfl⟩:∃j:Nat,n=j:=⟨n.toNat,omg⟩
      rw[Tm rfl]at hi;have nW:j<BL.list.length:=by
       rcases fI j BL.list.length with h|h
       ·exact h
       ·simp only[Int.toNat_natCast,gR h]at hi;cases hi
      have DV:(CV (.mk 5 s g e' BL)).length=BL.list.length:=HM ..
      have DI:=QH (.mk 5 s g e' BL);have HI:=SN (CV (.mk 5 s g e' BL));have hP:=J7b (.mk 5 s g e' BL) omg;have hD:=J5z (CQ (CV (.mk 5 s g e' BL))) (CV (.mk 5 s g e' BL)).length j sm omg omg;rw[J0n]at hD;have hL:=bo ((CV (.mk 5 s g e' BL)).eraseIdx j) (by have:=Ŝ j (CV (.mk 5 s g e' BL));omega);have Ux:(CQ ((CV (.mk 5 s g e' BL)).eraseIdx j)).take ((CV (.mk 5 s g e' BL)).length-1)=CQ ((CV (.mk 5 s g e' BL)).eraseIdx j):=DK (by rw[FZ,nK];split<;>omega);have eo:=oO ((CV (.mk 5 s g e' BL)).eraseIdx j);have w1:IntKind.i64.wrap ((j:Int)+1)=((j+1:Nat):Int):=by rw[Aa omg omg];omega
      change CA cx _ _ _ (.tup [.sl (BP ((CG ((CV (.mk 5 s g e' BL)).eraseIdx j)).enc [])),.int .i64 0]) _;generalize BP ((BM.mk 5 s g e' BL).enc [])=V at *
      generalize CV (.mk 5 s g e' BL)=K at *
      have Xb:(K.length-1<=(K.eraseIdx j).length)=True:=AE (by rw[nK];split<;>omega);(refine CK func22 ?_;simp only[go_sem,simprocAttr,Aq,EH,GH]);(repeat'(first|refine And.intro Lt ?_|((first|refine BU hI ?_|refine BU hG ?_|refine BU hP ?_);simp only[go_sem,simprocAttr,Aq,EH,GH,NN])|fail));(refine Gi 10 hm kr kr ?_;simp only[go_sem,simprocAttr,EH,w1]);(repeat'(first|((first|refine BU hD ?_|refine BU hL ?_);simp only[go_sem,simprocAttr,Ux,FZ,Xb])|fail))
      all_goals rfl
     |false =>
      have k6:k=6:=by
       by_cases k6:k=6
       ·exact k6
       ·rw[Iw rfl k6]at hi;cases hi
      subst k6;have hW:=Jfw [] s g e' BL nm (by rw[A6]at hv;simp at hv;omega);rw[show BM.mk 6 [] false 0 (A1 (A8 nm BL.list))=nd 6 (A8 nm BL.list)from rfl]at hW;change CA cx _ _ _ (.tup [.sl (BP ((nd 6 (A8 nm BL.list)).enc [])),.int .i64 0]) _;generalize BP ((nd 6 (A8 nm BL.list)).enc [])=R at *
      generalize BP ((BM.mk 6 s g e' BL).enc [])=V at *
      (refine CK func22 ?_;simp only[go_sem,simprocAttr,Aq,EH,GH]);(repeat'(first|refine And.intro Lt ?_|((first|refine BU hI ?_|refine BU hG ?_|refine BU hW ?_);simp only[go_sem,simprocAttr,Aq,EH,GH,NN])|fail))
      all_goals rfl
    |cons y p =>
     have yy:=ih u XN omg;have IX:(y::p).length=p.length+1:=rfl;have c2:((1:Int)<((p.length+1+1:Nat):Int))=True:=AE omg;have c0:(((p.length+1+1:Nat):Int)=0)=False:=AD omg;simp only[reduceCtorEq,if_false];cases hd:FN (y::p) u with
     |error er =>
      rw[hd,BV]at yy;have:=vM hd;subst this;simp only[BV];generalize BP (t.enc [])=V at *
      (refine CK func22 ?_;simp only[go_sem,simprocAttr,Aq,EH,GH,IX,c0]);(repeat'(first|refine And.intro Lt ?_|refine EA ?_|((first|refine BU hI ?_|refine BU hG ?_|refine BU yy ?_);simp only[go_sem,simprocAttr,Aq,GH,IX,NN,c2,VX])|fail))
      all_goals rfl
     |ok w =>
      rw[hd,BV]at yy;have hw:=vN XN hd;have hS:=L8 [x] t w sm (fun z hz=>by simp only[DN,Ebj,or_false]at hz;subst hz;exact GQ) hg.1 hw.1.1 omg;simp only;rw[LF]at hS⊢;generalize BP (t.enc [])=V at *
      (refine CK func22 ?_;simp only[go_sem,simprocAttr,Aq,EH,GH,IX,c0]);(repeat'(first|refine And.intro Lt ?_|refine EA ?_|((first|refine BU hI ?_|refine BU hG ?_|refine BU yy ?_|refine BU hS ?_);simp only[go_sem,simprocAttr,Aq,GH,IX,NN,c2,VX])|fail))
      all_goals rfl
def Kd5(c:List PV)(cs:List (List PV))(h6:∀q∈c::cs,q.length=11)(hl:cs.length<=850000000000):CA cx 133 [.p (.sl (c::cs))] [] (.own 900 0 (cs.length+1)) [(900,.row 38 11 (c::cs))]:=by
 (refine HJ true [(7,900)] func133 ?_);(repeat'(first|refine EA ?_|fail));omega
def Kg6(v:List CW):CA cx 84 [.p (.sl (B9 v))] [] (.fn 132 [900]) [(900,.var 23 [.p (.sl (B9 v))])]:=by
 (refine TK true [(1,900)] func84 ?_;simp only[go_sem,simprocAttr])
def cX:List (List PV):=f.list.map fun p=>[.str p.1,.sl (B9 (p.2.enc []))]
def Jzk:(cX f).length=f.len:=by simp[cX,XJ]
def Kgr(kd:Int)(s:List UInt8)(g:Int)(e:Node)(BL:RF)(hv:BL.enc.length<=849999999999):Tb cx 132 [.eptr [.sl (B9 ((RT.mk kd s g e BL).enc nm))]] (cX BL):=by
 have hl:=UG BL;generalize IF:(RT.mk kd s g e BL).enc nm=v;have h0:v.drop 0=⟨kd,BL.len,nm,s,g,e⟩::BL.enc:=by rw[<-IF,GM];rfl
 have DD:=cQ h0;rw[Z']at DD;have KZ:v.length=BL.enc.length+1:=by rw[<-IF,GM];rfl
 (refine h_ (X:=cx) func132 kr rfl kr (by simp only[DH,KM,ntmps132];decide) fun l=>?_;refine N9 _ _ _ _ ?_;simp only[ntmps132,go_sem,simprocAttr,DD]);refine ZG.loop (fun x:Nat×Nat×RF=>(some x.1,⟨Ba 45 [(0,.yld l),(1,.eptr [.sl (B9 v)]),(3,.p (.int .i64 x.2.1)),(10,.p (.int .i64 BL.len)),(11,.p (.int .i64 x.1))],[]⟩)) (fun x=>x.1+x.2.2.len=BL.len/\v.drop x.2.1=x.2.2.enc/\x.2.1+x.2.2.enc.length=v.length/\(cX BL).drop x.1=cX x.2.2) (fun x=>x.2.2.enc.length) (0,1,BL) rfl CH ⟨by simp,by rw[<-IF,GM];rfl,by simp only;omega,rfl⟩ ?_;rintro⟨k,j,F⟩ ⟨h1,h2,h3,h4⟩;simp only at h1 h2 h3 h4⊢
 match F,h1,h2,h3,h4 with
 |.nil,h1,h2,h3,h4 =>
  simp only[RF.len]at h1;have c1:((k:Int)<(BL.len:Int))=False:=AD omg;(refine N9 _ _ _ _ ?_;simp only[go_sem,simprocAttr,c1]);rw[Jzk];exact .inl (by first|(congr 1;done)|(congr 1;omega))
 |.cons DJ (.mk k' s' g' e' BT) r,h1,h2,h3,h4 =>
  rw[uN]at h1;rw[KF]at h2 h3;rw[DC]at h3;have hs:=J40 h2;rw[GM]at h3;simp only[DH]at h3;have QP:((B9 v).drop j).take (j+((RT.mk k' s' g' e' BT).enc DJ).length-j)=[.int .i64 k',.int .i64 BT.len,.str DJ,.str s',.int .i64 g',.int .i64 e'.kind,.int .i64 e'.many,.str e'.name,.str e'.s,.bool e'.neg,.int .i64 e'.e]::B9 BT.enc:=by
   rw[nI,hs,GM,yE,Z']
  have UC:=h2;rw[GM]at UC;have hg:=cQ UC;rw[Z']at hg;have EF:((RT.mk k' s' g' e' BT).enc DJ).length=BT.enc.length+1:=by rw[GM];rfl
  have h6:∀q∈[.int .i64 k',.int .i64 BT.len,.str DJ,.str s',.int .i64 g',.int .i64 e'.kind,.int .i64 e'.many,.str e'.name,.str e'.s,.bool e'.neg,.int .i64 e'.e]::B9 BT.enc,q.length=11:=fun q hq=>yF ((RT.mk k' s' g' e' BT).enc DJ) q (by rw[GM];exact hq)
  have DR:(B9 BT.enc).take BT.enc.length=B9 BT.enc:=DK sm;have c1:((k:Int)<(BL.len:Int))=True:=AE omg;(refine N9 _ _ _ _ ?_;simp only[go_sem,simprocAttr,c1,DM (i:=k) omg]);refine ZG.loop (fun x:Nat×Nat×RF=>(some k,⟨Ba 45 [(0,.yld l),(1,.eptr [.sl (B9 v)]),(3,.p (.int .i64 j)),(4,.p (.int .i64 x.1)),(5,.p (.int .i64 x.2.1)),(10,.p (.int .i64 BL.len)),(11,.p (.int .i64 k))],[]⟩)) (fun x=>x.2.1=x.2.2.len/\v.drop x.1=x.2.2.enc++r.enc/\x.1+x.2.2.enc.length=j+((RT.mk k' s' g' e' BT).enc DJ).length) (fun x=>x.2.2.enc.length) (j,1,.cons DJ (.mk k' s' g' e' BT) .nil) rfl CH ⟨rfl,by simp[KF,SJ,h2],by simp[KF,SJ]⟩ ?_;rintro⟨i,left,G⟩ ⟨p0,p1,p2⟩;simp only at p0 p1 p2
  match G,p0,p1,p2 with
  |.nil,p0,p1,p2 =>
   rw[SJ]at p2;simp only[KM,Nat.add_zero]at p2;simp only[RF.len]at p0;subst p0;subst p2;(refine N9 _ _ _ _ ?_;simp only[go_sem,simprocAttr,QP,ON,DM (i:=k) omg]);(repeat'(first|(refine And.intro (yF _) ?_)|refine EA ?_|((refine BU (Kd5 _ _ h6 (by rw[ON];omega)) ?_);simp only[go_sem,simprocAttr,DR,CS,hg,ON,DM (i:=k) omg])|fail));refine⟨?_,⟨(k+1,j+((RT.mk k' s' g' e' BT).enc DJ).length,r),⟨by simp only;omega,by simp only;rw[<-JO,h2,YL],by simp only;omega,by simp only;rw[<-JO,h4];rfl⟩,by simp only[KF,DC];omega,rfl,CH⟩,.inr trivial⟩;have:=congrArg (·[0]?) h4;simp only[cm,Nat.add_zero]at this;rw[this];simp[cX,RF.list,GM,yE,Z']
  |.cons xp (.mk k2 s2 g2 e2 QL) r2,p0,p1,p2 =>
   rw[uN]at p0;rw[KF,GM]at p1 p2;have VP:=cQ p1;rw[Z']at VP;simp only[DH,DC]at p2;have GH:=UG QL;have IX:=UG r2;have w0:IntKind.i64.wrap ((QL.len:Int)-1)=(QL.len:Int)-1:=Aa omg omg;have w1:IntKind.i64.wrap ((left:Int)+((QL.len:Int)-1))=((r2.len+QL.len:Nat):Int):=by rw[Aa omg omg];omega
   have c2:((0:Int)<(left:Int))=True:=AE omg;(refine N9 _ _ _ _ ?_;simp only[go_sem,simprocAttr,DM (i:=k) omg,c2,DM (i:=i) omg,VP,w0,w1])
   all_goals exact⟨(i+1,r2.len+QL.len,QL.app r2),⟨by simp only[mD];omega,by
    simp only[VZ];rw[<-JO,p1];simp,by simp only[VZ,DC];omega⟩,by simp only[VZ,KF,GM,DC,DH];omega,CH⟩
def J5n{f:RF}(h:(cX f)[k]?=some x):∃p,f.list[k]?=some p/\x=[.str p.1,.sl (B9 (p.2.enc []))]:=by
 unfold cX at h;rw[Eam]at h;obtain⟨p,h1,h2⟩:=HF.1 h;exact⟨p,h1,h2.symm⟩
def J6j{f:RF}(h:x∈cX f):x.length=2:=by
 obtain⟨p,_,rfl⟩:=FB.1 h;rfl
def yz(kd:Int)(s:List UInt8)(g:Int)(e:Node)(BL:RF)(hv:BL.enc.length<=849999999999):CA cx 35 [.p (.sl (B9 ((RT.mk kd s g e BL).enc nm)))] [] (.p (.sl (NS BL.list))) []:=by
 (refine CB func35 ?_);(repeat'(first|((refine BU (Kg6 _) ?_);simp only[go_sem,simprocAttr])|fail));(refine CL.range (cX BL) 15 [(13,900)] sm _ _ _ _ _ (fun k R=>R=if k=0 then [(1000,.var 39 [.p .snil])]else [(900,.row 23 1 (NS (BL.list.take k))),(1000,.var 39 [.own 900 0 k])]) (fun _ _=>False) (by rfl) (by rfl) (by rfl) (Kgr nm kd s g e BL hv) (by simp only[go_sem,simprocAttr]<;>rfl) (by first|rfl|simp[Cg]) sm ?F' (by simp only[go_sem,simprocAttr]<;>rfl) (by simp only[go_sem,simprocAttr]<;>rfl) (by simp only[go_sem,simprocAttr]<;>rfl) ?h0 ?SE ?SF ?TI ?round ?done ?stop)
 case F'=>exact fun x hx=>J6j hx
 case h0=>rfl
 case SE=>rintro k R rfl;split<;>simp[Hg,findKey]
 case SF=>exact fun _ _ h=>h.elim
 case TI=>exact fun _ h=>h
 case stop=>exact fun _ _ h=>h.elim
 case round =>
  rintro k x R l hx rfl;obtain⟨p,hp,rfl⟩:=J5n hx;by_cases hk:k=0
  ·subst hk;rw[AB rfl];simp only[go_sem,simprocAttr];refine HO ?_;refine⟨by simp,_,rfl,?_⟩;rw[ď hp];exact(UE (by simp only[Ar]) (by simp(disch:=omega) [Az,A3,Aw,Am,Af,Ai,Au,Aa]) (by simp[Ay]))
  ·rw[AA hk];have DV:=(DX.1 hp).1;rw[XJ]at DV;have GB:=UG BL;simp only[go_sem,simprocAttr];refine HO ?_;refine⟨by simp,by rw[XK,GF,XJ];omega,omg,omg,_,rfl,?_⟩;rw[ď hp];exact(UE (by simp only[Ar]) (by simp(disch:=omega) [Az,A3,Aw,Am,Af,Ai,Au,Aa]) (by simp[Ay]))
 case done =>
  rintro R rfl;rw[Jzk];have GB:=XJ BL;have DO:=UG BL;by_cases hk:BL.len=0
  ·rw[AB hk];have PD:BL.list=[]:=KH omg;rw[PD];simp only[go_sem,simprocAttr];refine⟨⟨Ba 15 [(3,.ptr 3 0 0)],[(3,.var 39 [.p (.sl [])])]⟩,CH,?_⟩;simp only[go_sem,simprocAttr];rfl
  ·rw[AA hk];have DR:BL.list.take BL.len=BL.list:=DK omg;rw[DR];have D':(BL.len<=(NS BL.list).length)=True:=AE (by rw[XK];omega);have HK:(NS BL.list).take BL.len=NS BL.list:=DK (by rw[XK];omega);simp only[go_sem,simprocAttr];refine⟨_,St.Le.refl _,?_⟩;simp only[go_sem,simprocAttr,D',HK]
def Kfu(f:RT):Prop:=∀v:BM,GT v->(v.enc []).length<=450000000000->CA cx 18 [.p (.sl (B9 (f.enc []))),.p (.sl (BP (v.enc [])))] [] (.tup [.bool (HZ (IN f v)),.int .i64 (Ht (IN f v))]) []
def J6x:∀(n:Nat) (f:RT),(f.enc []).length<=n->UI f->KG f.kind->VK f->(f.enc []).length<=150000000000->Kfu f
 |0,f,h,_,_,_,_=>by have:=TP f [];omega
 |n+1,.mk op s m c BL,h,ok,hc,hf,hl=>by
  intro v hg hv;obtain⟨h1,h2,h3⟩:=mR.1 ok;have hc:KG op:=hc;rw[GM,DH]at h hl;have XT:s.length<=1000000:=(hf ⟨op,BL.len,[],s,m,c⟩ (by rw[GM];exact DQ)).s;have DD:(B9 ((RT.mk op s m c BL).enc []))[0]?=some [.int .i64 op,.int .i64 BL.len,.str [],.str s,.int .i64 m,.int .i64 c.kind,.int .i64 c.many,.str c.name,.str c.s,.bool c.neg,.int .i64 c.e]:=by rw[GM];rfl
  by_cases mj:op=16
  ·subst mj;have b9:VE c:=by simp[HU]at h1;exact h1.2.2.2.2
   have hN:=Ř b9;obtain⟨D',ZQ⟩:=mN s;have hP:=yd s XT;have hF:=ľ (Je s).1 v omg ZQ hg.1 omg;have hR:IN (.mk 16 s m c BL) v=match KU (Je s).1 v with
    |.error e=>.error e
    |.ok x=>.ok (eN m (DT x (SK c))):=by
     rw[oM];unfold gH;rw[AB rfl];cases KU (Je s).1 v<;>rfl
   rw[hR];cases VL:KU (Je s).1 v with
   |error e =>
    rw[VL,BV]at hF;have:=eQ VL;subst this;simp only[HZ,Ht];generalize B9 ((RT.mk 16 s m c BL).enc [])=DZ at *
    generalize(Je s).1=P at *
    (refine CK func18 ?_;simp only[go_sem,simprocAttr,DD]);(repeat'(first|((first|refine BU hP ?_|refine BU hF ?_);simp only[go_sem,simprocAttr])|fail))
    all_goals rfl
   |ok x =>
    rw[VL,BV]at hF;have hC:=x9 _ x (SK c) (CS _) (uw hg.1 VL) (yH b9) (by have:=uY VL;omega) (by rw[ř];omega);have hS:=Ka3 m (DT x (SK c)) (by simp[HU]at h1;omega) (by simp[HU]at h1;omega);rw[hN]at hC;simp only[HZ,Ht];generalize B9 ((RT.mk 16 s m c BL).enc [])=DZ at *
    generalize(Je s).1=P at *
    (refine CK func18 ?_;simp only[go_sem,simprocAttr,DD]);(repeat'(first|((first|refine EG ?_|refine BU hP ?_|refine BU hF ?_|refine DS hC ?_|refine DS hS ?_);simp only[go_sem,simprocAttr])|fail))
  ·have DV:=XJ BL;have GB:=UG BL;have vK:1<=BL.len/\(op≠19->BL.len=2):=by
    obtain⟨a,b⟩:=hc;have:op=17\/op=18\/op=19:=omg;rcases this with rfl|rfl|rfl<;>simp[HU]at h1<;>omega
   have hT:=yz [] op s m c BL omg;have hR:IN (.mk op s m c BL) v=match IL BL with
    |[]=>.ok false
    |h::hs=>match h v with
     |.error e=>.error e
     |.ok a=>if op=19 then .ok (!a)else if a=decide (op=18)then .ok a else match hs with
      |[]=>.ok false
      |h2::_=>h2 v:=by
     rw[oM];unfold gH;rw[AA mj];cases IL BL with
     |nil=>rfl
     |cons a l=>cases l<;>(simp only;cases a v<;>rfl)
   rw[mS]at hR;have CY:∀p∈BL.list,(p.2.enc []).length<=n/\(p.2.enc []).length<=150000000000:=fun p hp=>by
    have:=mi hp;rw[eL p.2 p.1]at this;omega
   have hI:∀p∈BL.list,CA cx 18 [.p (.sl (B9 (p.2.enc []))),.p (.sl (BP (v.enc [])))] [] (.tup [.bool (HZ (IN p.2 v)),.int .i64 (Ht (IN p.2 v))]) []:=fun p hp=>J6x n p.2 (CY p hp).1 (bf.1 h3 p hp) ((h2.1 p hp).1.2 (.inl hc)) (aH hf hp).2 (CY p hp).2 v hg hv
   generalize B9 ((RT.mk op s m c BL).enc [])=DZ at *
   cases GS:BL.list with
   |nil=>rw[GS]at DV;simp only[KM]at DV;omega
   |cons p0 r0 =>
    have I0:=hI p0 (by rw[GS];exact DQ);have g0:(NS BL.list)[0]?=some [.sl (B9 (p0.2.enc []))]:=cR (by rw[GS];rfl);rw[GS,Fc]at hR;simp only at hR;rw[hR];have vD:=AD mj;cases hh:IN p0.2 v with
    |error e =>
     have:=oS _ _ _ _ (CS _) hh;subst this;rw[hh]at I0;simp only[HZ,Ht]at I0⊢;(refine CK func18 ?_;simp only[go_sem,simprocAttr,DD,vD]);(repeat'(first|((first|refine BU hT ?_|refine BU I0 ?_);simp only[go_sem,simprocAttr,g0])|fail))
     all_goals rfl
    |ok a =>
     rw[hh]at I0;simp only[HZ,Ht]at I0;by_cases vL:op=19
     ·subst vL;change CA cx _ _ _ (.tup [.bool (!a),.int .i64 0]) _;(refine CK func18 ?_;simp only[go_sem,simprocAttr,DD]);(repeat'(first|((first|refine BU hT ?_|refine BU I0 ?_);simp only[go_sem,simprocAttr,g0])|fail))
      all_goals rfl
     ·have Ś:op=17\/op=18:=by obtain⟨x,y⟩:=hc;omega
      cases r0 with
      |nil =>
       have:=vK.2 vL;rw[GS]at DV;simp only[DH,KM]at DV;omega
      |cons p1 r1 =>
       have I1:=hI p1 (by rw[GS];exact EW _ DQ);have g1:(NS BL.list)[1]?=some [.sl (B9 (p1.2.enc []))]:=cR (by rw[GS];rfl);rcases Ś with rfl|rfl
       ·cases a with
        |false =>
         change CA cx _ _ _ (.tup [.bool false,.int .i64 0]) _;(refine CK func18 ?_;simp only[go_sem,simprocAttr,DD]);(repeat'(first|((first|refine BU hT ?_|refine BU I0 ?_);simp only[go_sem,simprocAttr,g0])|fail))
         all_goals rfl
        |true =>
         change CA cx _ _ _ (.tup [.bool (HZ (IN p1.2 v)),.int .i64 (Ht (IN p1.2 v))]) _;(refine CK func18 ?_;simp only[go_sem,simprocAttr,DD]);(repeat'(first|((first|refine BU hT ?_|refine BU I0 ?_|refine BU I1 ?_);simp only[go_sem,simprocAttr,g0,g1])|fail))
         all_goals rfl
       ·cases a with
        |true =>
         change CA cx _ _ _ (.tup [.bool true,.int .i64 0]) _;(refine CK func18 ?_;simp only[go_sem,simprocAttr,DD]);(repeat'(first|((first|refine BU hT ?_|refine BU I0 ?_);simp only[go_sem,simprocAttr,g0])|fail))
         all_goals rfl
        |false =>
         change CA cx _ _ _ (.tup [.bool (HZ (IN p1.2 v)),.int .i64 (Ht (IN p1.2 v))]) _;(refine CK func18 ?_;simp only[go_sem,simprocAttr,DD]);(repeat'(first|((first|refine BU hT ?_|refine BU I0 ?_|refine BU I1 ?_);simp only[go_sem,simprocAttr,g0,g1])|fail))
         all_goals rfl
def J4b(l:List BM)(S:List Nat)(hS:∀i∈S,i<l.length)(hSl:S.length<=1350000000000)(hz:ER (FV l S)<=1350000000000):CA cx 94 [.p (.sl (CQ l)),.p (.sl (CJ S))] [] (.p (.sl (BP ((CG (FV l S)).enc [])))) []:=by
 have hL:=bo (FV l S) hz;have D':(FV l S).length=S.length:=by simp[FV]
 (refine CK func94 ?_;simp only[go_sem,simprocAttr,NV]);refine HD (dI _ (i:=5) (d:=20) 25 1 (.inl de) rfl) ?_;simp only[St.nilOwn,St.nilReg,go_sem,simprocAttr,NV];refine CL.loop (fun k:Nat=>⟨Ba 24 [(0,.p (.sl (CQ l))),(5,.own 20 0 k),(8,.p (.sl (CJ S))),(9,.p (.int .i64 S.length)),(10,.p (.int .i64 k))],[(20,.row 25 1 (CQ (FV l (S.take k))))]⟩) (fun k=>k<=S.length) (fun k=>S.length-k) 0 CH (EK _) ?_;rintro k hk;by_cases BZ:k<S.length
 ·have c1:((k:Int)<(S.length:Int))=True:=AE omg;obtain⟨i,hi⟩:∃i,S[k]?=some i:=⟨_,C' BZ⟩
  have OE:=hS i (D4 hi);obtain⟨t,ht⟩:∃t,l[i]?=some t:=⟨_,C' OE⟩
  have g1:=mT hi;have g2:=RW ht;have JB:(CQ (FV l (S.take k))).length=k:=by rw[FZ];simp[FV];omega
  have DR:CQ (FV l (S.take (k+1)))=CQ (FV l (S.take k))++[[.sl (BP (t.enc []))]]:=by
   rw[YI hi];unfold FV;rw[Ry,V',Fc,SR,XH ht];rfl
  (refine CC ?_;simp only[go_sem,simprocAttr,c1,g1,g2,JB,DM (i:=k) omg]);(repeat'(first|(refine And.intro (by first|(simp;done)|(simp;omega)) ?_)|refine EA ?_|fail))
  all_goals exact⟨k+1,omg,omg,by rw[DR];exact CH⟩
 ·obtain rfl:k=S.length:=omg;have c1:((S.length:Int)<(S.length:Int))=False:=AD omg;have QG:S.take S.length=S:=DK (CS _);have JI:(CQ (FV l S)).take S.length=CQ (FV l S):=DK (by simp[D']);have DO:(S.length<=(CQ (FV l S)).length)=True:=AE (by simp[D']);(refine CC ?_;simp only[go_sem,simprocAttr,c1,QG,JI,DO]);(repeat'(first|((refine BU hL ?_);simp only[go_sem,simprocAttr])|fail))
def J86:CA cx 69 [.p .snil] [] (.p (.sl (BP ((CG []).enc [])))) []:=by
 have:=bo [] de;exact J04 (by simp[Aw,WW,ħ]) this
def J90(es:List (List PV))(n:Nat)(hn:es.length=n)(hb:n<=1500000000000):CA cx 97 [.own 1000 0 n] [(1000,.row 21 1 es)] (.tup []) [(1000,.row 21 1 es.reverse)]:=by
 unfold CA Al;refine⟨enters_of func97 kr rfl,fun β Im w vs hg hf=>?_⟩;obtain⟨v,rfl,hv⟩:=Ue hf;rcases yf hf hv hn with⟨rfl,rfl⟩|⟨loc,cap,d,CM,rfl,hc,TM,LN,WN,hH,hd⟩
 ·have he:es=[]:=KH hn;subst he;have h:Calls Tryz.prog 97 #[.slice none 0 0] w fun e w'=>e=.returned (.tuple #[])/\w'=w:=AnyE.slices_Reverse_empty Jw3 none 0 w
  refine h.mono ?_;rintro e w' ⟨rfl,rfl⟩;exact⟨_,_,_,β,Im,rfl,⟨rfl,rfl⟩,⟨[],rfl,rfl,by simp⟩,Ł hf⟩
 ·subst TM;have h:Calls Tryz.prog 97 #[.slice (some ⟨loc.blk,0,none⟩) d.length cap] w fun e w'=>e=.returned (.tuple #[])/\∃q,w'=Sort.putRow v1 (Sort.ahead w q) loc.blk 0 d.reverse.toArray:=AnyE.slices_Reverse Jw3 v1 ŀ loc.blk 0 cap d w hH omg
  refine h.mono ?_;rintro e w' ⟨rfl,q,rfl⟩;refine⟨_,_,_,β,Im,rfl,⟨rfl,rfl⟩,⟨[],rfl,rfl,by simp⟩,yg hf CM (k:=q) (os:=#[]) (d:=d.reverse) (by rw[Sort.grow_empty]) (by rw[aM];omega) (by rw[aM,aM];omega) fun i x e hx he=>?_⟩;have OE:=(DX.1 hx).1;rw[aM]at OE;rw[b6 omg]at hx;rw[b6 omg,hn]at he;exact hd _ x e hx he
def Ke9(p:RT)(v:BM)(hH:CA cx 18 [.p (.sl (B9 (p.enc []))),.p (.sl (BP (v.enc [])))] [] (.tup [.bool (HZ (IN p v)),.int .i64 (Ht (IN p v))]) []):CA cx 39 [.p (.sl (B9 (p.enc []))),.p (.sl (BP (v.enc [])))] [] (BV (match IN p v with
  |.error e=>.error e
  |.ok b=>if b=true then .ok v else .error 6)) []:=by
 cases hh:IN p v with
 |error e =>
  have:=oS _ _ _ _ (CS _) hh;subst this;rw[hh]at hH;simp only[HZ,Ht]at hH;simp only[BV];refine CB func39 ?_;(repeat'(first|((refine BU hH ?_);simp only[go_sem,simprocAttr])|fail))
  all_goals rfl
 |ok b =>
  rw[hh]at hH;simp only[HZ,Ht]at hH;cases b with
  |true =>
   change CA cx _ _ _ (.tup [.sl (BP (v.enc [])),.int .i64 0]) _;refine CB func39 ?_;(repeat'(first|((refine BU hH ?_);simp only[go_sem,simprocAttr])|fail))
   all_goals rfl
  |false =>
   change CA cx _ _ _ (.tup [.snil,.int .i64 6]) _;refine CB func39 ?_;(repeat'(first|((refine BU hH ?_);simp only[go_sem,simprocAttr])|fail))
   all_goals rfl
def J0x:∀(rs:List Int) (s:List UInt8) (b i:Nat),IV rs->s.drop i=EN rs->s.length<=i+b->Y' ⟨⟨s⟩⟩ b i=rs
 |[],s,0,i,_,_,_=>rfl
 |r::rs,s,0,i,ha,h,hf=>by
  have:=congrArg List.length h;rw[KO,Ki,DC]at this;have:=I4 r;omega
 |[],s,b+1,i,_,h,_=>by
  have hl:=congrArg List.length h;simp[EN]at hl;rw[Y',AA (show ¬i<ByteArray.size ⟨⟨s⟩⟩from by show ¬i<s.length;omega)]
 |r::rs,s,b+1,i,ha,h,hf=>by
  rw[Ki]at h;obtain⟨h1,h2⟩:=Rp ha.head (EN rs);have hp:=I4 r;have hd:dec s i=(code (FG r++EN rs) 0,(FG r).length):=by
   have:=Qy s i 0;rw[Nat.add_zero]at this;rw[<-this,h,F1,AA (by rw[h1];omega),h1]
  have BZ:i<s.length:=by
   have:=congrArg List.length h;rw[KO,DC]at this;omega
  have bT:s.drop (i+(FG r).length)=EN rs:=by rw[<-JO,h,YL]
  rw[Y',AB (show i<ByteArray.size ⟨⟨s⟩⟩from BZ),H6,hd];simp only;rw[J0x rs s b _ ha.tail bT omg];congr 1
def J1j{rs:List Int}(h:IV rs):ZZ (EN rs)=rs.map fun n=>[.int .i32 n]:=by
 unfold ZZ;rw[J0x rs (EN rs) _ 0 h rfl omg]
def J6v:rs.length<=(EN rs).length:=by
 induction rs with
 |nil=>exact CS _
 |cons r rs ih=>rw[Ki,DC,DH];have:=I4 r;omega
def J62:(rs.flatMap fun n=>(Utf8.encode n).data.toList)=EN rs:=by simp only[R8];rfl
def JC:List (List PV):=rs.map fun n=>[.int .i32 n]
@[simp] theorem y7 (rs:List Int):(JC rs).length=rs.length:=by simp[JC]
def Kax{rs:List Int}:dH (JC rs)=some rs:=J0w
def Kfz:(JC rs).reverse=JC rs.reverse:=by simp[JC]
def Kbx(n:Nat):(JC rs).drop n=JC (rs.drop n):=by simp[JC]
def Kau:∀q∈JC rs,q.length=1:=fun q hq=>by
 obtain⟨n,_,rfl⟩:=FB.1 hq;rfl
def Kbs:(JC rs).take rs.length=JC rs:=DK sm
def J60(ok:EZ v)(hf:GC v)(hv:(v.enc []).length<=1350000000000):CA cx 44 [.p (.sl (BP (v.enc [])))] [] (BV (Lx v)) []:=by
 have hP:=J7b v omg;have DI:=QH v;have HI:=SN (CV v);obtain⟨k,s,g,e,BL⟩:=v;have ES:=Cc [] k s g e BL;have EH:=vQ (⟨ok,hf⟩:GT (.mk k s g e BL));by_cases k0:k=0
 ·subst k0;rw[show Lx (.mk 0 s g e BL)=.ok (CG [])from rfl,BV];generalize BP ((BM.mk 0 s g e BL).enc [])=V at *
  (refine CK func44 ?_;simp only[go_sem,simprocAttr,ES]);(repeat'(first|((refine BU J86 ?_);simp only[go_sem,simprocAttr])|fail))
 ·by_cases k5:k=5
  ·subst k5;have R3:ER (CV (.mk 5 s g e BL)).reverse=ER (CV (.mk 5 s g e BL)):=by
    unfold ER;rw[List.map_reverse,List.sum_reverse]
   have hL:=bo (CV (.mk 5 s g e BL)).reverse omg;have hR:=Kdh (CQ (CV (.mk 5 s g e BL))) (CV (.mk 5 s g e BL)).length sm omg;have hrv:(CQ (CV (.mk 5 s g e BL))).reverse=CQ (CV (.mk 5 s g e BL)).reverse:=by simp[CQ]
   rw[hrv]at hR;have DR:(CQ (CV (.mk 5 s g e BL)).reverse).take (CV (.mk 5 s g e BL)).length=CQ (CV (.mk 5 s g e BL)).reverse:=DK sm;have EF:=oO (CV (.mk 5 s g e BL)).reverse;rw[show Lx (.mk 5 s g e BL)=.ok (CG (CV (.mk 5 s g e BL)).reverse)from rfl,BV];generalize BP ((BM.mk 5 s g e BL).enc [])=V at *
   generalize CV (.mk 5 s g e BL)=K at *
   (refine CK func44 ?_;simp only[go_sem,simprocAttr,ES]);(repeat'(first|((first|refine BU hP ?_|refine BU hR ?_|refine BU hL ?_);simp only[go_sem,simprocAttr,DR,FZ,aM,CS])|fail))
  ·by_cases k4:k=4
   ·subst k4;obtain⟨rs,R3,rfl⟩:=Jb.1 (EH.2 rfl);have VR:=J6v rs;have hR:=J90 (JC rs) rs.length sm omg;rw[Kfz]at hR;have hT:=Ľ (EN rs.reverse);have cE:ZZ (EN rs)=JC rs:=J1j R3;have RL:(Oz (EN rs)).reverse.flatten=EN rs.reverse:=by rw[yv R3,<-List.map_reverse];rfl
    have DR:(JC rs.reverse).take rs.length=JC rs.reverse:=DK sm;have EF:=Kau rs.reverse;rw[show Lx (.mk 4 (EN rs) g e BL)=.ok (GY (Oz (EN rs)).reverse.flatten)from rfl,BV,RL];have hsl8:(EN rs).length<=70368744177664:=omg;generalize BP ((BM.mk 4 (EN rs) g e BL).enc [])=V at *
    (refine CK func44 ?_;simp only[go_sem,simprocAttr,ES,cE,y7]);(repeat'(first|refine EA ?_|((first|refine BU hR ?_|refine BU hT ?_);simp only[go_sem,simprocAttr,Kax,J62,DR,y7,aM,CS])|fail))
   ·have e0:=AD k0;have e5:=AD k5;have e4:=AD k4;rw[show Lx (.mk k s g e BL)=.error 5 by simp only[Lx,AA k0,AA k5,AA k4],BV];(refine CK func44 ?_;simp only[go_sem,simprocAttr,ES,e0,e5,e4])
    all_goals rfl
def Kf8(n:Nat)(v:BM)(hn:n<=1500000000000)(ok:EZ v)(hf:GC v)(hv:(v.enc []).length<=1350000000000):CA cx 37 [.p (.int .i64 n),.p (.sl (BP (v.enc [])))] [] (BV (V8 n v)) []:=by
 have hP:=vR v omg;have DI:=QH v;have HI:=SN (CV v);obtain⟨k,s,g,e,BL⟩:=v;have ES:=Cc [] k s g e BL;have EH:=vQ (⟨ok,hf⟩:GT (.mk k s g e BL));by_cases k0:k=0
 ·subst k0;rw[show V8 n (.mk 0 s g e BL)=.ok Es from rfl,BV,<-Kas ok rfl];generalize BP ((BM.mk 0 s g e BL).enc [])=V at *
  (refine CK func37 ?_;simp only[go_sem,simprocAttr,ES])
  skip
 ·by_cases k5:k=5
  ·subst k5;have oy:ER ((CV (.mk 5 s g e BL)).drop n)<=ER (CV (.mk 5 s g e BL)):=ś n _;have hL:=bo ((CV (.mk 5 s g e BL)).drop n) omg;rw[show V8 n (.mk 5 s g e BL)=.ok (CG ((CV (.mk 5 s g e BL)).drop n))from rfl,BV];generalize BP ((BM.mk 5 s g e BL).enc [])=V at *
   generalize CV (.mk 5 s g e BL)=l at *
   have dD:min (n:Int) (l.length:Int)=((min n l.length:Nat):Int):=omg;have bT:(CQ l).drop (min n l.length)=CQ (l.drop n):=by
    unfold CQ;rw[nH];by_cases h:n<=l.length
    ·rw[b4 h]
    ·rw[Nat.min_eq_right omg,JD sm,JD (by simp;omega)]
   have EF:=oO l;have HW:min n l.length<=l.length:=Nat.min_le_right _ _;generalize min n l.length=m at *
   (refine CK func37 ?_;simp only[go_sem,simprocAttr,ES]);(repeat'(first|(refine And.intro (by first|exact EF|(simp;done)|(simp;omega)) ?_)|((first|refine BU hP ?_|refine BU hL ?_);simp only[go_sem,simprocAttr,FZ,dD,bT])|fail))
  ·by_cases k4:k=4
   ·subst k4;obtain⟨rs,R3,rfl⟩:=Jb.1 (EH.2 rfl);have VR:=J6v rs;have hT:=Ľ (EN (rs.drop n));have cE:ZZ (EN rs)=JC rs:=J1j R3;have RL:((Oz (EN rs)).drop n).flatten=EN (rs.drop n):=by rw[yv R3,<-nH];rfl
    have dD:min (n:Int) (rs.length:Int)=((min n rs.length:Nat):Int):=omg;have bT:(JC rs).drop (min n rs.length)=JC (rs.drop n):=by
     rw[Kbx];by_cases h:n<=rs.length
     ·rw[b4 h]
     ·rw[Nat.min_eq_right omg,JD (CS _),JD omg]
    have EF:=Kau rs;have HW:min n rs.length<=rs.length:=Nat.min_le_right _ _;have ZY:(min n rs.length+(rs.length-min n rs.length)<=rs.length)=True:=AE omg;have ū:(JC (rs.drop n)).take (rs.length-min n rs.length)=JC (rs.drop n):=DK (by rw[y7,KO];omega);rw[show V8 n (.mk 4 (EN rs) g e BL)=.ok (GY ((Oz (EN rs)).drop n).flatten)from rfl,BV,RL];have hsl8:(EN rs).length<=70368744177664:=omg;generalize BP ((BM.mk 4 (EN rs) g e BL).enc [])=V at *
    generalize min n rs.length=m at *
    (refine CK func37 ?_;simp only[go_sem,simprocAttr,ES,cE,Kax,J62,y7,dD,bT,Kbs,ZY,ū]);(repeat'(first|(refine And.intro (by first|exact EF|(simp;done)|(simp;omega)) ?_)|refine EA ?_|((refine BU hT ?_);simp only[go_sem,simprocAttr])|fail))
   ·have e0:=AD k0;have e5:=AD k5;have e4:=AD k4;rw[show V8 n (.mk k s g e BL)=.error 5 by simp only[V8,AA k0,AA k5,AA k4],BV];(refine CK func37 ?_;simp only[go_sem,simprocAttr,ES,e0,e5,e4])
    all_goals rfl
def J5s(ok:EZ v)(EU:GC v)(hv:(v.enc []).length<=150000000000):CA cx 42 [.p (.sl (BP (v.enc [])))] [] (BV (Vw v)) []:=by
 have DI:=QH v;have hP:=vR v omg;by_cases hk:v.kind=5
 ·obtain⟨r,DD⟩:=eZ v;rw[hk]at DD;have bg:∀t∈CV v,EZ t/\GC t/\(t.enc []).length<=150000000000:=fun t ht=>by
   refine⟨ui ok t ht,?_,by have:=WA ht;omega⟩;obtain⟨k,s',g,e,BL⟩:=v;obtain⟨p,hp,rfl⟩:=FB.1 ht;exact(Mg EU hp).2
  have u0:Vw v=match VG (CV v) []with
   |some l=>.ok (nd 6 l)
   |none=>.error 5:=by unfold Vw;rw[AB hk]<;>rfl
  rw[u0];have CY:=SN (CV v);have PD:BP ((nd 6 []).enc [])=[[.int .i64 6,.int .i64 0,.str [],.str [],.bool false,.int .i64 0]]:=by
   unfold nd;rw[A6,show A1 []=.nil from rfl,Bl];rfl
  generalize BP (v.enc [])=V at *
  generalize CV v=l at *
  (refine CK func42 ?_;simp only[go_sem,simprocAttr,DD]);(repeat'(first|((refine BU hP ?_);simp only[go_sem,simprocAttr,FZ])|fail));refine HD (wI _ (d:=16)) ?_;simp only[go_sem,simprocAttr];refine CL.loop (fun x:Nat×List KT=>⟨Ba 55 [(4,.p (.sl (BP ((nd 6 x.2).enc [])))),(18,.p (.sl (CQ l))),(19,.p (.int .i64 l.length)),(20,.p (.int .i64 x.1))],[]⟩) (fun x=>x.1<=l.length/\VG l []=VG (l.drop x.1) x.2/\EJ x.2/\(∀p∈x.2,valid p.1=true/\p.1.length<=1000000)/\(A1 x.2).enc.length<=ER (l.take x.1)) (fun x=>l.length-x.1) (0,[]) (by simp only;rw[PD];exact CH) ⟨EK _,rfl,.nil,by simp,by rw[show A1 []=.nil from rfl,Bl];exact EK _⟩ ?_;rintro⟨i,GJ⟩ ⟨hi,h2,h3,h4,h5⟩;simp only at hi h2 h3 h4 h5⊢;by_cases BZ:i<l.length
  ·have c1:((i:Int)<(l.length:Int))=True:=AE omg;obtain⟨t,ht⟩:∃t,l[i]?=some t:=⟨_,C' BZ⟩
   have hg:=RW ht;obtain⟨eV,mZ,mc⟩:=bg t (D4 ht);have hd:l.drop i=t::l.drop (i+1):=by rw[Mx BZ];congr 1;rw[C' BZ]at ht;exact L' ht
   rw[hd,J2m]at h2;have XU:=J4k ht;have Ux:=Jyu l (i+1);have QI:=J3o t FE omg;have O':=J3o t EY omg;obtain⟨tk,ts,tg,te,HB⟩:=t;by_cases k6:tk=6
   ·subst k6;have ur:HB.enc.length<=150000000000:=by rw[A6,DH]at mc;omega
    rw[show eP (.mk 6 ts tg te HB) FE=Ch FE HB.list from rfl]at QI;rw[show eP (.mk 6 ts tg te HB) EY=Ch EY HB.list from rfl]at O';cases f1:Ch FE HB.list with
    |none =>
     rw[J35 f1]at h2;simp only at h2;rw[f1]at QI;unfold Oo at QI;rw[h2];(refine CC ?_;simp only[go_sem,simprocAttr,c1,hg]);(repeat'(first|((refine BU QI ?_);simp only[go_sem,simprocAttr])|fail))
     all_goals rfl
    |some key =>
     obtain⟨kk,ks,kg,ke,QJ⟩:=key;have Xh:=Cc [] kk ks kg ke QJ;obtain⟨pk,u5,ek,_⟩:=H2 f1;have WB:=cP eV u5;have bh:=(Mg mZ u5).2;rw[ek]at WB bh;have ei:1000000 ≥ ks.length:=(bh ⟨kk,QJ.len,[],ks,kg,ke⟩ (by rw[A6];exact DQ)).s;rw[f1]at QI;unfold Oo at QI;by_cases k4:kk=4
     ·subst k4;rw[J8k f1]at h2;simp only at h2;have gI:valid ks=true:=by
       have:=(Lu.1 WB).1;simp[G3]at this;exact this.1
      have lM:=ĸ ks GJ;have hW:∀x:BM,(x.enc []).length<=150000000000->CA cx 93 [.p (.sl (BP ((nd 6 GJ).enc []))),.p (.str ks),.p (.sl (BP (x.enc [])))] [] (.p (.sl (BP ((nd 6 (EV ks x (A8 ks GJ))).enc [])))) []:=fun x hx=>by
       have hw:=Ker [] [] false 0 (A1 GJ) ks x omg omg (by rw[Hd];exact h3.kept ks);rw[Hd]at hw;exact hw
      have VJ:∀x:BM,(x.enc []).length<=((BM.mk 6 ts tg te HB).enc []).length->EJ (EV ks x (A8 ks GJ))/\(∀p∈EV ks x (A8 ks GJ),valid p.1=true/\p.1.length<=1000000)/\(A1 (EV ks x (A8 ks GJ))).enc.length<=ER (l.take (i+1)):=fun x hx=>by
       refine⟨Kh (h3.kept ks) fun p hp=>(ed hp).2,fun p hp=>?_,?_⟩
       ·have:=(Hv ks x (A8 ks GJ)).mem_iff.1 hp;rcases DN.1 this with rfl|h
        ·exact⟨gI,ei⟩
        ·exact h4 p (ed h).1
       ·rw[Iv,XU];omega
      cases f2:Ch EY HB.list with
      |none =>
       rw[f2]at O' h2;unfold Oo at O';rw[Option.getD_none]at h2;have me:=hW Es (by rw[gD];decide);obtain⟨n1,n2,n3⟩:=VJ Es (by rw[gD];exact Et _ _);(refine CC ?_;simp only[go_sem,simprocAttr,c1,hg,DM (i:=i) omg]);(repeat'(first|((first|refine BU QI ?_|refine BU O' ?_|refine BU yc ?_|refine BU me ?_);simp only[go_sem,simprocAttr,Xh,DM (i:=i) omg])|fail))
       all_goals exact⟨(i+1,EV ks Es (A8 ks GJ)),⟨by simp only;omega,h2,n1,n2,n3⟩,by simp only;omega,CH⟩
      |some x =>
       rw[f2]at O' h2;unfold Oo at O';rw[Option.getD_some]at h2;obtain⟨px,mx,ex,_⟩:=H2 f2;have PU:=YE mx;rw[ex]at PU;have me:=hW x omg;obtain⟨n1,n2,n3⟩:=VJ x (by rw[A6,DH];omega);(refine CC ?_;simp only[go_sem,simprocAttr,c1,hg,DM (i:=i) omg]);(repeat'(first|((first|refine BU QI ?_|refine BU O' ?_|refine BU me ?_);simp only[go_sem,simprocAttr,Xh,DM (i:=i) omg])|fail))
       all_goals exact⟨(i+1,EV ks x (A8 ks GJ)),⟨by simp only;omega,h2,n1,n2,n3⟩,by simp only;omega,CH⟩
     ·rw[Ka6 f1 k4]at h2;simp only at h2;rw[h2];have c4:=AD k4;(refine CC ?_;simp only[go_sem,simprocAttr,c1,hg]);(repeat'(first|((refine BU QI ?_);simp only[go_sem,simprocAttr,Xh,c4])|fail))
      all_goals rfl
   ·rw[show eP (.mk tk ts tg te HB) FE=none from AA k6]at QI;rw[J6r k6]at h2;simp only at h2;rw[h2];unfold Oo at QI;(refine CC ?_;simp only[go_sem,simprocAttr,c1,hg]);(repeat'(first|((refine BU QI ?_);simp only[go_sem,simprocAttr])|fail))
    all_goals rfl
  ·obtain rfl:i=l.length:=omg;have c1:((l.length:Int)<(l.length:Int))=False:=AD omg;rw[JD (CS _),VG]at h2;rw[h2];(refine CC ?_;simp only[go_sem,simprocAttr,c1])
   all_goals rfl
 ·rw[show Vw v=.error 5 by unfold Vw;rw[AA hk],BV];obtain⟨k,s',g,e,BL⟩:=v;have c1:(k=5)=False:=AD hk;(refine CK func42 ?_;simp only[go_sem,simprocAttr,Cc,c1,AJ])
  all_goals rfl
def Ŭ{i:Nat}(h:l[i]?=some s):(DP l)[i]?=some [.str s]:=by simp[DP,h]
def Kep(h:x∈DP l):x.length=1:=by
 obtain⟨s,_,rfl⟩:=FB.1 h;rfl
def ZR(l:List (List UInt8)):(DP l).length=l.length:=by simp[DP]
def Kgt(h:l[k]?=some s):DP (l.take (k+1))=DP (l.take k)++[[.str s]]:=by
 rw[NA,h];simp[DP]
def Kgj(h:(DP l)[k]?=some x):∃s,l[k]?=some s/\x=[.str s]:=by
 unfold DP at h;rw[Eam]at h;obtain⟨p,h1,h2⟩:=HF.1 h;exact⟨p,h1,h2.symm⟩
def Kej:CA cx 136 [.p (.sl (DP ns))] [] (.fn 167 [900]) [(900,.var 61 [.p (.sl (DP ns))])]:=by
 (refine TK true [(1,900)] func136 ?_;simp only[go_sem,simprocAttr])
def Kee(hn:ns.length<=1500000000000):Tb cx 167 [.eptr [.sl (DP ns)]] (DP ns):=by
 (refine h_ (X:=cx) func167 kr rfl kr (by simp only[DH,KM,ntmps167];decide) fun l=>?_;refine N9 _ _ _ _ ?_;simp only[ntmps167,go_sem,simprocAttr,ZR]);refine ZG.loop (fun i:Nat=>(some i,⟨Ba 16 [(0,.yld l),(1,.eptr [.sl (DP ns)]),(5,.p (.sl (DP ns))),(6,.p (.int .i64 ns.length)),(7,.p (.int .i64 i))],[]⟩)) (fun i=>i<=ns.length) (fun i=>ns.length-i) 0 rfl CH (EK _) ?_;rintro i hi;simp only at hi⊢;by_cases BZ:i<ns.length
 ·have c1:((i:Int)<(ns.length:Int))=True:=AE omg;obtain⟨s,hs⟩:∃s,ns[i]?=some s:=⟨_,C' BZ⟩
  have hg:=Ŭ hs;(refine N9 _ _ _ _ ?_;simp only[go_sem,simprocAttr,ZR,c1,hg,DM (i:=i) omg]);(repeat'(first|(trivial)|(refine And.intro ?_ ?_)|(exact⟨i+1,omg,omg,rfl,CH⟩)|fail))
 ·obtain rfl:i=ns.length:=omg;have c1:((ns.length:Int)<(ns.length:Int))=False:=AD omg;(refine N9 _ _ _ _ ?_;simp only[go_sem,simprocAttr,ZR,c1])
  all_goals first|trivial|exact .inl (by rw[ZR])
def J65(hn:ns.length<=1500000000000):CA cx 193 [.p .snil,.fn 167 [1000]] [(1000,.var 61 [.p (.sl (DP ns))])] (.own 900 0 ns.length) [(900,.row 9 1 (DP ns))]:=by
 (refine HJ true [(990,900),(500,900)] func193 ?_);refine HD (ZE _ (b:=2) (j:=0) (d:=500) 9 1 (.inl de) (T':=61) (cs:=[.p .snil]) rfl rfl) ?_;simp only[St.nilCell,St.nilReg,Ms,go_sem,simprocAttr];(refine CL.range (DP ns) 13 [(11,500000)] sm _ _ _ _ _ (fun k R=>R=[(500000,.row 9 1 (DP (ns.take k))),(1001,.var 61 [.own 500000 0 k])]) (fun _ _=>False) (by rfl) (by rfl) (by rfl) (Kee ns hn) (by simp only[go_sem,simprocAttr]<;>rfl) (by first|rfl|simp[Cg]) sm ?F' (by simp only[go_sem,simprocAttr]<;>rfl) (by simp only[go_sem,simprocAttr]<;>rfl) (by simp only[go_sem,simprocAttr]<;>rfl) ?h0 ?SE ?SF ?TI ?round ?done ?stop)
 case F'=>exact fun x hx=>Kep hx
 case h0=>rfl
 case SE=>rintro k R rfl;simp[Hg,findKey]
 case SF=>exact fun _ _ h=>h.elim
 case TI=>exact fun _ h=>h
 case stop=>exact fun _ _ h=>h.elim
 case round =>
  rintro k x R l hx rfl;obtain⟨p,hp,rfl⟩:=Kgj hx;have DV:=(DX.1 hp).1;simp only[go_sem,simprocAttr];refine HO ?_;refine⟨by simp,by rw[ZR,GF];omega,omg,omg,_,rfl,?_⟩;rw[Kgt hp];exact(UE (by simp only[Ar]) (by simp(disch:=omega) [Az,A3,Aw,Am,Af,Ai,Au,Aa]) (by simp[Ay]))
 case done =>
  rintro R rfl;rw[ZR,DK (CS _)];simp only[go_sem,simprocAttr];refine⟨_,St.Le.refl _,?_⟩;simp only[go_sem,simprocAttr]
def Kct(hn:ns.length<=1500000000000):CA cx 165 [.fn 167 [1000]] [(1000,.var 61 [.p (.sl (DP ns))])] (.own 900 0 ns.length) [(900,.row 9 1 (DP ns))]:=by
 (refine HJ true [(4,900)] func165 ?_);(repeat'(first|((refine BU (J65 ns hn) ?_);simp only[go_sem,simprocAttr])|fail))
end Go.LX
namespace Go.Proofs
open Go.Shelf Go.LX Go.Proofs.Tryz
def NW:Go.Shelf.Ren:=⟨fun|190=>166|125=>195|258=>194|128=>230|129=>231|302=>222|303=>223|304=>224|305=>225|306=>226|307=>227|308=>178|309=>228|310=>229|333=>253|329=>254|330=>255|334=>256|335=>257|336=>155|344=>271|n=>n,fun|31=>61|9=>9|3=>3|46=>165|0=>0|51=>224|53=>191|4=>4|183=>218|182=>217|131=>143|5=>5|218=>244|222=>248|228=>257|229=>214|n=>n,fun|n=>n⟩
def Jxw:Go.Proofs.Lays.n190 Tryz.prog NW:={
 mixed:=kr
 f125:=func195.trans AO
 f128:=func230.trans AO
 f129:=func231.trans AO
 f190:=func166.trans AO
 f258:=func194.trans AO
 f302:=func222.trans AO
 f303:=func223.trans AO
 f304:=func224.trans AO
 f305:=func225.trans AO
 f306:=func226.trans AO
 f307:=func227.trans AO
 f308:=func178.trans AO
 f309:=func228.trans AO
 f310:=func229.trans AO
 f329:=func254.trans AO
 f330:=func255.trans AO
 f333:=func253.trans AO
 f334:=func256.trans AO
 f335:=func257.trans AO
 f336:=func155.trans AO
 f344:=func271.trans AO
 t0:=underlying0
 a0:=isAgg0
 z0:=sizeOf0
 v0:=zeroValue0
 t3:=underlying3
 a3:=isAgg3
 z3:=sizeOf3
 v3:=zeroValue3
 t4:=underlying4
 a4:=isAgg4
 z4:=sizeOf4
 v4:=zeroValue4
 t5:=underlying5
 a5:=isAgg5
 z5:=sizeOf5
 v5:=zeroValue5
 t9:=underlying9
 a9:=isAgg9
 z9:=sizeOf9
 v9:=zeroValue9
 t31:=underlying61
 a31:=isAgg61
 z31:=sizeOf61
 v31:=zeroValue61
 t46:=underlying165
 a46:=isAgg165
 z46:=sizeOf165
 v46:=zeroValue165
 t51:=underlying224
 a51:=isAgg224
 z51:=sizeOf224
 v51:=zeroValue224
 t53:=underlying191
 a53:=isAgg191
 z53:=sizeOf191
 v53:=zeroValue191
 t131:=underlying143
 a131:=isAgg143
 z131:=sizeOf143
 v131:=zeroValue143
 t182:=underlying217
 a182:=isAgg217
 z182:=sizeOf217
 v182:=zeroValue217
 t183:=underlying218
 a183:=isAgg218
 z183:=sizeOf218
 v183:=zeroValue218
 t218:=underlying244
 a218:=isAgg244
 z218:=sizeOf244
 v218:=zeroValue244
 t222:=underlying248
 a222:=isAgg248
 z222:=sizeOf248
 v222:=zeroValue248
 t228:=underlying257
 a228:=isAgg257
 z228:=sizeOf257
 v228:=zeroValue257
 t229:=underlying214
 a229:=isAgg214
 z229:=sizeOf214
 v229:=zeroValue214 }
open Go.Sort Go.RowKit in
def Tryz.slices_Sort_string(blk By cap:Nat)(ss:List (List UInt8))(w:World)(hH:Holds encStr w blk By ss.toArray)(RA:blk<w.heap.size)(DI:ss.length<4611686018427387904) :
  Calls Tryz.prog 166 #[.slice (some ⟨blk,By,none⟩) ss.length cap] w fun e w' =>
   e=.returned (.tuple #[])/\∃n os,w'=grow (putRow encStr (Sort.ahead w n) blk By (ss.mergeSort fun x y=>decide (x<=y)).toArray) os:=Any.slices_Sort_string Jxw blk By cap ss w hH RA DI
open Go.RowKit Go.Sort in
def Tryz.slices_Sort_string_none(p:Option Addr)(cap:Nat)(w:World) :
  Calls Tryz.prog 166 #[.slice p 0 cap] w fun e w'=>e=.returned (.tuple #[])/\w'=w:=Any.slices_Sort_string_none Jxw p cap w
end Go.Proofs
set_option maxRecDepth 100000
set_option maxHeartbeats 2000000
namespace Go.LX
open Go Go.RowKit Go.Proofs Go.Proofs.Tryz
attribute [local irreducible] Al CL Bi
variable {l:List KT}(ns:List (List UInt8)){es:List (PV×PV)}{p:KT}
def ŭ:BM:=.mk 0 [] false 0 .nil
def y8(x y:List UInt8):decide (x<=y) = !Op.bytesLess y x:=by
 rw[bytesLess_eq,KA];simp
def Kah(hn:(l.map (·.1)).Nodup):((l.map (·.1)).mergeSort fun x y=>decide (x<=y))=(Lp l).map (·.1):=by
 let A:=(l.map (·.1)).mergeSort fun x y=>decide (x<=y)
 have hA:A.Perm (l.map (·.1)):=List.mergeSort_perm _ _;have hAp:A.Pairwise fun x y=>decide (x<=y)=true:=List.pairwise_mergeSort (fun a b c h1 h2=>by
  rw[y8]at h1 h2⊢;simp only[oh]at h1 h2⊢;exact Jg7 h1 h2) (fun a b=>by
  rw[y8,y8];cases h:Op.bytesLess b a with
  |false=>rfl
  |true=>rw[L3 h];rfl) _
 have hAn:A.Nodup:=hA.nodup_iff.2 hn;have hAr:EJ (A.map fun s=>(s,ŭ)):=by
  unfold EJ;rw[fG];refine(hAp.and hAn).imp ?_;rintro a b ⟨h1,h2⟩;rw[y8]at h1;simp only[oh]at h1;exact Qf h1 (Ne.symm h2)
 have hB:((Lp l).map (·.1)).Perm (l.map (·.1)):=(E3 l).map _;have hBr:EJ (((Lp l).map (·.1)).map fun s=>(s,ŭ)):=by
  have:=Jj hn;unfold EJ at this⊢;rw[fG,fG];exact this
 have:=congrArg (List.map Prod.fst) (Jy hAr hBr ((hA.trans hB.symm).map _));rw[OT,OT]at this;have e:∀L:List (List UInt8),L.map (Prod.fst∘fun s=>(s,ŭ))=L:=fun L=>by simp[Function.comp_def]
 rw[e,e]at this;exact this
def Kcr(hb:ns.length<=1500000000000):CA cx 166 [.own 1000 0 ns.length] [(1000,.row 9 1 (DP ns))] (.tup []) [(1000,.row 9 1 (DP (ns.mergeSort fun x y=>decide (x<=y))))]:=by
 unfold CA Al;refine⟨enters_of func166 kr rfl,fun β Im w vs hg hf=>?_⟩;obtain⟨v,rfl,hv⟩:=Ue hf;rcases yf hf hv (ZR ns)with⟨h0,rfl⟩|⟨loc,cap,d,CM,rfl,hc,TM,LN,WN,hH,hd⟩
 ·have he:ns=[]:=KH h0;subst he;have h:Calls Tryz.prog 166 #[.slice none 0 0] w fun e w'=>e=.returned (.tuple #[])/\w'=w:=Tryz.slices_Sort_string_none none 0 w
  refine h.mono ?_;rintro e w' ⟨rfl,rfl⟩;exact⟨_,_,_,β,Im,rfl,⟨rfl,by rw[List.mergeSort_nil]⟩,⟨[],rfl,rfl,by simp⟩,Ł hf⟩
 ·have BZ:=(hf.live 1000 _ loc DQ CM).1;have hH2:Sort.Holds encStr w loc.blk 0 ns.toArray:=fun j hj=>by
   have hjn:j<ns.length:=by simpa using hj
   have Ů:j<d.length:=omg;obtain⟨a,b⟩:=hH j (by simpa using Ů);refine⟨?_,b⟩;rw[a];obtain⟨p,e1,e2,e3⟩:=hd j _ [.str ns[j]] (C' Ů) (Ŭ (C' hjn));cases e1;have:=Ks (β:=β) e3;have x1:d.toArray[j]! = d[j]:=by simp[Ů]
   have x2:ns.toArray[j]! = ns[j]:=by simp[hjn]
   rw[x1,x2];exact congrArg some this
  have h:Calls Tryz.prog 166 #[.slice (some ⟨loc.blk,0,none⟩) ns.length cap] w fun e w'=>e=.returned (.tuple #[])/\∃q os,w'=Sort.grow (Sort.putRow encStr (Sort.ahead w q) loc.blk 0 (ns.mergeSort fun x y=>decide (x<=y)).toArray) os:=Tryz.slices_Sort_string loc.blk 0 cap ns w hH2 BZ omg
  refine h.mono ?_;rintro e w' ⟨rfl,q,os,rfl⟩;have JB:(ns.mergeSort fun x y=>decide (x<=y)).length=ns.length:=List.length_mergeSort _;refine⟨_,_,_,β,Im,rfl,⟨rfl,rfl⟩,⟨[],rfl,rfl,by simp⟩,yg hf CM (k:=q) (os:=os) (enc:=encStr) (d:=ns.mergeSort fun x y=>decide (x<=y)) rfl (by rw[JB];omega) (by rw[ZR];exact CS _) fun i x e hx he=>?_⟩;rw[Ŭ hx]at he;cases he;exact⟨.str x,rfl,rfl,BW.str _⟩
def Kdi(hb:ns.length<=1500000000000):CA cx 135 [.fn 167 [1000]] [(1000,.var 61 [.p (.sl (DP ns))])] (.p (.sl (DP (ns.mergeSort fun x y=>decide (x<=y))))) []:=by
 have hC:=Kct ns hb;have hS:=Kcr ns hb;have JB:(ns.mergeSort fun x y=>decide (x<=y)).length=ns.length:=List.length_mergeSort _;have DR:(DP (ns.mergeSort fun x y=>decide (x<=y))).take ns.length=DP (ns.mergeSort fun x y=>decide (x<=y)):=DK (by rw[ZR];omega);have DO:(ns.length<=(DP (ns.mergeSort fun x y=>decide (x<=y))).length)=True:=AE (by rw[ZR];omega);generalize DP (ns.mergeSort fun x y=>decide (x<=y))=R at *
 (refine CB func135 ?_);(repeat'(first|((first|refine BU hC ?_|refine BU hS ?_);simp only[go_sem,simprocAttr,DR,DO])|fail))
def ZS(es:List (PV×PV))(l:List KT):Prop:=JV Uy es/\∀k u,(k,u)∈es ↔ ∃p∈l,k=.str p.1/\u=.sl (BP (p.2.enc []))
def Kd3:ZS [] []:=⟨JV.nil,by simp⟩
def Kgu(h:ZS es l)(hp:p∈l):∃j,Cl (.str p.1) es 0=some (some (j,.sl (BP (p.2.enc [])))):=Jkm Õ h.1 ((h.2 _ _).2 ⟨p,hp,rfl,rfl⟩)
def Kfo{nm:List UInt8}(h:ZS es l)(hn:∀p∈l,p.1≠nm):Cl (.str nm) es 0=some none:=Jep Õ ⟨nm,rfl⟩ h.1 fun u hu=>by
 obtain⟨p,hp,e,_⟩:=(h.2 _ _).1 hu;injection e with e
 exact hn p hp e.symm
def Kfg(h:ZS es l)(hn:∀q∈l,q.1≠p.1):∃CN,LO (.str p.1) (.sl (BP (p.2.enc []))) es=some CN/\ZS CN (l++[p]):=by
 obtain⟨CN,h1,h2,h3⟩:=Jhy (v:=.sl (BP (p.2.enc []))) Õ (k:=.str p.1) ⟨p.1,rfl⟩ h.1;refine⟨CN,h1,h2,fun k u=>?_⟩;rw[h3];constructor
 ·rintro(⟨rfl,rfl⟩|⟨_,hk⟩)
  ·exact⟨p,by simp,rfl,rfl⟩
  ·obtain⟨q,hq,e1,e2⟩:=(h.2 _ _).1 hk;exact⟨q,aL _ hq,e1,e2⟩
 ·rintro⟨q,hq,rfl,rfl⟩;rcases H'.1 hq with hq|hq
  ·refine .inr ⟨fun e=>?_,(h.2 _ _).2 ⟨q,hq,rfl,rfl⟩⟩;injection e with e
   exact hn q hq e
  ·rw[KI]at hq;subst hq;exact .inl ⟨rfl,rfl⟩
def ů(l:List KT)(hv:(A1 l).enc.length<=1350000000000)(hp:∀p∈l,valid p.1=true/\p.1.length<=1000000)(hn:(l.map (·.1)).Nodup):CA cx 89 [.p (.sl (Bd l)),.p (.sl (A4 l))] [] (.tup [.sl (BP ((nd 6 (Lp l)).enc [])),.int .i64 0]) []:=by
 have GB:=KE (A1 l);rw[Ca]at GB;have hVa:=Kej (l.map (·.1));have y9:=Kdi (l.map (·.1)) (by rw[HM];omega);rw[Kah hn]at y9;rw[<-xi]at hVa y9;rw[<-xi]at y9;have hilen:(Lp l).length=l.length:=(E3 l).length_eq;have hL:=Φ (Lp l) (by rw[Hm (E3 l)];omega);rw[show BM.mk 6 [] false 0 (A1 (Lp l))=nd 6 (Lp l)from rfl]at hL;generalize BP ((nd 6 (Lp l)).enc [])=en at *
 (refine CK func89 ?_;simp only[go_sem,simprocAttr,A9,A5]);refine CL.loop (fun x:Nat×List (PV×PV)=>⟨Ba 66 [(0,.p (.sl (Bd l))),(1,.p (.sl (A4 l))),(6,.mref 20),(21,.p (.sl (Bd l))),(22,.p (.int .i64 l.length)),(23,.p (.int .i64 x.1))],[(20,.obj (.mp x.2))]⟩) (fun x=>x.1<=l.length/\ZS x.2 (l.take x.1)) (fun x=>l.length-x.1) (0,[]) CH ⟨EK _,Kd3⟩ ?_;rintro⟨i,es⟩ ⟨h1,h2⟩;simp only at h1 h2;by_cases BZ:i<l.length
 ·have c1:((i:Int)<(l.length:Int))=True:=AE omg;obtain⟨p,XW⟩:∃p,l[i]?=some p:=⟨_,C' BZ⟩
  have KX:=D4 XW;obtain⟨gj,D'⟩:=hp p KX;have g1:(Bd l)[i]?=some [.str p.1]:=by simp[Bd,XW]
  have g2:(A4 l)[i]?=some [.sl (BP (p.2.enc []))]:=by simp[A4,XW]
  have GR:∀q∈l.take i,q.1≠p.1:=fun q hq e=>by
   have h3:(l.take (i+1)).map (·.1)=(l.take i).map (·.1)++[p.1]:=by rw[NA,XW];simp
   have h4:((l.take (i+1)).map (·.1)).Nodup:=by rw[aP];exact hn.sublist (List.take_sublist _ _)
   rw[h3,bw]at h4;exact h4.2.2 q.1 (FB.2 ⟨q,hq,rfl⟩) p.1 sm e
  have f1:=Kfo h2 GR;obtain⟨CN,f2,f3⟩:=Kfg h2 GR;have hU:=Fi p.1 omg;rw[gj]at hU;have DR:l.take (i+1)=l.take i++[p]:=by rw[NA,XW];rfl
  (refine CC ?_;simp only[go_sem,simprocAttr,c1,g1,f1,DM (i:=i) omg]);(repeat'(first|((refine BU hU ?_);simp only[go_sem,simprocAttr,g2,f2,DM (i:=i) omg])|fail))
  all_goals exact⟨(i+1,CN),⟨by simp only;omega,by simp only;rw[DR];exact f3⟩,by simp only;omega,CH⟩
 ·obtain rfl:i=l.length:=omg;have c1:((l.length:Int)<(l.length:Int))=False:=AD omg;rw[bz]at h2;(refine CC ?_;simp only[go_sem,simprocAttr,c1]);(repeat'(first|((first|refine BU hVa ?_|refine BU y9 ?_);simp only[go_sem,simprocAttr,A9,hilen])|fail));refine HD (dI _ (i:=12) (d:=61) 25 1 (.inl de) rfl) ?_;simp only[St.nilOwn,St.nilReg,go_sem,simprocAttr,A9,A5,c1,hilen,if_false];generalize hK:Lp l=K at *
  refine CL.loop (fun k:Nat=>⟨Ba 66 [(6,.mref 20),(11,.p (.sl (Bd K))),(12,.own 61 0 k),(50,.p (.sl (Bd K))),(51,.p (.int .i64 l.length)),(52,.p (.int .i64 k))],[(61,.row 25 1 (A4 (K.take k))),(20,.obj (.mp es))]⟩) (fun k=>k<=l.length) (fun k=>l.length-k) 0 CH (EK _) ?_;rintro k hk;by_cases BZ:k<l.length
  ·have c2:((k:Int)<(l.length:Int))=True:=AE omg;obtain⟨p,XW⟩:∃p,K[k]?=some p:=⟨_,C' omg⟩
   have KX:p∈l:=by
    have:=D4 XW;rw[<-hK]at this;exact(E3 l).mem_iff.1 this
   have g1:(Bd K)[k]?=some [.str p.1]:=by simp[Bd,XW]
   obtain⟨j,f1⟩:=Kgu h2 KX;have JB:(A4 (K.take k)).length=k:=by rw[A5,GF];omega
   have DR:A4 (K.take (k+1))=A4 (K.take k)++[[.sl (BP (p.2.enc []))]]:=by rw[NA,XW];simp[A4]
   (refine CC ?_;simp only[go_sem,simprocAttr,c2,g1,f1,JB,DM (i:=k) omg]);(repeat'(first|(refine And.intro (by first|(simp;done)|(simp;omega)) ?_)|refine EA ?_|fail))
   all_goals exact⟨k+1,omg,omg,by rw[DR];exact CH⟩
  ·obtain rfl:k=l.length:=omg;have QG:K.take l.length=K:=DK omg;have JI:(A4 K).take l.length=A4 K:=DK (by rw[A5];omega);have DO:(l.length<=K.length)=True:=AE omg;(refine CC ?_;simp only[go_sem,simprocAttr,A5,c1,hilen,QG,JI,A5,CS]);(repeat'(first|((refine BU hL ?_);simp only[go_sem,simprocAttr])|fail))
end Go.LX
namespace Go.Proofs
open Go.Shelf Go.LX Go.Proofs.Tryz
def NX:Go.Shelf.Ren:=⟨fun|161=>138|231=>170|227=>171|233=>172|235=>173|228=>198|197=>199|151=>200|260=>234|152=>235|137=>190|119=>258|224=>259|225=>260|217=>217|266=>246|n=>n,fun|9=>9|4=>4|3=>3|5=>5|117=>172|116=>171|0=>0|124=>175|105=>196|21=>21|119=>161|46=>165|139=>164|138=>163|n=>n,fun|3=>0|4=>1|n=>n⟩
def J31:Go.Proofs.Lays.n161 Tryz.prog NX:={
 mixed:=kr
 f119:=func258.trans AO
 f137:=func190.trans AO
 f151:=func200.trans AO
 f152:=func235.trans AO
 f161:=func138.trans AO
 f197:=func199.trans AO
 f217:=func217.trans AO
 f224:=func259.trans AO
 f225:=func260.trans AO
 f227:=func171.trans AO
 f228:=func198.trans AO
 f231:=func170.trans AO
 f233:=func172.trans AO
 f235:=func173.trans AO
 f260:=func234.trans AO
 f266:=func246.trans AO
 t0:=underlying0
 a0:=isAgg0
 z0:=sizeOf0
 v0:=zeroValue0
 t3:=underlying3
 a3:=isAgg3
 z3:=sizeOf3
 v3:=zeroValue3
 t4:=underlying4
 a4:=isAgg4
 z4:=sizeOf4
 v4:=zeroValue4
 t5:=underlying5
 a5:=isAgg5
 z5:=sizeOf5
 v5:=zeroValue5
 t9:=underlying9
 a9:=isAgg9
 z9:=sizeOf9
 v9:=zeroValue9
 t21:=underlying21
 a21:=isAgg21
 z21:=sizeOf21
 v21:=zeroValue21
 t46:=underlying165
 a46:=isAgg165
 z46:=sizeOf165
 v46:=zeroValue165
 t105:=underlying196
 a105:=isAgg196
 z105:=sizeOf196
 v105:=zeroValue196
 t116:=underlying171
 a116:=isAgg171
 z116:=sizeOf171
 t117:=underlying172
 a117:=isAgg172
 z117:=sizeOf172
 v117:=zeroValue172
 t119:=underlying161
 a119:=isAgg161
 z119:=sizeOf161
 t124:=underlying175
 a124:=isAgg175
 z124:=sizeOf175
 v124:=zeroValue175
 t138:=underlying163
 a138:=isAgg163
 z138:=sizeOf163
 v138:=zeroValue163
 t139:=underlying164
 a139:=isAgg164
 z139:=sizeOf164
 v139:=zeroValue164
 g3:=kr
 g4:=by kernel_rfl }
open Go.RowKit in
def Tryz.strings_TrimLeft_one(s:ByteArray)(c:UInt8)(hc:c.toNat<128)(w:World) :
  Calls Tryz.prog 138 #[.string s,.string ⟨#[c]⟩] w fun e w'=>e=.returned (.string ⟨(Lib.trimLeftB s.data.toList c).toArray⟩)/\w'=w:=Any.strings_TrimLeft_one J31 s c hc w
def NY:Go.Shelf.Ren:=⟨fun|162=>139|232=>174|227=>171|234=>175|236=>176|228=>198|271=>201|151=>200|120=>236|197=>199|152=>235|260=>234|137=>190|119=>258|224=>259|225=>260|217=>217|266=>246|n=>n,fun|9=>9|4=>4|3=>3|5=>5|117=>172|116=>171|0=>0|124=>175|21=>21|105=>196|46=>165|119=>161|139=>164|138=>163|n=>n,fun|3=>0|4=>1|n=>n⟩
def J3s:Go.Proofs.Lays.n162 Tryz.prog NY:={
 mixed:=kr
 f119:=func258.trans AO
 f120:=func236.trans AO
 f137:=func190.trans AO
 f151:=func200.trans AO
 f152:=func235.trans AO
 f162:=func139.trans AO
 f197:=func199.trans AO
 f217:=func217.trans AO
 f224:=func259.trans AO
 f225:=func260.trans AO
 f227:=func171.trans AO
 f228:=func198.trans AO
 f232:=func174.trans AO
 f234:=func175.trans AO
 f236:=func176.trans AO
 f260:=func234.trans AO
 f266:=func246.trans AO
 f271:=func201.trans AO
 t0:=underlying0
 a0:=isAgg0
 z0:=sizeOf0
 v0:=zeroValue0
 t3:=underlying3
 a3:=isAgg3
 z3:=sizeOf3
 v3:=zeroValue3
 t4:=underlying4
 a4:=isAgg4
 z4:=sizeOf4
 v4:=zeroValue4
 t5:=underlying5
 a5:=isAgg5
 z5:=sizeOf5
 v5:=zeroValue5
 t9:=underlying9
 a9:=isAgg9
 z9:=sizeOf9
 v9:=zeroValue9
 t21:=underlying21
 a21:=isAgg21
 z21:=sizeOf21
 v21:=zeroValue21
 t46:=underlying165
 a46:=isAgg165
 z46:=sizeOf165
 v46:=zeroValue165
 t105:=underlying196
 a105:=isAgg196
 z105:=sizeOf196
 v105:=zeroValue196
 t116:=underlying171
 a116:=isAgg171
 z116:=sizeOf171
 t117:=underlying172
 a117:=isAgg172
 z117:=sizeOf172
 v117:=zeroValue172
 t119:=underlying161
 a119:=isAgg161
 z119:=sizeOf161
 t124:=underlying175
 a124:=isAgg175
 z124:=sizeOf175
 v124:=zeroValue175
 t138:=underlying163
 a138:=isAgg163
 z138:=sizeOf163
 v138:=zeroValue163
 t139:=underlying164
 a139:=isAgg164
 z139:=sizeOf164
 v139:=zeroValue164
 g3:=kr
 g4:=by kernel_rfl }
open Go.RowKit in
def Tryz.strings_TrimRight_one(s:ByteArray)(c:UInt8)(hc:c.toNat<128)(w:World)(hs:s.size<=9223372036854775807) :
  Calls Tryz.prog 139 #[.string s,.string ⟨#[c]⟩] w fun e w'=>e=.returned (.string ⟨(Lib.trimRightB s.data.toList c).toArray⟩)/\w'=w:=Any.strings_TrimRight_one J3s s c hc w hs
end Go.Proofs
set_option maxRecDepth 100000
set_option maxHeartbeats 2000000
namespace Go.LX
open Go Go.RowKit Go.Proofs Go.Proofs.Tryz
variable (s:List UInt8){i:Nat}(ks:List BM)(o:List (List Nat))
section
attribute [local irreducible] Al Bi CL
def J96:CA cx 138 [.p (.str s),.p (.str [48])] [] (.p (.str (RU s))) []:=by
 refine fX (v:=.string ⟨⟨RU s⟩⟩) (enters_of func138 kr rfl) rfl (fun β w Im=>BW.str _) fun β Im w vs hg hf=>?_
 obtain⟨v,u,rfl,h1,h2⟩:=bN hf;cases Ks h1;cases Ks h2;refine(Tryz.strings_TrimLeft_one ⟨⟨s⟩⟩ 48 de w).mono fun e w' ⟨h,hw⟩=>⟨h,by subst hw;exact Below.refl _ _⟩
def J80(hs:s.length<=9223372036854775807):CA cx 139 [.p (.str s),.p (.str [48])] [] (.p (.str (I7 s))) []:=by
 refine fX (v:=.string ⟨⟨I7 s⟩⟩) (enters_of func139 kr rfl) rfl (fun β w Im=>BW.str _) fun β Im w vs hg hf=>?_
 obtain⟨v,u,rfl,h1,h2⟩:=bN hf;cases Ks h1;cases Ks h2;refine(Tryz.strings_TrimRight_one ⟨⟨s⟩⟩ 48 de w hs).mono fun e w' ⟨h,hw⟩=>⟨h,by subst hw;exact Below.refl _ _⟩
def J4j(neg:Bool)(s:List UInt8)(e:Int)(hs:s.length<=1000000) :
  CA cx 90 [.p (.bool neg),.p (.str s),.p (.int .i64 e)] [] (.tup [.agg (LD neg s e).1.pv,.int .i64 (LD neg s e).2]) []:=by
 have hl:=J95 s;have hr:=ü (RU s);refine CB func90 ?_;(repeat'(first|(apply BY<;>intro h)|((first|(refine BU (J6s _ omg) ?_)|(refine BU (J96 _) ?_)|(refine BU (J80 _ omg) ?_)|(refine BU (Kb5 _ _ omg omg) ?_));simp only[go_sem,simprocAttr])|fail))
 all_goals(try simp(disch:=omega)only [Aa,Qs,Ab,wP,Mf,w6,w7,w8,w9]at *)
 ·simp[LD, *,VB,SI]
 ·simp[LD, *,VB,SI]
 ·simp[LD, *,VB,SI]
 ·simp[LD, *,VB,SI]
 ·simp[LD, *,VB,SI]
 ·rw[J36]at h;by_cases c1:e+((RU s).length-(I7 (RU s)).length) < -1000
  ·simp[LD, *,VB,SI]
  ·have c2:1000<((I7 (RU s)).length:Int)+(e+((RU s).length-(I7 (RU s)).length)):=omg;simp[LD, *,VB,SI]
 ·rw[J36]at h;have c1:¬e+((RU s).length-(I7 (RU s)).length) < -1000:=omg;have c2:¬1000<((I7 (RU s)).length:Int)+(e+((RU s).length-(I7 (RU s)).length)):=omg;simp[LD, *,VB,SI]
def J8u(h:i<10^20):(LD false (Lib.decDigits i) 0).2=0/\[(LD false (Lib.decDigits i) 0).1.pv]=BP ((JA i).enc []):=by
 have hl:=Xk 19 i omg;have hfg:MT (Lib.decDigits i)=true:=by
  rw[J3w];unfold Pk;rw[SQ];intro c hc;have:=ä i c hc;unfold GV at this;simp[tf,this.1,this.2]
 by_cases h0:i=0
 ·subst h0;have hd:Lib.decDigits 0=[48]:=by rw[Lib.decDigits];rfl
  have hs:(RU (Lib.decDigits 0)).length=0:=by rw[hd];rfl
  have e0:BP ((JA 0).enc [])=[[.int .i64 3,.int .i64 0,.str [],.str [],.bool false,.int .i64 0]]:=by
   unfold JA;rw[AB rfl,A6,Bl];rfl
  rw[e0];unfold LD;rw[AA (by rw[hfg];decide),AB hs];exact⟨rfl,rfl⟩
 ·have hs:RU (Lib.decDigits i)=Lib.decDigits i:=by
   refine J78 fun e=>?_
   cases hd:Lib.decDigits i with
   |nil=>exact absurd hd (U6 i)
   |cons c r =>
    rw[hd,uB]at e;exact h0 (xh i c r hd e).2
  have hp:=Ĳ h0;have HI:=ü (Lib.decDigits i);have e0:BP ((JA i).enc [])=[[.int .i64 3,.int .i64 0,.str [],.str (I7 (Lib.decDigits i)),.bool false,.int .i64 (((Lib.decDigits i).length-(I7 (Lib.decDigits i)).length:Nat):Int)]]:=by
   unfold JA;rw[AA h0,A6,Bl];rfl
  have em:LD false (Lib.decDigits i) 0=({ VB with kind:=3,s:=I7 (Lib.decDigits i),neg:=false,e:=(0:Int)+((Lib.decDigits i).length-(I7 (Lib.decDigits i)).length) },0):=by
   unfold LD;rw[AA (by rw[hfg];decide),hs,AA omg,AA omg,AA omg];simp only;rw[AA omg,AA omg,AA omg]
  rw[em,e0];refine⟨rfl,?_⟩;have ee:(0:Int)+(((Lib.decDigits i).length:Int)-((I7 (Lib.decDigits i)).length:Int))=(((Lib.decDigits i).length-(I7 (Lib.decDigits i)).length:Nat):Int):=omg;rw[ee];rfl
def J46(g:Bool)(e:Int)(BL:BO)(hv:BL.enc.length<=1350000000000):CA cx 86 [.p (.sl (BP ((BM.mk 6 s g e BL).enc [])))] [] (.p (.sl (Bd BL.list))) []:=Ρ [] s g e BL omg
def J1s(k:Int)(s:List UInt8)(g:Bool)(e:Int)(BL:BO)(hk:¬k=6):CA cx 86 [.p (.sl (BP ((BM.mk k s g e BL).enc [])))] [] (.p .snil) []:=by
 have e6:=AD hk;(refine CK func86 ?_;simp only[go_sem,simprocAttr,Cc,e6])
 skip
def J74(key x:BM)(h1:(key.enc []).length<=600000000000)(h2:(x.enc []).length<=600000000000):CA cx 89 [.p (.sl [[.str [107,101,121]],[.str [118,97,108,117,101]]]),.p (.sl [[.sl (BP (key.enc []))],[.sl (BP (x.enc []))]])] [] (.tup [.sl (BP ((VF key x).enc [])),.int .i64 0]) []:=by
 have CY:(A1 [(FE,key),(EY,x)]).enc.length=(key.enc []).length+(x.enc []).length:=by
  rw[show A1 [(FE,key),(EY,x)]=.cons FE key (.cons EY x .nil)from rfl,A0,A0,Bl,DC,DC,G7 key,G7 x];rfl
 have hO:=ů [(FE,key),(EY,x)] omg (by
   intro p hp;simp only[DN,Ebj,or_false]at hp;rcases hp with rfl|rfl
   ·exact⟨(by decide:valid FE=true),(by decide:FE.length<=1000000)⟩
   ·exact⟨(by decide:valid EY=true),(by decide:EY.length<=1000000)⟩) (by simp[FE,EY])
 have ı:Lp [(FE,key),(EY,x)]=[(FE,key),(EY,x)]:=by
  have BZ:Op.bytesLess EY FE=false:=de;have MQ:Op.bytesLess FE EY=true:=de;simp[Lp,EV,BZ,MQ]
 rw[ı]at hO;exact hO
def J48(u:Nat):Lib.itoa (u:Int)=Lib.decDigits u:=by unfold Lib.itoa;rw[AA omg];simp
def J9j(v:BM)(ok:EZ v)(hv:(v.enc []).length<=450000000000):CA cx 41 [.p (.sl (BP (v.enc [])))] [] (BV (Vi v)) []:=by
 have hP:=vR v omg;have DI:=QH v;have HI:=SN (CV v);obtain⟨k,s,g,e,BL⟩:=v;have ES:=Cc [] k s g e BL;have cW:CV (.mk k s g e BL)=BL.list.map (·.2):=rfl;have mo:(CV (.mk k s g e BL)).length=BL.list.length:=by rw[cW,HM]
 have h9:((BM.mk k s g e BL).enc []).length=BL.enc.length+1:=by rw[A6,DH]
 have hkx:∀{i:Nat} {p:KT},BL.list[i]?=some p->(CQ (CV (.mk k s g e BL)))[i]?=some [.sl (BP (p.2.enc []))]:=fun{i p} h=>RW (by rw[cW,Eam,h];rfl)
 have F':∀p∈BL.list,(p.2.enc []).length<=450000000000:=fun p hp=>by
  have:=WA (show p.2∈CV (.mk k s g e BL)from FB.2 ⟨p,hp,rfl⟩);omega
 have y':(CQ (CV (.mk k s g e BL))).length=BL.list.length:=by rw[FZ,mo]
 by_cases k6:k=6
 ·subst k6;have hN:=J46 s g e BL omg;have mq:ER (NT BL.list)<=1350000000000:=by have:=yY BL.list;rw[<-cW]at this;omega
  have hL:=bo (NT BL.list) mq;rw[show Vi (.mk 6 s g e BL)=.ok (CG (NT BL.list))from rfl,BV];have EF:(NT BL.list).length=BL.list.length:=by unfold NT;simp
  have Ű:∀{i:Nat} {p:KT},BL.list[i]?=some p->(NT BL.list)[i]?=some (VF (GY p.1) p.2):=fun{i p} h=>by unfold NT;rw[Eam,h];rfl
  have JY:∀{i:Nat} {p:KT},BL.list[i]?=some p->(Bd BL.list)[i]?=some [.str p.1]:=fun{i p} h=>by simp[Bd,h]
  generalize CQ (CV (.mk 6 s g e BL))=KL at *
  generalize BP ((BM.mk 6 s g e BL).enc [])=V at *
  generalize NT BL.list=E at *
  (refine CK func41 ?_;simp only[go_sem,simprocAttr,ES]);(repeat'(first|((first|refine BU hN ?_|refine BU hP ?_);simp only[go_sem,simprocAttr,y'])|fail));refine HD (dI _ (i:=5) (d:=57) 25 1 (.inl de) rfl) ?_;simp only[St.nilOwn,St.nilReg,go_sem,simprocAttr,ES,y'];refine CL.loop (fun i:Nat=>⟨Ba 61 [(0,.p (.sl V)),(4,.p (.sl (Bd BL.list))),(5,.own 57 0 i),(21,.p (.sl KL)),(22,.p (.int .i64 BL.list.length)),(23,.p (.int .i64 i))],[(57,.row 25 1 (CQ (E.take i)))]⟩) (fun i=>i<=BL.list.length) (fun i=>BL.list.length-i) 0 CH (EK _) ?_;rintro i hi;by_cases BZ:i<BL.list.length
  ·have c1:((i:Int)<(BL.list.length:Int))=True:=AE omg;obtain⟨p,hp⟩:∃p,BL.list[i]?=some p:=⟨_,C' BZ⟩
   have KX:=D4 hp;have g1:=hkx hp;have g2:=JY hp;have g3:=Ű hp;have hI:=N0 (i:Int) omg omg;rw[J48]at hI;obtain⟨m0,m1⟩:=J8u (i:=i) omg;have hM:=J4j false (Lib.decDigits i) 0 (by have:=Xk 19 i omg;omega);rw[m0]at hM;have hT:=Ľ p.1;have cU:=J74 (GY p.1) p.2 (by rw[uz];omega) (by have:=F' p KX;omega);have JB:(CQ (E.take i)).length=i:=by rw[FZ,GF];omega
   have DR:CQ (E.take (i+1))=CQ (E.take i)++[[.sl (BP ((VF (GY p.1) p.2).enc []))]]:=by rw[YI g3,V'];rfl
   rw[SI]at hM;(refine CC ?_;simp only[go_sem,simprocAttr,c1,g1,DM (i:=i) omg]);(repeat'(first|(refine And.intro (by first|(simp;done)|(simp;omega)) ?_)|refine EA ?_|((first|refine BU hI ?_|refine BU hM ?_|refine BU hT ?_|refine BU cU ?_);simp only[go_sem,simprocAttr,ES,g2,JB,DM (i:=i) omg])|fail))
   all_goals exact⟨i+1,omg,omg,by rw[DR];exact CH⟩
  ·obtain rfl:i=BL.list.length:=omg;have c1:((BL.list.length:Int)<(BL.list.length:Int))=False:=AD omg;have QG:E.take BL.list.length=E:=DK omg;have JI:(CQ E).take BL.list.length=CQ E:=DK (by rw[FZ];omega);have DO:(BL.list.length<=(CQ E).length)=True:=AE (by rw[FZ];omega);(refine CC ?_;simp only[go_sem,simprocAttr,c1,QG,JI,DO]);(repeat'(first|((refine BU hL ?_);simp only[go_sem,simprocAttr])|fail))
 ·by_cases k5:k=5
  ·subst k5;have hN:=J1s 5 s g e BL de;have mq:ER (ND 0 BL.list)<=1350000000000:=by have:=yZ BL.list 0;rw[<-cW]at this;omega
   have hL:=bo (ND 0 BL.list) mq;rw[show Vi (.mk 5 s g e BL)=.ok (CG (ND 0 BL.list))from rfl,BV];have EF:(ND 0 BL.list).length=BL.list.length:=Ĵ;have Ű:∀{i:Nat} {p:KT},BL.list[i]?=some p->(ND 0 BL.list)[i]?=some (VF (JA i) p.2):=fun{i p} h=>by have:=ĳ (i:=0) h;rw[MF]at this;exact this
   generalize CQ (CV (.mk 5 s g e BL))=KL at *
   generalize BP ((BM.mk 5 s g e BL).enc [])=V at *
   generalize ND 0 BL.list=E at *
   (refine CK func41 ?_;simp only[go_sem,simprocAttr,ES]);(repeat'(first|((first|refine BU hN ?_|refine BU hP ?_);simp only[go_sem,simprocAttr,y'])|fail));refine HD (dI _ (i:=5) (d:=57) 25 1 (.inl de) rfl) ?_;simp only[St.nilOwn,St.nilReg,go_sem,simprocAttr,ES,y'];refine CL.loop (fun i:Nat=>⟨Ba 61 [(0,.p (.sl V)),(5,.own 57 0 i),(21,.p (.sl KL)),(22,.p (.int .i64 BL.list.length)),(23,.p (.int .i64 i))],[(57,.row 25 1 (CQ (E.take i)))]⟩) (fun i=>i<=BL.list.length) (fun i=>BL.list.length-i) 0 CH (EK _) ?_;rintro i hi;by_cases BZ:i<BL.list.length
   ·have c1:((i:Int)<(BL.list.length:Int))=True:=AE omg;obtain⟨p,hp⟩:∃p,BL.list[i]?=some p:=⟨_,C' BZ⟩
    have KX:=D4 hp;have g1:=hkx hp;have g3:=Ű hp;have hI:=N0 (i:Int) omg omg;rw[J48]at hI;obtain⟨m0,m1⟩:=J8u (i:=i) omg;have hM:=J4j false (Lib.decDigits i) 0 (by have:=Xk 19 i omg;omega);rw[m0]at hM;have cU:=J74 (JA i) p.2 (by rw[ĵ];omega) (by have:=F' p KX;omega);rw[<-m1]at cU;have JB:(CQ (E.take i)).length=i:=by rw[FZ,GF];omega
    have DR:CQ (E.take (i+1))=CQ (E.take i)++[[.sl (BP ((VF (JA i) p.2).enc []))]]:=by rw[YI g3,V'];rfl
    rw[SI]at hM cU;(refine CC ?_;simp only[go_sem,simprocAttr,c1,g1,DM (i:=i) omg]);(repeat'(first|(refine And.intro (by first|(simp;done)|(simp;omega)) ?_)|refine EA ?_|((first|refine BU hI ?_|refine BU hM ?_|refine BU cU ?_);simp only[go_sem,simprocAttr,ES,JB,DM (i:=i) omg])|fail))
    all_goals exact⟨i+1,omg,omg,by rw[DR];exact CH⟩
   ·obtain rfl:i=BL.list.length:=omg;have c1:((BL.list.length:Int)<(BL.list.length:Int))=False:=AD omg;have QG:E.take BL.list.length=E:=DK omg;have JI:(CQ E).take BL.list.length=CQ E:=DK (by rw[FZ];omega);have DO:(BL.list.length<=(CQ E).length)=True:=AE (by rw[FZ];omega);(refine CC ?_;simp only[go_sem,simprocAttr,c1,QG,JI,DO]);(repeat'(first|((refine BU hL ?_);simp only[go_sem,simprocAttr])|fail))
  ·have HE:=ya ok;have c5:(k<5)=True:=AE omg;rw[show Vi (.mk k s g e BL)=.error 5 by unfold Vi;simp[BM.kind,k5,k6],BV];generalize BP ((BM.mk k s g e BL).enc [])=V at *
   (refine CK func41 ?_;simp only[go_sem,simprocAttr,ES,c5])
   all_goals rfl
def TY(ks:List BM):List Nat->List Nat->List Nat
 |[],b=>b
 |x::a,[]=>x::a
 |x::a,y::b=>if DT (HQ ks y) (HQ ks x)<0 then y::TY ks (x::a) b else x::TY ks a (y::b)
termination_by a b=>a.length+b.length
def zA(b:List Nat):TY ks [] b=b:=by rw[TY]
def zB(a:List Nat):TY ks a []=a:=by cases a<;>rw[TY]
def zC{ks:List BM}{x y:Nat}{a b:List Nat}(h:DT (HQ ks y) (HQ ks x)<0):TY ks (x::a) (y::b)=y::TY ks (x::a) b:=by rw[TY,AB h]
def zD{ks:List BM}{x y:Nat}{a b:List Nat}(h:¬DT (HQ ks y) (HQ ks x)<0):TY ks (x::a) (y::b)=x::TY ks a (y::b):=by rw[TY,AA h]
def ű(ks:List BM):∀(n:Nat) (a b:List Nat),a.length+b.length<=n->(TY ks a b).length=a.length+b.length
 |_,[],b,_=>by rw[zA];simp
 |_,x::a,[],_=>by rw[zB];simp
 |0,x::a,y::b,h=>by simp at h
 |n+1,x::a,y::b,h=>by
  simp only[DH]at h;by_cases c:DT (HQ ks y) (HQ ks x)<0
  ·rw[zC c,DH,ű ks n (x::a) b (by simp only[DH];omega)];simp only[DH];omega
  ·rw[zD c,DH,ű ks n a (y::b) (by simp only[DH];omega)];simp only[DH];omega
def vS(ks:List BM):∀(n:Nat) (a b:List Nat),a.length+b.length<=n->∀i,i∈TY ks a b↔i∈a\/i∈b
 |_,[],b,_,i=>by rw[zA];simp
 |_,x::a,[],_,i=>by rw[zB];simp
 |0,x::a,y::b,h,i=>by simp at h
 |n+1,x::a,y::b,h,i=>by
  simp only[DH]at h;by_cases c:DT (HQ ks y) (HQ ks x)<0
  ·rw[zC c,DN,vS ks n (x::a) b (by simp only[DH];omega)];simp only[DN];constructor
   ·rintro(h|(h|h)|h)
    ·exact .inr (.inl h)
    ·exact .inl (.inl h)
    ·exact .inl (.inr h)
    ·exact .inr (.inr h)
   ·rintro((h|h)|(h|h))
    ·exact .inr (.inl (.inl h))
    ·exact .inr (.inl (.inr h))
    ·exact .inl h
    ·exact .inr (.inr h)
  ·rw[zD c,DN,vS ks n a (y::b) (by simp only[DH];omega)];simp only[DN];constructor
   ·rintro(h|h|h)
    ·exact .inl (.inl h)
    ·exact .inl (.inr h)
    ·exact .inr h
   ·rintro((h|h)|h)
    ·exact .inl h
    ·exact .inr (.inl h)
    ·exact .inr (.inr h)
def Ų{ks:List BM}(ok:Nz ks):∀(n:Nat) (a b:List Nat),a.length+b.length<=n->a.Pairwise (fun x y=>Lg ks x y=true)->b.Pairwise (fun x y=>Lg ks x y=true)->(∀x∈a,∀y∈b,x<y)->(TY ks a b).Pairwise fun x y=>Lg ks x y=true
 |_,[],b,_,_,hb,_=>by rw[zA];exact hb
 |_,x::a,[],_,ha,_,_=>by rw[zB];exact ha
 |0,x::a,y::b,h,_,_,_=>by simp at h
 |n+1,x::a,y::b,h,ha,hb,YW=>by
  simp only[DH]at h;obtain⟨ha1,ha2⟩:=NC.1 ha;obtain⟨PB,dc⟩:=NC.1 hb;have QC:=YW x DQ y DQ;by_cases c:DT (HQ ks y) (HQ ks x)<0
  ·have hyx:Lg ks y x=true:=by unfold Lg;rw[AF];exact .inl c
   rw[zC c];refine NC.2 ⟨fun z hz=>?_,Ų ok n (x::a) b (by simp only[DH];omega) ha dc fun u hu v hv=>YW u hu v (EW _ hv)⟩;rcases(vS ks _ _ _ (CS _) z).1 hz with hz|hz
   ·rcases DN.1 hz with rfl|hz
    ·exact hyx
    ·exact yC ok hyx (ha1 z hz)
   ·exact PB z hz
  ·have vT:Lg ks x y=true:=by
    unfold Lg;rw[AF];have hs:=Ĉ (XI ok y) (XI ok x);by_cases h0:DT (HQ ks x) (HQ ks y)=0
    ·exact .inr ⟨h0,QC⟩
    ·exact .inl omg
   rw[zD c];refine NC.2 ⟨fun z hz=>?_,Ų ok n a (y::b) (by simp only[DH];omega) ha2 hb fun u hu v hv=>YW u (EW _ hu) v hv⟩;rcases(vS ks _ _ _ (CS _) z).1 hz with hz|hz
   ·exact ha1 z hz
   ·rcases DN.1 hz with rfl|hz
    ·exact vT
    ·exact yC ok vT (PB z hz)
def aI(ks:List BM):Nat->List Nat->List Nat|0,l=>l|n+1,l=>if l.length<2 then l else TY ks (aI ks n (l.take (l.length/2))) (aI ks n (l.drop (l.length/2)))
def vU{ks:List BM}(ok:Nz ks):∀(n:Nat) (l:List Nat),l.length<=n->l.Pairwise (· < ·)->(∀i,i∈aI ks n l↔i∈l)/\(aI ks n l).Pairwise (fun x y=>Lg ks x y=true)/\(aI ks n l).length=l.length
 |0,l,h,_=>by
  have:l=[]:=KH omg;subst this;exact⟨fun i=>Iff.rfl,.nil,rfl⟩
 |n+1,l,h,hp=>by
  rw[aI];by_cases h2:l.length<2
  ·rw[AB h2];refine⟨fun i=>Iff.rfl,?_,rfl⟩
   match l,h2 with
   |[],_=>exact .nil
   |[x],_=>exact List.pairwise_singleton _ _
  ·rw[AA h2];have e:l.take (l.length/2)++l.drop (l.length/2)=l:=PO _ _;have IA:=hp;rw[<-e,fE]at IA;obtain⟨p1,p2,p3⟩:=IA;obtain⟨a1,a2,a3⟩:=vU ok n (l.take (l.length/2)) (by rw[GF];omega) p1;obtain⟨b1,b2,b3⟩:=vU ok n (l.drop (l.length/2)) (by rw[KO];omega) p2;refine⟨fun i=>?_,Ų ok _ _ _ (CS _) a2 b2 fun x hx y hy=>p3 x ((a1 x).1 hx) y ((b1 y).1 hy),?_⟩
   ·rw[vS ks _ _ _ (CS _),a1,b1,<-H',e]
   ·rw[ű ks _ _ _ (CS _),a3,b3,GF,KO];omega
def Kc2{ks:List BM}(ok:Nz ks):aI ks ks.length (List.range ks.length)=IJ ks:=by
 obtain⟨h1,h2,_⟩:=vU ok ks.length (List.range ks.length) sm List.pairwise_lt_range;exact J6k ok (fun i=>by rw[h1,List.mem_range]) h2
def oT:Prop:=Nz ks/\ks.length<=1500000000000/\∀t∈ks,(t.enc []).length<=1500000000000
def Kg4(hk:oT ks)(x y:Nat)(hx:x<ks.length)(hy:y<ks.length):CA cx 146 [.p (.int .i64 x),.p (.int .i64 y),.eptr [.sl (CQ ks)]] [] (.p (.bool (decide (DT (HQ ks x) (HQ ks y)<0)))) []:=by
 obtain⟨a,ha⟩:∃a,ks[x]?=some a:=⟨_,C' hx⟩
 obtain⟨b,hb⟩:∃b,ks[y]?=some b:=⟨_,C' hy⟩
 have ga:=RW ha;have gb:=RW hb;have ma:=D4 ha;have mb:=D4 hb;have hC:=x9 _ a b (CS _) (hk.1 a ma) (hk.1 b mb) (hk.2.2 a ma) (hk.2.2 b mb);rw[XH ha,XH hb];refine CB func146 ?_;(repeat'(first|((first|refine EG ?_|refine DS hC ?_);simp only[go_sem,simprocAttr,ga,gb])|fail))
end
def J2i(s:St)(d:Nat){T:TypeId}{ls:List L}{ps:List PV}(hr:Am d s.regs=some (.var T ls))(hp:Bg L.pure? ls=some ps):s.Le (Dx d (some (.ar ps)) s):=by
 rintro Γ a w ⟨ms,CZ,β,Im,hx⟩;exact⟨ms,CZ,β,_,hx.freezeZ d (.ar ps) ⟨_,_,hx.fit.regs d _ (Ax hr),hp⟩ _ (Ax hr)⟩
def bp:L->Bool|.p _=>true|.eptr _=>true|.fn _ []=>true|.tup _=>true|_=>false
section
variable {X:Cx} {ro:Option Nat} {ops:Array Oper}
def Kfb(o:Oper):Bool:=o.guard.isNone&&match o.op with
 |.move _=>true
 |.extract ..=>true
 |.call { callee:=.value _,args:=_,argTypes:=_ }=>true
 |_=>false
def Kge(s:St)(o:Oper):Prop:=∀x∈o.op.operands.toList,bp (s.get x)=true/\(Kfb o=true\/EC (s.get x)=true)
def mr(X:Cx)(ds:List (Option Tmp))(ops:List Oper)(E:St->Prop):List Nat->St->Prop
 |[],s=>E s
 |i::I,s=>match ops[i]? with
  |some o=>Kge s o/\YS X ds s o fun l=>bp l=true/\mr X ds ops E I (s.put o.dst l)
  |none=>False
def mv(ops:Array Oper)(k:Nat):List Nat->Array Bool->Bool
 |[],_=>true
 |i::I,BN=>(Region.ready .any ops BN).contains i&&(Region.free .any ops BN i&&(decide (i<k)&&((match ops[i]? with|some o=>lC o||Kfb o|none=>false)&&((List.range ops.size).all (fun j=>decide (j<k)||(OJ .any ops ops.size i j||match ops[j]? with|some o=>lD o||lE o|none=>false))&&mv ops k I (BN.setIfInBounds i true)))))
end
section
variable {X:Cx} {ds:List (Option Tmp)} {t:List L} {r:BX} {E:St->Prop} {dst:Option Tmp} {ty:TypeId} {ps:String} {af:Array Edge} {g:Option (Nat×Bool)}
def kfarC(dst:Option Tmp)(C:St->Prop)(s:St)(l:L):Prop:=bp l=true/\C (s.put dst l)
def ų{l:L}:(bp l=true/\EC l=true)=(EC l=true):=by
 cases l<;>simp[bp,EC]
end
section
attribute [local irreducible] Al Bi CL
def Kb6(hk:oT ks)(a b:List Nat)(ha:∀i∈a,i<ks.length)(hb:∀i∈b,i<ks.length)(hl:a.length+b.length<=1500000000000):CA cx 184 [.p (.sl (CJ a)),.p (.sl (CJ b)),.p (.clo 146 [.sl (CQ ks)])] [] (.p (.sl (CJ (TY ks a b)))) []:=by
 have wl:IntKind.i64.wrap ((a.length:Int)+(b.length:Int))=((a.length+b.length:Nat):Int):=by rw[Aa omg omg];omega
 have wl0:((0:Int)<=((a.length+b.length:Nat):Int))=True:=AE omg;(refine CK func184 ?_;simp only[go_sem,simprocAttr,NV,wl,wl0]);(repeat'(first|refine EA ?_|fail));refine CL.loop (fun x:List Nat×List Nat×List Nat=>⟨Ba 51 [(0,.p (.sl (CJ x.2.1))),(1,.p (.sl (CJ x.2.2))),(2,.p (.clo 146 [.sl (CQ ks)])),(7,.own 13 0 x.1.length)],[(13,.row 3 1 (CJ x.1))]⟩) (fun x=>TY ks a b=x.1++TY ks x.2.1 x.2.2/\(∀i∈x.2.1,i<ks.length)/\(∀i∈x.2.2,i<ks.length)/\x.1.length+x.2.1.length+x.2.2.length<=a.length+b.length) (fun x=>x.2.1.length+x.2.2.length) ([],a,b) CH ⟨rfl,ha,hb,by simp⟩ ?_;rintro⟨o,u,v⟩ ⟨h1,h2,h3,h4⟩;simp only at h1 h2 h3 h4;have vV:∀n:Nat,CJ o++[[.int .i64 (n:Int)]]=CJ (o++[n]):=fun n=>(oN o [n]).symm
 cases u with
 |nil =>
  rw[zA]at h1;rw[h1];have c1:((0:Int)<((0:Nat):Int))=False:=AD omg;have WH:CJ o++CJ v=CJ (o++v):=(oN o v).symm;have ht:(CJ (o++v)).take (o.length+v.length)=CJ (o++v):=DK sm;have JB:(o.length+v.length<=(o++v).length)=True:=AE sm;have EF:=mU v;(refine CC ?_;simp only[go_sem,simprocAttr,NV,WH,ht,JB,Ĩ,ID,KM,Nat.add_zero]);(repeat'(first|(refine And.intro (by first|exact EF|(simp;done)|(simp at h4⊢;omega)) ?_)|fail))
  all_goals(simp at h4;omega)
 |cons x u =>
  have c1:((0:Int)<(((x::u).length:Nat):Int))=True:=AE (by simp only[DH];omega);have gx:(CJ (x::u))[0]?=some [.int .i64 (x:Int)]:=rfl;have dx:(CJ (x::u)).drop 1=CJ u:=rfl;cases v with
  |nil =>
   rw[zB]at h1;rw[h1];have c2:((0:Int)<((0:Nat):Int))=False:=AD omg;have WH:CJ o++CJ (x::u)=CJ (o++x::u):=(oN o (x::u)).symm;have ht:(CJ (o++x::u)).take (o.length+(u.length+1))=CJ (o++x::u):=DK sm;have JB:(o.length+(u.length+1)<=(o++x::u).length)=True:=AE sm;have hnt:(0<((u.length+1:Nat):Int))=True:=AE omg;have EF:=mU (x::u);(refine CC ?_;simp only[go_sem,simprocAttr,NV,WH,ht,JB,Ĩ,ID,KM,Nat.add_zero]);(repeat'(first|(refine And.intro (by first|exact EF|(simp;done)|(simp at h4⊢;omega)) ?_)|(apply BY<;>intro h)|(exfalso;omega)))
   all_goals(simp at h4;omega)
  |cons y v =>
   have c2:((0:Int)<(((y::v).length:Nat):Int))=True:=AE (by simp only[DH];omega);have gy:(CJ (y::v))[0]?=some [.int .i64 (y:Int)]:=rfl;have dy:(CJ (y::v)).drop 1=CJ v:=rfl;have hL:=Kg4 ks hk y x (h3 y DQ) (h2 x DQ);have lx:(x::u).length=u.length+1:=rfl;have ly:(y::v).length=v.length+1:=rfl;rw[lx,ly]at h4;have tku:(CJ u).take u.length=CJ u:=DK sm;have tkv:(CJ v).take v.length=CJ v:=DK sm;by_cases c:DT (HQ ks y) (HQ ks x)<0
   ·rw[AG c]at hL;rw[zC c]at h1;rw[lx]at c1;rw[ly]at c2;(refine CC ?_;simp only[go_sem,simprocAttr,NV,c1,c2,lx,ly]);(repeat'(first|((first|refine EG ?_|refine DS hL ?_);simp only[go_sem,simprocAttr,gx,gy])|fail));refine tD (qj 0 4 6 8) [1,2,3,6,7] (.node 0 (.node 4 (.node 5 (.node 8 (.node 9 .leaf .nil) .nil) .nil) .nil) (.node 4 (.node 0 (.node 5 (.node 8 (.node 9 .leaf .nil) .nil) .nil) .nil) .nil)) 5 hm rfl kr kr ?_;simp only[go_sem,simprocAttr,NV,gy,dy,lx,ly];have EF:=mU (y::v);have Ŵ:=vV y;have JB:(o++[y]).length=o.length+1:=sm;(repeat'(first|(refine And.intro (by first|exact EF|(simp;done)|(simp;omega)) ?_)|fail))
    all_goals(repeat'(refine And.intro ?_ ?_))
    all_goals first|omega|exact EF|(simp;done)|(refine⟨(o++[y],x::u,v),⟨by rw[h1,KJ];rfl,h2,fun i hi=>h3 i (EW _ hi),by simp only[DC,DH,KM];omega⟩,by simp only[DH];omega,St.Le.trans (B1 [(35,13)] _ sm) ?_⟩;simp only[go_sem,simprocAttr];rw[JB,Ŵ];exact CH)
   ·rw[AH c]at hL;rw[zD c]at h1;rw[lx]at c1;rw[ly]at c2;(refine CC ?_;simp only[go_sem,simprocAttr,NV,c1,c2,lx,ly]);(repeat'(first|((first|refine EG ?_|refine DS hL ?_);simp only[go_sem,simprocAttr,gx,gy])|fail));refine tD (qj 0 4 6 8) [1,2,3,6,7] (.node 0 (.node 4 (.node 5 (.node 8 (.node 9 .leaf .nil) .nil) .nil) .nil) (.node 4 (.node 0 (.node 5 (.node 8 (.node 9 .leaf .nil) .nil) .nil) .nil) .nil)) 5 hm rfl kr kr ?_;simp only[go_sem,simprocAttr,NV,gx,dx,lx,ly];have EF:=mU (x::u);have Ŵ:=vV x;have JB:(o++[x]).length=o.length+1:=sm;(repeat'(first|(refine And.intro (by first|exact EF|(simp;done)|(simp;omega)) ?_)|fail))
    all_goals(repeat'(refine And.intro ?_ ?_))
    all_goals first|omega|exact EF|(simp;done)|(refine⟨(o++[x],u,y::v),⟨by rw[h1,KJ];rfl,fun i hi=>h2 i (EW _ hi),h3,by simp only[DC,DH,KM];omega⟩,by simp only[DH];omega,St.Le.trans (B1 [(43,13)] _ sm) ?_⟩;simp only[go_sem,simprocAttr];rw[JB,Ŵ];exact CH)
def ŵ(ks:List BM)(hk:oT ks):∀(n:Nat) (l:List Nat),l.length<=n->(∀i∈l,i<ks.length)->l.length<=1500000000000->l.Pairwise (· < ·)->CA cx 145 [.p (.sl (CJ l)),.p (.clo 146 [.sl (CQ ks)])] [] (.p (.sl (CJ (aI ks n l)))) []
 |0,l,hn,_,_,_=>by
  have:l=[]:=KH omg;subst this;rw[aI];(refine CK func145 ?_;simp only[go_sem,simprocAttr,Ĩ])
  skip
 |n+1,l,hn,hi,hl,hp=>by
  rw[aI];by_cases h2:l.length<2
  ·have c1:((l.length:Int)<2)=True:=AE omg;rw[AB h2];(refine CK func145 ?_;simp only[go_sem,simprocAttr,c1,NV])
   skip
  ·have c1:((l.length:Int)<2)=False:=AD omg;rw[AA h2];have hd2:((l.length:Int)).tdiv 2=((l.length/2:Nat):Int):=rfl;have hw:IntKind.i64.wrap ((l.length/2:Nat):Int)=((l.length/2:Nat):Int):=Aa omg omg;have e:l.take (l.length/2)++l.drop (l.length/2)=l:=PO _ _;have IA:=hp;rw[<-e,fE]at IA;obtain⟨p1,p2,_⟩:=IA;have i1:∀i∈l.take (l.length/2),i<ks.length:=fun i h=>hi i (UL h)
   have i2:∀i∈l.drop (l.length/2),i<ks.length:=fun i h=>hi i (OR h)
   have l1:(l.take (l.length/2)).length=l.length/2:=by rw[GF];omega
   have l2:(l.drop (l.length/2)).length=l.length-l.length/2:=KO ..
   have A:=ŵ ks hk n (l.take (l.length/2)) omg i1 omg p1;have B:=ŵ ks hk n (l.drop (l.length/2)) omg i2 omg p2;obtain⟨a1,_,a3⟩:=vU hk.1 n (l.take (l.length/2)) omg p1;obtain⟨b1,_,b3⟩:=vU hk.1 n (l.drop (l.length/2)) omg p2;have M:=Kb6 ks hk (aI ks n (l.take (l.length/2))) (aI ks n (l.drop (l.length/2))) (fun i h=>i1 i ((a1 i).1 h)) (fun i h=>i2 i ((b1 i).1 h)) (by rw[a3,b3,l1,l2];omega);have t1:CJ (l.take (l.length/2))=(CJ l).take (l.length/2):=by simp[CJ,aP]
   have t2:CJ (l.drop (l.length/2))=(CJ l).drop (l.length/2):=by simp[CJ,nH]
   rw[t1]at A;rw[t2]at B;have tk:((CJ l).drop (l.length/2)).take (l.length-l.length/2)=(CJ l).drop (l.length/2):=DK sm;have q1:(l.length/2<=l.length)=True:=AE omg;have EF:=mU l;(refine CK func145 ?_;simp only[go_sem,simprocAttr,c1,NV,hd2,hw]);(repeat'(first|(refine And.intro (by first|exact EF|omega) ?_)|((first|refine EG ?_|refine DS A ?_|refine DS B ?_|refine DS M ?_);simp only[go_sem,simprocAttr,NV])|fail))
def J9f{n:Nat}(h:i<n):(CJ (List.range i++List.replicate (n-i) 0)).set i [.int .i64 (i:Int)]=CJ (List.range (i+1)++List.replicate (n-(i+1)) 0):=by
 have e:n-i=(n-(i+1))+1:=omg;have e2:i=(List.range i).length:=sm;unfold CJ;rw[e,cn];rw[List.replicate_succ];simp only[Ry,Fc]
 conv=>lhs;arg 2;rw[e2]
 rw[List.set_append_right _ _ sm];simp
def Kaz(hk:oT ks):CA cx 95 [.p (.sl (CQ ks))] [] (.p (.sl (CJ (IJ ks)))) []:=by
 have hS:=ŵ ks hk ks.length (List.range ks.length) sm (fun i h=>List.mem_range.1 h) (by have:=hk.2.1;simp;omega) List.pairwise_lt_range;rw[Kc2 hk.1]at hS;have DV:=hk.2.1;have hz:List.replicate ks.length [PV.int .i64 0]=CJ (List.range 0++List.replicate (ks.length-0) 0):=by simp[CJ]
 have c0:((0:Int)<=(ks.length:Int))=True:=AE omg;(refine CK func95 ?_;simp only[go_sem,simprocAttr,FZ,hz,c0]);(repeat'(first|refine EA ?_|fail));refine CL.loop (fun i:Nat=>⟨Ba 21 [(1,.ptr 1 0 0),(3,.own 7 0 ks.length),(9,.p (.int .i64 ks.length)),(10,.p (.int .i64 i))],[(7,.row 3 1 (CJ (List.range i++List.replicate (ks.length-i) 0))),(1,.var 53 [.p (.sl (CQ ks))])]⟩) (fun i=>i<=ks.length) (fun i=>ks.length-i) 0 CH (EK _) ?_;rintro i hi;by_cases BZ:i<ks.length
 ·have c1:((i:Int)<(ks.length:Int))=True:=AE omg;have NG:=J9f BZ;have gi:(CJ (List.range i++List.replicate (ks.length-i) 0))[i]?=some [.int .i64 ((0:Nat):Int)]:=mT (by rw[Mr sm,List.length_range,gV,nJ,AB omg]);(refine CC ?_;simp only[go_sem,simprocAttr,c1,NG,gi,DM (i:=i) omg])
  all_goals exact⟨i+1,omg,omg,by rw[cn];exact CH⟩
 ·obtain rfl:i=ks.length:=omg;have c1:((ks.length:Int)<(ks.length:Int))=False:=AD omg;rw[gV,List.replicate_zero,ID];refine HD (J2i _ 1 (T:=53) (ls:=[.p (.sl (CQ ks))]) (ps:=[.sl (CQ ks)]) rfl rfl) ?_;have tk:(CJ (List.range ks.length)).take ks.length=CJ (List.range ks.length):=DK sm;simp only[go_sem,simprocAttr];(refine CC ?_;simp only[go_sem,simprocAttr,c1,tk,NV,List.length_range,CS]);(repeat'(first|((refine BU hS ?_);simp only[go_sem,simprocAttr])|fail))
end
def CL.seq{X:Cx}{ro:Option Nat}{x y:Code}{Q:Ex->St->Prop}{s:St}(h:CL X ro x (ZD (fun Q s=>CL X ro y Q s) Q) s):CL X ro (x.seq y) Q s:=fun Γ a w hG hr=>by
 refine wpIn_seq (wpIn_mono (h Γ a w hG hr) fun e a w hq=>?_);cases e with
 |normal=>obtain⟨s',h1,h2⟩:=hq;exact h1 Γ a w hG h2
 |exit id=>exact hq
 |ret=>exact hq
 |goto l=>exact hq.elim
 |panic c=>exact hq.elim
 |outgrown=>exact hq.elim
def Al.same{X Y:Cx}{f:FuncId}{args:List L}{rs:BX}{Post:L->BX->Prop}(hP:X.P=Y.P)(hG:X.G=Y.G)(h:Al Y f args rs Post):Al X f args rs Post:=by
 unfold Al at h⊢;rw[hP,hG];exact h
section
attribute [local irreducible] Al Bi CL
noncomputable def oU:Cx:=⟨Tryz.prog,Is,Is.mono,Ken,fun t=>t==103⟩
def cY:oU.P=Tryz.prog:=(rfl)
def J6u{f:Nat}:oU.kind f=cx.kind f:=(rfl)
def Ŷ{t:Nat}:oU.keep t=(t==103):=(rfl)
def HV(m:Nat):List (List L):=(o.map fun g=>[L.p (.sl (CJ g))])++[[.own 50 0 m]]
def Kdw(m:Nat):(HV o m).length=o.length+1:=by simp[HV]
def Kcm(m:Nat):(HV o m)[o.length]?=some [.own 50 0 m]:=by
 unfold HV;rw[Mr sm];simp
def ŷ{e:Nat}(he:e≠50)(o:List (List Nat))(m:Nat):(HV o m).map (fun x=>x.map (L.forget e))=HV o m:=by
 unfold HV;rw[Ry,OT];congr 1;simp[L.forget,L.mentions,Ne.symm he]
def Kfh(m:Nat):(HV o m).map (fun x=>x.map (L.forget 39))=HV o m:=ŷ de o m
def Kds(m:Nat):(HV o m).map (fun x=>x.map (L.forget 40))=HV o m:=ŷ de o m
def Kdl(m:Nat):(HV o m).map (fun x=>x.map (L.forget 49))=HV o m:=ŷ de o m
def TZ:List (List L):=(o.map fun g=>[L.p (.sl (CJ g))])++[[.junk]]
def Ke8(m:Nat):(HV o m).map (fun x=>x.map (L.forget 50))=TZ o:=by
 unfold HV TZ;rw[Ry,OT];congr 1
def Keb:(TZ o).map (fun x=>x.map (L.forget 50))=TZ o:=by
 unfold TZ;rw[Ry,OT];congr 1
def Kea:(TZ o)[o.length]?=some [.junk]:=by
 unfold TZ;rw[Mr sm];simp
def Ke1(m:Nat):(TZ o).set o.length [.own 50 0 m]=HV o m:=by
 unfold TZ HV;rw[List.set_append_right _ _ sm];simp
def Kc6(m:Nat):Yi 41 (HV o m)=true:=by
 simp[Yi,HV,L.mentions]
def fD:List (List L):=(o.map fun g=>[L.p (.sl (CJ g))])++[[.own 39 0 1]]
def Kgv(b:Nat)(g:List Nat):(HV o (g.length+1)++[[L.own 39 0 1]]).map (fun e=>e.map (L.freeze 50 (.rw (CJ (b::g)))))=fD (o++[b::g]):=by
 have h:Fz.own (.rw (CJ (b::g))) 0 (g.length+1)=.p (.sl (CJ (b::g))):=by
  unfold Fz.own;simp only;rw[AB sm,OB,DK sm]
 unfold HV fD;simp only[Ry,OT,Fc,SR,KJ];congr 1;simp only[L.freeze,AB,h];rfl
def Kek:(fD o).map (fun e=>e.map (L.map (Fb 39 50)))=HV o 1:=by
 unfold HV fD;simp only[Ry,OT,Fc,SR];congr 1
def Kfd(b:Nat)(g:List Nat):(HV o (g.length+1)).map (fun e=>e.map (L.freeze 50 (.rw (CJ (b::g)))))=(o++[b::g]).map fun g=>[L.p (.sl (CJ g))]:=by
 have h:Fz.own (.rw (CJ (b::g))) 0 (g.length+1)=.p (.sl (CJ (b::g))):=by
  unfold Fz.own;simp only;rw[AB sm,OB,DK sm]
 unfold HV;simp only[Ry,OT,Fc,SR];congr 1;simp only[L.freeze,AB,h]
def gN:∀o:List (List Nat),Cb (o.map fun g=>[L.p (.sl (CJ g))])=some (N' o)
 |[]=>rfl
 |g::o=>by
  rw[Fc,Cb,gN o];rfl
def J4p:∀l:List L,Aw l l
 |[]=>trivial
 |a::l=>⟨Ai a,J4p l⟩
@[
 simp] theorem Kc4:∀l:List (List L),wH l l
 |[]=>trivial
 |e::l=>⟨J4p e,Kc4 l⟩
attribute [go_sem] ntmps96 results96
def Kbn(hk:oT ks):CA cx 96 [.p (.sl (CQ ks))] [] (.p (.sl (N' (Pc ks)))) []:=by
 have hS:=Al.same (X:=oU) (Y:=cx) rfl rfl (Kaz ks hk);have ok:=hk.1;have HI:=bd ks;have dY:∀i∈IJ ks,i<ks.length:=fun i h=>eK.1 h
 have Kb:Pc ks=N1 (Ju ks (IJ ks)):=rfl;have eW:=yL ok (ĝ ok);refine Al.same (X:=cx) (Y:=oU) rfl rfl ?_;rw[Kb];have DV:=hk.2.1;have hko:∀t∈ks,EZ t:=hk.1;have hkz:=hk.2.2;generalize IJ ks=S at *
 (refine ku false [] func96 ?_;refine Ae hm _ _ _ ?_;simp only[go_sem,simprocAttr,cY,J6u]);refine BU hS ?_;simp only[go_sem,simprocAttr,cY,NV];refine CL.loop (fun i:Nat=>if i=0 then⟨Ba 54 [(0,.p (.sl (CQ ks))),(3,.p .snil),(8,.p (.sl (CJ S))),(9,.p (.int .i64 S.length)),(10,.p (.int .i64 i))],[]⟩else⟨Ba 54 [(0,.p (.sl (CQ ks))),(3,.own 41 0 ((Ju ks (S.take i)).1.length+1)),(8,.p (.sl (CJ S))),(9,.p (.int .i64 S.length)),(10,.p (.int .i64 i))],[(50,.row 3 1 (CJ (Ju ks (S.take i)).2)),(41,.lrow 101 1 false (HV (Ju ks (S.take i)).1 (Ju ks (S.take i)).2.length))]⟩) (fun i=>i<=S.length/\(i≠0->(Ju ks (S.take i)).2≠[])) (fun i=>S.length-i) 0 (by rw[AB rfl];exact CH) ⟨EK _,fun h=>absurd rfl h⟩ ?_;rintro i ⟨hi,DA⟩;by_cases BZ:i<S.length
 ·have c1:((i:Int)<(S.length:Int))=True:=AE omg;obtain⟨a,ha⟩:∃a,S[i]?=some a:=⟨_,C' BZ⟩
  have GG:=mT ha;have VW:=dY a (D4 ha);obtain⟨t,ht⟩:∃t,ks[a]?=some t:=⟨_,C' VW⟩
  have IG:=RW ht;have EI:=Ĝ (ks:=ks) ha;have CR:∀x∈(Ju ks (S.take i)).2,x<ks.length:=fun x hx=>by
   refine dY x (UL (i:=i) ?_);rw[<-(eW i hi).flat];exact cf _ hx
  have FI:=J4y (eW i hi);rw[GF]at FI;by_cases i0:i=0
  ·subst i0;have GQ:Ju ks (S.take 1)=([],[a]):=by rw[EI,QN,ĩ];unfold YH;rw[AA sm];rfl
   rw[AB rfl];have w1:IntKind.i64.wrap 1=1:=de
   (refine Ae hm _ _ _ ?_;simp only[go_sem,simprocAttr,cY,GG]);(repeat'(first|(refine q_ hm ?_;simp only[go_sem,simprocAttr,cY,Ŷ,w1])|(apply BY<;>intro h)|(exfalso;omega)));(repeat'(first|(refine And.intro (by rfl) ?_)|fail));refine⟨1,⟨omg,fun _=>by rw[GQ];simp⟩,omg,?_⟩;rw[AA de,GQ];refine St.Le.trans (B1 [(39,50)] _ sm) ?_;simp only[go_sem,simprocAttr];show St.Le _ ⟨Ba 54 [(0,.p (.sl (CQ ks))),(3,.own 41 0 1),(8,.p (.sl (CJ S))),(9,.p (.int .i64 S.length)),(10,.p (.int .i64 (1:Nat)))],[(50,.row 3 1 [[.int .i64 (a:Int)]]),(41,.lrow 101 1 false [[.own 50 0 1]])]⟩;exact CH
  ·have bq:=DA i0;generalize Ju ks (S.take i)=st at *
   obtain⟨o,g⟩:=st;simp only at CR bq;obtain⟨b,g,rfl⟩:=List.exists_cons_of_ne_nil bq;have cL:=CR b DQ;obtain⟨u,hu⟩:∃u,ks[b]?=some u:=⟨_,C' cL⟩
   have XN:=RW hu;have mt:=D4 ht;have mu:=D4 hu;have hC:=Al.same (X:=oU) (Y:=cx) rfl rfl (x9 _ t u (CS _) (hko t mt) (hko u mu) (hkz t mt) (hkz u mu));have SH:=Kcm o (g.length+1);have JY:=Kdw o (g.length+1);simp only[DH]at FI;have Ð:o.length+1<=ks.length:=omg;have w0:IntKind.i64.wrap (((o.length+1:Nat):Int)-1)=(o.length:Int):=by rw[Aa omg omg];omega
   have DD:(CJ (b::g))[0]?=some [.int .i64 (b:Int)]:=rfl;have i0':((i:Int)=0)=False:=AD omg;rw[AA i0];simp only;(refine Ae hm _ _ _ ?_;simp only[go_sem,simprocAttr,cY,c1,GG,w0,DM (i:=i) omg]);(repeat'(first|(refine q_ hm ?_;simp only[go_sem,simprocAttr,cY,IG,XN,SH,DD,i0',DM (i:=i) omg])|(apply BY<;>intro h)|refine EA ?_|((refine DS hC ?_);simp only[go_sem,simprocAttr,cY,Ŷ,NV,SH,JY,DM (i:=i) omg,Kfh,Kds,Kdl,Ke8,Keb,Ke1,Kc6,Kea])|fail))
   ·have WN:¬DT t u=0:=AN;have GQ:Ju ks (S.take (i+1))=(o++[b::g],[a]):=by
     rw[EI];unfold YH;rw[AB ⟨by simp,by rw[XH ht,List.headD_cons,XH hu];exact WN⟩]
    (repeat'(first|(refine And.intro (by first|rfl|omega) ?_)|fail));refine⟨i+1,⟨omg,fun _=>by rw[GQ];simp⟩,omg,?_⟩;rw[AA (Nat.succ_ne_zero i),GQ];refine St.Le.trans (wI _ (d:=50)) ?_;simp only[go_sem,simprocAttr,NV,DM (i:=i) omg];rw[Kgv];refine St.Le.trans (B1 [(39,50)] _ sm) ?_;simp only[go_sem,simprocAttr,DM (i:=i) omg];rw[Kek];have e3:(o++[b::g]).length=o.length+1:=sm
    have e4:CJ [a]=[[.int .i64 (a:Int)]]:=rfl;rw[e4];simp only[e3];exact CH
   ·have WN:DT t u=0:=by first|assumption|(apply JK.1;assumption)
    have GQ:Ju ks (S.take (i+1))=(o,b::g++[a]):=by
     rw[EI];unfold YH;rw[AA (by rintro⟨_,h⟩;rw[XH ht,List.headD_cons,XH hu]at h;exact h WN)]
    have e1:(b::g++[a]).length=g.length+1+1:=sm;have e2:CJ (b::g)++[[.int .i64 (a:Int)]]=CJ (b::g++[a]):=(oN (b::g) [a]).symm;(repeat'(first|(refine And.intro (by first|omega|(simp;done)) ?_)|fail));refine⟨i+1,⟨omg,fun _=>by rw[GQ];exact List.cons_ne_nil _ _⟩,omg,?_⟩;rw[AA (Nat.succ_ne_zero i),GQ];simp only[e1];rw[e2];exact CH
 ·obtain rfl:i=S.length:=omg;have c1:((S.length:Int)<(S.length:Int))=False:=AD omg;rw[bz]at DA;by_cases i0:S.length=0
  ·have ñ:S=[]:=KH i0;subst ñ;rw[AB (show([]:List Nat).length=0 from rfl)];refine HD (s':=⟨Ba 54 [(0,.p (.sl (CQ ks))),(3,.p (.sl [])),(8,.p (.sl (CJ []))),(9,.p (.int .i64 (0:Nat))),(10,.p (.int .i64 (0:Nat)))],[]⟩) CH ?_;have c0:(((0:Nat):Int)<((0:Nat):Int))=False:=AD omg;(refine Ae hm _ _ _ ?_;simp only[go_sem,simprocAttr,cY])
   all_goals(rw[ĩ];rfl)
  ·have bq:=DA i0;rw[AA i0];simp only[bz];generalize Ju ks S=st at *
   obtain⟨o,g⟩:=st;simp only at bq;obtain⟨b,g,rfl⟩:=List.exists_cons_of_ne_nil bq;rw[gE sm];simp only;refine HD (wI _ (d:=50)) ?_;have SH:(N' (o++[b::g])).length=o.length+1:=sm;have DR:(N' (o++[b::g])).take (o.length+1)=N' (o++[b::g]):=DK (by rw[SH];exact CS _);have htp:Cb ((((o++[b::g]).map fun g=>[L.p (.sl (CJ g))])).take (o.length+1))=some (N' (o++[b::g])):=by
    rw[DK sm,gN]
   simp only[go_sem,simprocAttr];rw[Kfd];refine HD (J5w (d:=41) (es:=N' (o++[b::g])) (o.length+1) rfl htp) ?_;simp only[Bs,go_sem,simprocAttr,cY,J6u,Ŷ,FZ,NV,c1,SH,DR,CS,if_true];(refine Ae hm _ _ _ ?_;simp only[go_sem,simprocAttr,cY,c1,SH,DR,CS])
end
end Go.LX
