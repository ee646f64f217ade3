/- Sorting, the document's answer. -/
import Derived.Test.YtaghbedfogiopaaGreatDoorTxK
import Derived.Shelf.SlicesE.Delete
set_option linter.all false
set_option maxRecDepth 100000
set_option maxHeartbeats 2000000
namespace Go.LX
open Go Go.RowKit Go.Proofs Go.Proofs.Tryz
variable (S:List Nat){k i:Nat}{ks:List BM}(l:List BM){t:BM}{g aC g':Bool}(v:BM){x:CD}(p:List CD){s s':List UInt8}{e e':Int}(n:Nat){α:Type}{BL BT:BO}(R:List (List UInt8)){β:ET}{w:World}{Im:Nat->Prop}{T:TypeId}{es:List (List PV)}{args:List L}{tmps:Array Value}
section
attribute [local irreducible] Al Bi CL
def CJ:List (List PV):=S.map fun(i:Nat)=>[.int .i64 (i:Int)]
@[simp] theorem NV (S:List Nat):(CJ S).length=S.length:=by simp[CJ]
def mT{S:List Nat}(h:S[k]?=some i):(CJ S)[k]?=some [.int .i64 (i:Int)]:=by simp[CJ,h]
def oN(a b:List Nat):CJ (a++b)=CJ a++CJ b:=by simp[CJ]
def V'(a b:List BM):CQ (a++b)=CQ a++CQ b:=by simp[CQ]
@[simp] theorem Kfr (l:List BM):FV l []=[]:=rfl
@[simp] theorem ħ:CQ []=[]:=rfl
@[simp] theorem Ĩ:CJ []=[]:=rfl
def J9m(ks:List BM)(i:Nat):Ou ks i 0=0:=rfl
def ĩ(ks:List BM):Ju ks []=([],[]):=rfl
def Ī(S:List Nat):(FV l S).length=S.length:=by simp[FV]
def Kbo{l:List BM}{S:List Nat}(h:S[k]?=some i)(ht:l[i]?=some t):CQ (FV l (S.take (k+1)))=CQ (FV l (S.take k))++[[.sl (BP (t.enc []))]]:=by
 rw[NA,h,Option.toList_some];unfold FV;rw[Ry,V',Fc,SR,XH ht];rfl
def mU:∀q∈CJ S,q.length=1:=by
 intro q hq;obtain⟨i,_,rfl⟩:=FB.1 hq;rfl
def oO:∀q∈CQ l,q.length=1:=by
 intro q hq;obtain⟨i,_,rfl⟩:=FB.1 hq;rfl
def Kat(S:List Nat)(hS:∀i∈S,i<l.length)(hl:S.length<=1500000000000)(GB:l.length<=1500000000000):CA cx 108 [.p (.sl (CQ l)),.p (.sl (CJ S))] [] (.p (.sl (CQ (FV l S)))) []:=by
 (refine CK func108 ?_;simp only[go_sem,Nat.reduceLT,Nat.reduceLeDiff,Nat.reduceMul,↓reduceIte]);refine HD (B1 [(7,23)] _ sm) ?_;simp only[go_sem,↓reduceIte];refine CL.loop (fun k:Nat=>⟨Ba 25 [(0,.p (.sl (CQ l))),(1,.p (.sl (CJ S))),(5,.own 23 0 k),(6,.p (.int .i64 k))],[(23,.row 25 1 (CQ (FV l (S.take k))))]⟩) (fun k=>k<=S.length) (fun k=>S.length-k) 0 (by rw[QN,Kfr,ħ];exact CH) (EK _) ?_;rintro k hk;by_cases BZ:¬k<S.length
 ·have VS:k=S.length:=omg;subst VS;have c1:((S.length:Int)<(S.length:Int))=False:=AD omg;have QG:S.take S.length=S:=DK (CS _);have JI:(CQ (FV l S)).take S.length=CQ (FV l S):=DK (by rw[FZ,Ī];exact CS _);have DO:(S.length<=S.length)=True:=AE (CS _);(refine CC ?_;simp only[go_sem,Nat.reduceLT,Nat.reduceEqDiff,↓reduceIte,reduceCtorEq,FZ,NV,c1,QG,JI,Ī,DO])
  skip
 ·have BZ:=JK.1 BZ;have c1:((k:Int)<(S.length:Int))=True:=AE omg;obtain⟨i,hi⟩:∃i,S[k]?=some i:=⟨_,C' BZ⟩
  have OE:=hS i (D4 hi);obtain⟨t,ht⟩:∃t,l[i]?=some t:=⟨_,C' OE⟩
  have qM:=mT hi;have VP:=RW ht;have D':(CQ (FV l (S.take k))).length=k:=by rw[FZ,Ī,GF];omega
  have DR:=Kbo hi ht;(refine CC ?_;simp only[go_sem,Nat.reduceLT,Nat.reduceLeDiff,Nat.reduceEqDiff,Nat.reduceMul,↓reduceIte,reduceCtorEq,NV,c1,qM,VP,D',DM (i:=k) omg]);(repeat'(first|(refine And.intro (by first|(simp;done)|(simp;omega)) ?_)|refine EA ?_|fail));exact⟨k+1,omg,omg,by rw[DR];exact CH⟩
def Kgw{j:Nat}{a b:BM}(ha:ks[i]?=some a)(hb:ks[j]?=some b):Lg ks i j=decide (DT a b<0\/DT a b=0/\i<j):=by
 rw[Lg,XH ha,XH hb]
def Ka2(ks:List BM)(hk:mB ks):CA cx 109 [.p (.sl (CQ ks))] [] (.p (.sl (CJ (IJ ks)))) []:=by
 obtain⟨GB,ho⟩:=hk;have ok:Nz ks:=fun t ht=>(ho t ht).1
 have hz:List.replicate ks.length [PV.int .i64 0]=CJ (UF ks 0):=by rw[J5l];simp[CJ]
 (refine CK func109 ?_;simp only[go_sem,Nat.reduceLT,↓reduceIte,reduceCtorEq,FZ]);(repeat'(first|refine EA ?_|fail));refine CL.loop (fun i:Nat=>⟨Ba 50 [(0,.p (.sl (CQ ks))),(3,.own 10 0 ks.length),(4,.p (.int .i64 i))],[(10,.row 3 1 (CJ (UF ks i)))]⟩) (fun i=>i<=ks.length) (fun i=>ks.length-i) 0 (by rw[<-hz];exact CH) (EK _) ?_;rintro i hi;have cE:(CJ (UF ks i)).length=ks.length:=by rw[NV,J00]
 by_cases BZ:¬i<ks.length
 ·have VS:i=ks.length:=omg;subst VS;have c1:((ks.length:Int)<(ks.length:Int))=False:=AD omg;have JI:(CJ (UF ks ks.length)).take ks.length=CJ (IJ ks):=by rw[DK omg,J69]
  have DO:(ks.length<=ks.length)=True:=AE (CS _);(refine CC ?_;simp only[go_sem,Nat.reduceLT,Nat.reduceEqDiff,↓reduceIte,reduceCtorEq,FZ,c1,JI,cE,DO])
  skip
 ·have BZ:=JK.1 BZ;have c1:((i:Int)<(ks.length:Int))=True:=AE omg;obtain⟨t,ht⟩:∃t,ks[i]?=some t:=⟨_,C' BZ⟩
  have IG:=RW ht;have eV:=ho t (D4 ht);(refine CC ?_;simp only[go_sem,Nat.reduceLT,Nat.reduceEqDiff,↓reduceIte,reduceCtorEq,FZ,c1]);refine CL.loop (fun k:Nat=>⟨Ba 50 [(0,.p (.sl (CQ ks))),(3,.own 10 0 ks.length),(4,.p (.int .i64 i)),(5,.p (.int .i64 (Ou ks i k))),(6,.p (.int .i64 k))],[(10,.row 3 1 (CJ (UF ks i)))]⟩) (fun k=>k<=ks.length) (fun k=>ks.length-k) 0 (by rw[J9m];exact CH) (EK _) ?_;rintro k HE;have hrk:=Kez ks i k;by_cases ur:¬k<ks.length
  ·have VS:k=ks.length:=omg;subst VS;have c2:((ks.length:Int)<(ks.length:Int))=False:=AD omg;obtain⟨r1,r2⟩:=Kaw ok BZ;have NG:(CJ (UF ks i)).set (Ou ks i ks.length) [.int .i64 (i:Int)]=CJ (UF ks (i+1)):=by
    rw[<-J8s ok BZ];simp[CJ,fH]
   obtain⟨x,hx⟩:∃x,(CJ (UF ks i))[Ou ks i ks.length]?=some [x]:=by
    obtain⟨y,hy⟩:∃y,(UF ks i)[Ou ks i ks.length]?=some y:=⟨_,C' (by rw[J00];exact r1)⟩
    exact⟨_,mT hy⟩
   (refine CC ?_;simp only[go_sem,Nat.reduceLT,Nat.reduceLeDiff,Nat.reduceEqDiff,↓reduceIte,reduceCtorEq,FZ,c2,NG,hx,DM (i:=i) omg]);(repeat'(first|refine EA ?_|fail));exact⟨i+1,omg,omg,CH⟩
  ·have ur:=JK.1 ur;have c2:((k:Int)<(ks.length:Int))=True:=AE omg;obtain⟨u,hu⟩:∃u,ks[k]?=some u:=⟨_,C' ur⟩
   have XN:=RW hu;have uu:=ho u (D4 hu);have hC:=Ą (u.enc []).length u t (CS _) uu.1 eV.1 uu.2 eV.2;have hs:=J9e ks i k;rw[Kgw hu ht]at hs;have wr:IntKind.i64.wrap (((Ou ks i k:Nat):Int)+1)=((Ou ks i k+1:Nat):Int):=by rw[Aa omg omg];omega
   by_cases ca:DT u t<0
   ·have c3:=AE ca;have QP:Ou ks i (k+1)=Ou ks i k+1:=by rw[hs];simp[ca]
    (refine CC ?_;simp only[go_sem,Nat.reduceLT,Nat.reduceEqDiff,↓reduceIte,reduceCtorEq,FZ,c2,DM (i:=k) omg,decide_true]);(repeat'(first|((first|refine EG ?_|refine DS hC ?_);simp only[go_sem,Nat.reduceLT,Nat.reduceEqDiff,↓reduceIte,reduceCtorEq,XN,IG,c3,wr,DM (i:=k) omg,decide_true])|fail));exact⟨k+1,omg,omg,by rw[QP];exact CH⟩
   ·have c3:=AD ca;by_cases cb:DT u t=0
    ·have c4:=AE cb;by_cases cd:k<i
     ·have c5:((k:Int)<(i:Int))=True:=AE omg;have QP:Ou ks i (k+1)=Ou ks i k+1:=by rw[hs];simp[cb,cd]
      (refine CC ?_;simp only[go_sem,Nat.reduceLT,Nat.reduceEqDiff,↓reduceIte,reduceCtorEq,FZ,c2,DM (i:=k) omg,decide_true]);(repeat'(first|((first|refine EG ?_|refine DS hC ?_);simp only[go_sem,Nat.reduceLT,Nat.reduceEqDiff,↓reduceIte,reduceCtorEq,XN,IG,c3,c4,c5,wr,DM (i:=k) omg,decide_true,decide_false])|fail));exact⟨k+1,omg,omg,by rw[QP];exact CH⟩
     ·have c5:((k:Int)<(i:Int))=False:=AD omg;have QP:Ou ks i (k+1)=Ou ks i k:=by rw[hs];simp[cb,cd]
      (refine CC ?_;simp only[go_sem,Nat.reduceLT,Nat.reduceEqDiff,↓reduceIte,reduceCtorEq,FZ,c2,DM (i:=k) omg,decide_true]);(repeat'(first|((first|refine EG ?_|refine DS hC ?_);simp only[go_sem,Nat.reduceLT,Nat.reduceEqDiff,↓reduceIte,reduceCtorEq,XN,IG,c3,c4,c5,DM (i:=k) omg,decide_false])|fail));exact⟨k+1,omg,omg,by rw[QP];exact CH⟩
    ·have c4:=AD cb;have QP:Ou ks i (k+1)=Ou ks i k:=by rw[hs];simp[ca,cb]
     (refine CC ?_;simp only[go_sem,Nat.reduceLT,Nat.reduceEqDiff,↓reduceIte,reduceCtorEq,FZ,c2,DM (i:=k) omg,decide_true]);(repeat'(first|((first|refine EG ?_|refine DS hC ?_);simp only[go_sem,Nat.reduceLT,Nat.reduceEqDiff,↓reduceIte,reduceCtorEq,XN,IG,c3,c4,DM (i:=k) omg,decide_false])|fail));exact⟨k+1,omg,omg,by rw[QP];exact CH⟩
def N'(o:List (List Nat)):List (List PV):=o.map fun g=>[.sl (CJ g)]
@[simp] theorem mV:N' []=[]:=rfl
@[simp] theorem mW (o:List (List Nat)):(N' o).length=o.length:=by simp[N']
def J2z(a b:List (List Nat)):N' (a++b)=N' a++N' b:=by simp[N']
def J20{o:List (List Nat)}{g:List Nat}(h:o[k]?=some g):(N' o)[k]?=some [.sl (CJ g)]:=by simp[N',h]
def J4y{l:List Nat}{st:List (List Nat)×List Nat}(h:XL ks l st):st.1.length+st.2.length<=l.length:=by
 have h1:=congrArg List.length h.flat;rw[DC]at h1;have h2:∀{o:List (List Nat)},(∀g∈o,g≠[])->o.length<=o.flatten.length:=by
  intro o
  induction o with
  |nil=>intro _;simp
  |cons g o ih =>
   intro h;have:=ih fun q hq=>h q (EW _ hq)
   have hg:=h g DQ;have:0<g.length:=VN.2 hg;rw[DH,List.flatten_cons,DC];omega
 have:=h2 h.ne;omega
def Kdb(ks:List BM)(hk:mB ks):CA cx 110 [.p (.sl (CQ ks))] [] (.p (.sl (N' (Pc ks)))) []:=by
 obtain⟨GB,ho⟩:=hk;have ok:Nz ks:=fun t ht=>(ho t ht).1
 have hS:=Ka2 ks ⟨GB,ho⟩;have HI:=bd ks;have dY:∀i∈IJ ks,i<ks.length:=fun i h=>eK.1 h
 have Kb:Pc ks=N1 (Ju ks (IJ ks)):=rfl;have eW:=yL ok (ĝ ok);rw[Kb];generalize IJ ks=S at *
 (refine CK func110 ?_;simp only[go_sem,Nat.reduceLT,Nat.reduceLeDiff,Nat.reduceEqDiff,Nat.reduceMul,↓reduceIte,reduceCtorEq]);(repeat'(first|((refine BU hS ?_);simp only[go_sem,Nat.reduceLT,Nat.reduceLeDiff,Nat.reduceEqDiff,Nat.reduceMul,↓reduceIte])|fail));refine HD (B1 [(7,40),(10,48)] _ sm) ?_;simp only[go_sem,Nat.reduceEqDiff,↓reduceIte];refine CL.loop (fun i:Nat=>⟨Ba 57 [(0,.p (.sl (CQ ks))),(3,.own 40 0 (Ju ks (S.take i)).1.length),(4,.p (.sl (CJ S))),(5,.own 48 0 (Ju ks (S.take i)).2.length),(6,.p (.int .i64 i))],[(48,.row 3 1 (CJ (Ju ks (S.take i)).2)),(40,.row 101 1 (N' (Ju ks (S.take i)).1))]⟩) (fun i=>i<=S.length) (fun i=>S.length-i) 0 (by rw[QN,ĩ];exact CH) (EK _) ?_;rintro i hi;have hG:=eW i hi;have FI:=J4y hG;rw[GF]at FI;by_cases BZ:¬i<S.length
 ·obtain rfl:i=S.length:=omg;rw[bz]at hG FI⊢;have c1:((S.length:Int)<(S.length:Int))=False:=AD omg;generalize Ju ks S=st at *
  obtain⟨o,g⟩:=st;simp only at FI⊢;cases g with
  |nil =>
   have ht:(N' o).take o.length=N' (N1 (o,[])):=by rw[DK sm];rfl
   have c2:((0:Int)<((0:Nat):Int))=False:=AD omg;(refine CC ?_;simp only[go_sem,Nat.reduceLT,Nat.reduceEqDiff,↓reduceIte,reduceCtorEq,NV,c1,c2,ht,mW,CS])
   skip
  |cons a g =>
   have SH:(a::g).length=g.length+1:=rfl;have c2:((0:Int)<((g.length+1:Nat):Int))=True:=AE omg;have du:N' o++[[.sl (CJ (a::g))]]=N' (N1 (o,a::g)):=by rw[gE sm];exact(J2z o [a::g]).symm
   have X4:(N1 (o,a::g)).length=o.length+1:=by rw[gE sm,DC];rfl
   have ī:(CJ (a::g)).take (g.length+1)=CJ (a::g):=DK sm;have ht:(N' (N1 (o,a::g))).take (o.length+1)=N' (N1 (o,a::g)):=DK (by simp[X4]);have yS:(g.length+1<=(CJ (a::g)).length)=True:=AE sm;have EF:=mU (a::g);generalize CJ (a::g)=rg at *
   (refine CC ?_;simp only[go_sem,Nat.reduceLT,Nat.reduceLeDiff,Nat.reduceEqDiff,Nat.reduceMul,↓reduceIte,reduceCtorEq,NV,c1,c2,ht,ī,yS,du,X4,mW,CS]);(repeat'(first|(refine And.intro (by first|(simp;done)|(simp at FI⊢;omega)) ?_)|fail))
   all_goals first|omega|(simp at FI⊢;omega)
 ·have BZ:=JK.1 BZ;have c1:((i:Int)<(S.length:Int))=True:=AE omg;obtain⟨a,ha⟩:∃a,S[i]?=some a:=⟨_,C' BZ⟩
  have GG:=mT ha;have VW:=dY a (D4 ha);obtain⟨t,ht⟩:∃t,ks[a]?=some t:=⟨_,C' VW⟩
  have IG:=RW ht;have eV:=ho t (D4 ht);have EI:=Ĝ (ks:=ks) ha;have CR:∀x∈(Ju ks (S.take i)).2,x<ks.length:=fun x hx=>by
   refine dY x (UL (i:=i) ?_);rw[<-hG.flat];exact cf _ hx
  generalize Ju ks (S.take i)=st at *
  obtain⟨o,g⟩:=st;simp only at FI CR⊢;have du:∀x,CJ g++[[.int .i64 (x:Nat)]]=CJ (g++[x]):=fun x=>(oN g [x]).symm
  have JY:(g++[a]).length=g.length+1:=sm;have hsa:CJ [a]=[[.int .i64 (a:Int)]]:=rfl;cases g with
  |nil =>
   have c2:((0:Int)<((0:Nat):Int))=False:=AD omg;have GQ:YH ks (o,[]) a=(o,[a]):=by unfold YH;rw[AA sm];rfl
   (refine CC ?_;simp only[go_sem,Nat.reduceLT,Nat.reduceEqDiff,↓reduceIte,reduceCtorEq,NV,c1,DM (i:=i) omg]);(repeat'(first|(refine And.intro (by first|(simp;done)|(simp;omega)) ?_)|((refine EG ?_);simp only[go_sem,Nat.reduceLT,Nat.reduceLeDiff,Nat.reduceEqDiff,Nat.reduceMul,↓reduceIte,reduceCtorEq,NV,c2,GG,DM (i:=i) omg])|fail));exact⟨i+1,omg,omg,by rw[EI,GQ,hsa];exact CH⟩
  |cons b g =>
   have cL:=CR b DQ;obtain⟨u,hu⟩:∃u,ks[b]?=some u:=⟨_,C' cL⟩
   have XN:=RW hu;have uu:=ho u (D4 hu);have hC:=Ą (t.enc []).length t u (CS _) eV.1 uu.1 eV.2 uu.2;have c2:((0:Int)<((g.length+1:Nat):Int))=True:=AE omg;have DD:(CJ (b::g))[0]?=some [.int .i64 (b:Int)]:=rfl;have SH:(b::g).length=g.length+1:=rfl;have JB:(CJ (b::g)).length=g.length+1:=sm;by_cases hc:DT t u=0
   ·have c3:=AE hc;have GQ:YH ks (o,b::g) a=(o,b::g++[a]):=by
     unfold YH;rw[AA (fun h=>h.2 (by show DT (HQ ks a) (HQ ks b)=0;rw[XH ht,XH hu];exact hc))]
    have du:=du a;generalize CJ (b::g)=rg at *
    (refine CC ?_;simp only[go_sem,Nat.reduceLT,Nat.reduceEqDiff,↓reduceIte,reduceCtorEq,NV,c1,DM (i:=i) omg,decide_true]);(repeat'(first|(refine And.intro (by first|(simp;done)|(simp;omega)) ?_)|refine EA ?_|((first|refine EG ?_|refine DS hC ?_);simp only[go_sem,Nat.reduceLT,Nat.reduceLeDiff,Nat.reduceEqDiff,Nat.reduceMul,Int.reduceToNat,Int.reduceLE,↓reduceIte,reduceCtorEq,c2,c3,GG,IG,DD,XN,JB,du,DM (i:=i) omg,decide_true])|fail));exact⟨i+1,omg,omg,by rw[EI,GQ];exact CH⟩
   ·have c3:=AD hc;have GQ:YH ks (o,b::g) a=(o++[b::g],[a]):=by
     unfold YH;rw[AB ⟨by simp,by show ¬DT (HQ ks a) (HQ ks b)=0;rw[XH ht,XH hu];exact hc⟩]
    have yS:(g.length+1<=(CJ (b::g)).length)=True:=AE sm;have ī:(CJ (b::g)).take (g.length+1)=CJ (b::g):=DK sm;have Ĭ:N' o++[[.sl (CJ (b::g))]]=N' (o++[b::g]):=(J2z o [b::g]).symm;have EF:=mU (b::g);have Ð:(o++[b::g]).length=o.length+1:=sm;generalize CJ (b::g)=rg at *
    (refine CC ?_;simp only[go_sem,Nat.reduceLT,Nat.reduceEqDiff,↓reduceIte,reduceCtorEq,NV,c1,DM (i:=i) omg,decide_true]);(repeat'(first|(refine And.intro (by first|(simp;done)|(simp;omega)) ?_)|refine EA ?_|((first|refine EG ?_|refine DS hC ?_);simp only[go_sem,Nat.reduceLT,Nat.reduceLeDiff,Nat.reduceEqDiff,Nat.reduceMul,Int.reduceToNat,Int.reduceLE,↓reduceIte,reduceCtorEq,c2,c3,GG,IG,DD,XN,JB,ī,Ĭ,mW,CS,DM (i:=i) omg,decide_true])|fail));exact⟨i+1,omg,omg,by rw[EI,GQ];simp only[hsa];exact CH⟩
def ER:Nat:=(l.map fun t=>(t.enc []).length).sum
def ĭ:ER []=0:=rfl
def SM(t:BM)(l:List BM):ER (t::l)=(t.enc []).length+ER l:=by simp[ER]
def eX(a b:List BM):ER (a++b)=ER a+ER b:=by simp[ER]
def yT:∀l:List BM,(A1 (UH l)).enc.length=ER l
 |[]=>by
  rw[show A1 (UH [])=.nil from rfl,Bl];rfl
 |t::l=>by
  rw[show A1 (UH (t::l))=.cons [] t (A1 (UH l))from rfl,A0,DC,yT l,SM]
def ZP:((CG l).enc []).length=ER l+1:=by
 unfold CG;rw[A6,DH,yT]
def J21:CQ l=A4 (UH l):=by
 unfold CQ A4 UH;rw[OT];rfl
def eY(l:List KT):A4 l=CQ (l.map (·.2)):=by
 unfold CQ A4;rw[OT];rfl
def yU:Ge (UH l)=UH l:=by
 unfold Ge UH;rw[OT];rfl
def QH(t:BM):ER (CV t)+1=(t.enc []).length:=by
 obtain⟨k,s,g,e,BL⟩:=t;rw[A6,DH];have:∀f:BO,ER (f.list.map (·.2))=f.enc.length:=by
  intro f
  induction f using BO.rec (motive_1:=fun _=>True)with
  |mk=>trivial
  |nil=>rw[Bl];rfl
  |cons nm t r _ ih=>rw[A0,DC,BO.list,Fc,SM,ih,G7 t nm]
 show ER (BL.list.map (·.2))+1=_;rw[this]
def SN:∀l:List BM,l.length<=ER l
 |[]=>CS _
 |t::l=>by
  have:=SN l;have:=Et t [];rw[SM,DH];omega
def WA:∀{l:List BM} {t:BM},t∈l->(t.enc []).length<=ER l
 |u::l,t,h=>by
  rw[SM];rcases DN.1 h with rfl|h
  ·omega
  ·have:=WA h;omega
def Ka8(ks:List BM)(f:Nat->Nat)(i:Nat):∀l:List Nat,((Lh ks i l).map f).sum=f i+(l.map f).sum
 |[]=>by simp[Lh]
 |j::l=>by
  rw[Lh];split
  ·rw[Fc,List.sum_cons,Ka8 ks f i l,Fc,List.sum_cons];omega
  ·rw[Fc,List.sum_cons]
def J7c(ks:List BM)(f:Nat->Nat):∀n:Nat,((YF ks n).map f).sum=((List.range n).map f).sum
 |0=>rfl
 |n+1=>by rw[YF,Ka8,J7c ks f n,cn,Ry,List.sum_append];simp;omega
def yV{l:List BM}(h:ks.length=l.length):ER (FV l (IJ ks))=ER l:=by
 conv=>rhs;rw[<-J9l l]
 unfold ER FV;rw[OT,OT];unfold IJ;rw[J7c,h]
def J5b:∀gs:List (List BM),ER (gs.map CG)=gs.length+ER gs.flatten
 |[]=>rfl
 |g::gs=>by
  rw[Fc,SM,ZP,J5b gs,DH,List.flatten_cons,eX];omega
def cT(h:ER l<=1499999999999):CA cx 30 [.p (.sl (CQ l))] [] (.p (.sl (BP ((CG l).enc [])))) []:=by
 have hL:=Tt (UH l) (by rw[yU,yT];exact h);rw[yU,<-J21]at hL;exact hL
def eZ:∃r:Nat->PV,(BP (v.enc []))[0]?=some [.int .i64 v.kind,r 0,r 1,r 2,r 3,r 4]:=by
 obtain⟨k,s,g,e,BL⟩:=v;exact⟨fun i=>([.int .i64 BL.len,.str [],.str s,.bool g,.int .i64 e]:List PV).getD i .snil,Cc [] k s g e BL⟩
def uv(hv:(v.enc []).length<=1500000000000):CA cx 29 [.p (.sl (BP (v.enc [])))] [] (.p (.sl (CQ (CV v)))) []:=by
 obtain⟨k,s',g,e,BL⟩:=v;have hP:=Dy [] k s' g e BL (by rw[A6,DH]at hv;omega);rw[eY]at hP;exact hP
def yW:EZ Es:=by
 unfold Es;rw[Lu];exact⟨by decide,Sb 0,I6⟩
def J64{u:BM}(ht:EZ t)(h:IM x t=.ok u):EZ u:=by
 have hk:∀p∈t.kids.list,EZ p.2:=by
  obtain⟨k,s,g,e,BL⟩:=t;exact fun p hp=>cP ht hp
 unfold IM at h;split at h
 ·cases h;exact yW
 ·split at h
  ·split at h
   ·cases h;cases hq:t.kids.list[x.n.toNat]? with
    |none=>exact yW
    |some p=>exact hk p (D4 hq)
   ·cases h
  ·split at h
   ·cases h;cases hq:Ch x.name t.kids.list with
    |none=>exact yW
    |some w =>
     obtain⟨p,hp,rfl,_⟩:=H2 hq;exact hk p hp
   ·cases h
def uw:∀{p:List CD} {t u:BM},EZ t->KU p t=.ok u->EZ u
 |[],t,u,ht,h=>by rw[KU]at h;cases h;exact ht
 |x::p,t,u,ht,h=>by
  rw[KU]at h;cases hs:IM x t with
  |ok w=>rw[hs]at h;exact uw (J64 ht hs) h
  |error e=>rw[hs]at h;cases h
def yX{p:List CD}:∀{l ks:List BM},Nz l->KV p l=.ok ks->Nz ks/\ks.length=l.length/\∀n,(∀t∈l,(t.enc []).length<=n)->∀t∈ks,(t.enc []).length<=n
 |[],ks,_,h=>by rw[KV]at h;cases h;exact⟨fun _ h=>(by cases h),rfl,fun _ _ _ h=>(by cases h)⟩
 |t::l,ks,ho,h=>by
  rw[KV]at h;cases hf:KU p t with
  |error e=>rw[hf]at h;cases h
  |ok u =>
   rw[hf]at h;cases hk:KV p l with
   |error e=>rw[hk]at h;cases h
   |ok ks' =>
    rw[hk]at h;cases h;obtain⟨a,b,c⟩:=yX (fun x hx=>ho x (EW _ hx)) hk;refine⟨fun x hx=>?_,by rw[DH,DH,b],fun n hn x hx=>?_⟩
    ·rcases DN.1 hx with rfl|hx
     ·exact uw (ho t DQ) hf
     ·exact a x hx
    ·rcases DN.1 hx with rfl|hx
     ·exact Nat.le_trans (uY hf) (hn t DQ)
     ·exact c n (fun y hy=>hn y (EW _ hy)) x hx
def J41{p:List CD}:∀{l:List BM} {e:Nat},KV p l=.error e->e=5
 |[],e,h=>by rw[KV]at h;cases h
 |t::l,e,h=>by
  rw[KV]at h;cases hf:KU p t with
  |error e'=>rw[hf]at h;cases h;exact eQ hf
  |ok u =>
   rw[hf]at h;cases hk:KV p l with
   |error e'=>rw[hk]at h;cases h;exact J41 hk
   |ok ks'=>rw[hk]at h;cases h
def ux:Except Nat (List BM)->L|.ok ks=>.tup [.sl (CQ ks),.int .i64 0]|.error e=>.tup [.snil,.int .i64 e]
def VI(us:List BM):Except Nat (List BM)->Except Nat (List BM)|.ok ks=>.ok (us++ks)|.error e=>.error e
def J1o{p:List CD}{us l:List BM}{u:BM}(h:KU p t=.ok u):VI us (KV p (t::l))=VI (us++[u]) (KV p l):=by
 rw[KV,h];cases KV p l with
 |ok ks=>simp[VI]
 |error e=>rfl
def Ke5(l:List BM)(hp:p.length<=1000000)(GZ:∀x∈p,Bc x)(hl:l.length<=1500000000000)(hv:∀t∈l,(t.enc []).length<=1500000000000):CA cx 107 [.p (.sl (Bb p)),.p (.sl (CQ l))] [] (ux (KV p l)) []:=by
 (refine CB func107 ?_);refine HD (B1 [(10,32)] _ sm) ?_;simp only[go_sem,simprocAttr];refine CL.loop (fun x:Nat×List BM=>⟨Ba 34 [(0,.p (.sl (Bb p))),(1,.p (.sl (CQ l))),(6,.own 32 0 x.2.length),(7,.p (.int .i64 x.1))],[(32,.row 25 1 (CQ x.2))]⟩) (fun x=>x.1<=l.length/\x.2.length=x.1/\KV p l=VI x.2 (KV p (l.drop x.1))) (fun x=>l.length-x.1) (0,[]) CH ⟨EK _,rfl,by rw[OB];cases KV p l<;>rfl⟩ ?_;rintro⟨k,us⟩ ⟨hk,h2,h3⟩;simp only at hk h2 h3;by_cases BZ:¬k<l.length
 ·have VS:k=l.length:=omg;have c1:((k:Int)<(l.length:Int))=False:=AD omg;rw[VS,nQ,KV,VI,ID]at h3;have JI:(CQ us).take us.length=CQ us:=DK sm;rw[h3,ux];(refine CC ?_;simp only[go_sem,simprocAttr,FZ,c1,JI,CS])
  skip
 ·have BZ:=JK.1 BZ;have c1:((k:Int)<(l.length:Int))=True:=AE omg;obtain⟨t,ht⟩:∃t,l[k]?=some t:=⟨_,C' BZ⟩
  have hg:=RW ht;have hF:=yK p t hp GZ (hv t (D4 ht));have hd:l.drop k=t::l.drop (k+1):=by rw[Mx BZ];congr 1;rw[C' BZ]at ht;exact L' ht
  rw[hd]at h3;cases hf:KU p t with
  |error e =>
   rw[hf,BV]at hF;have h5:=eQ hf;subst h5;rw[KV,hf]at h3;have h3:KV p l=.error 5:=h3;rw[h3,ux];(refine CC ?_;simp only[go_sem,simprocAttr,FZ,c1,hg]);(repeat'(first|((refine BU hF ?_);simp only[go_sem,simprocAttr])|fail))
  |ok u =>
   rw[hf,BV]at hF;rw[J1o hf]at h3;have ha:CQ us++[[.sl (BP (u.enc []))]]=CQ (us++[u]):=(V' us [u]).symm;have hn:us.length+1=(us++[u]).length:=sm
   (refine CC ?_;simp only[go_sem,simprocAttr,FZ,c1,hg,DM (i:=k) omg]);(repeat'(first|(refine And.intro (by first|(simp;done)|(simp;omega)) ?_)|refine EA ?_|((refine BU hF ?_);simp only[go_sem,simprocAttr,FZ,ha,DM (i:=k) omg])|fail));exact⟨(k+1,us++[u]),⟨by simp only;omega,by simp only;rw[<-hn];omega,h3⟩,by simp only;omega,by simp only;rw[<-hn];exact CH⟩
def J7u{v:BM}(h:¬v.kind=5):SL aC s v=.error 5:=by unfold SL;rw[AA h]
def Kb1{v:BM}{e:Nat}(h:v.kind=5)(hk:KV (Je s).1 (CV v)=.error e):SL aC s v=.error e:=by unfold SL;rw[AB h,hk]
def Kg5{v:BM}(h:v.kind=5)(hk:KV (Je s).1 (CV v)=.ok ks):SL false s v=.ok (CG (FV (CV v) (IJ ks))):=by unfold SL;rw[AB h,hk];rfl
def Kg7{v:BM}(h:v.kind=5)(hk:KV (Je s).1 (CV v)=.ok ks):SL true s v=.ok (CG ((Pc ks).map fun g=>CG (FV (CV v) g))):=by unfold SL;rw[AB h,hk];rfl
def J9a(l ks:List BM):((Pc ks).map fun g=>CG (FV l g))=((Pc ks).map (FV l)).map CG:=by rw[OT];rfl
def J9x{l:List BM}(ok:Nz ks):((Pc ks).map (FV l)).flatten=FV l (IJ ks):=by
 rw[Kbk];show FV l (N1 (Ju ks (IJ ks))).flatten=_;rw[yM (ub ok)]
def J8d:∀{gs:List (List Nat)},(∀g∈gs,g≠[])->gs.length<=gs.flatten.length
 |[],_=>CS _
 |g::gs,h=>by
  have:=J8d (gs:=gs) fun q hq=>h q (EW _ hq)
  have:0<g.length:=VN.2 (h g DQ);rw[DH,List.flatten_cons,DC];omega
def oP:∀{l:List Nat} {x:Nat},x∈l->x<=l.sum
 |y::l,x,h=>by
  rw[List.sum_cons];rcases DN.1 h with rfl|h
  ·omega
  ·have:=oP h;omega
def Į{l:List BM}(ok:Nz ks)(h:ks.length=l.length):ER ((Pc ks).map fun g=>CG (FV l g))<=2*ER l:=by
 rw[J9a,J5b,J9x ok,yV h,HM];have hn:=J27 (ub ok);have h1:(N1 (Ju ks (IJ ks))).length<=(N1 (Ju ks (IJ ks))).flatten.length:=J8d hn;rw[yM (ub ok),bd,h]at h1;have:=SN l;show(N1 (Ju ks (IJ ks))).length+_<=_;omega
def J1t(op m:Int)(nm s:List UInt8)(n:Int)(c:Node)(v:BM)(LJ:op=12\/op=13)(hs:s.length<=1000000)(ok:EZ v)(hv:(v.enc []).length<=600000000000):CA cx 54 [.p (.agg [.int .i64 op,.int .i64 m,.str nm,.str s,.int .i64 n,.int .i64 c.kind,.int .i64 c.many,.str c.name,.str c.s,.bool c.neg,.int .i64 c.e]),.p (.sl (BP (v.enc [])))] [] (BV (SL (decide (op=12)) s v)) []:=by
 have DI:=QH v;have HE:=ui ok;have HI:=SN (CV v);by_cases hk:v.kind=5
 ·have hP:CA cx 29 [.p (.sl (BP (v.enc [])))] [] (.p (.sl (CQ (CV v)))) []:=by
   obtain⟨k,s',g,e,BL⟩:=v;have hP:=Dy [] k s' g e BL (by rw[A6,DH]at hv;omega);rw[eY]at hP;exact hP
  obtain⟨r,DD⟩:=eZ v;rw[hk]at DD;have HK:=ě s hs;obtain⟨D',ZQ⟩:=mN s;have hK:=Ke5 (Je s).1 (CV v) omg ZQ omg (fun t ht=>by have:=WA ht;omega);cases Xb:KV (Je s).1 (CV v)with
  |error e =>
   have h5:=J41 Xb;subst h5;rw[Xb,ux]at hK;rw[Kb1 hk Xb,BV];(refine CK func54 ?_;simp only[go_sem,simprocAttr,DD]);(repeat'(first|((first|refine BU hP ?_|refine BU HK ?_|refine BU hK ?_);simp only[go_sem,simprocAttr])|fail))
  |ok ks =>
   rw[Xb,ux]at hK;obtain⟨WB,DV,GS⟩:=yX HE Xb;have GS:=GS 600000000000 fun t ht=>by have:=WA ht;omega
   have uy:mB ks:=⟨omg,fun t ht=>⟨WB t ht,by have:=GS t ht;omega⟩⟩
   rcases LJ with rfl|rfl
   ·have hG:=Kdb ks uy;have į:=Į (l:=CV v) WB DV;rw[show decide ((12:Int)=12)=true from rfl,Kg7 hk Xb,BV];have pP:∀g∈Pc ks,(∀i∈g,i<(CV v).length)/\g.length<=(CV v).length/\ER (FV (CV v) g)<=2*ER (CV v):=fun g hg=>by
     have RL:=yM (ub WB);have FU:∀i∈g,i∈IJ ks:=fun i hi=>by rw[<-RL];exact List.mem_flatten.2 ⟨g,hg,hi⟩
     refine⟨fun i hi=>by have:=eK.1 (FU i hi);omega,?_,?_⟩
     ·have h1:=List.length_flatten (L:=N1 (Ju ks (IJ ks)));rw[RL,bd]at h1;have h2:=oP (FB.2 ⟨g,hg,rfl⟩:g.length∈(N1 (Ju ks (IJ ks))).map List.length);omega
     ·have h2:=WA (FB.2 ⟨g,hg,rfl⟩:CG (FV (CV v) g)∈(Pc ks).map fun g=>CG (FV (CV v) g));rw[ZP]at h2;omega
    have SH:(Pc ks).length<=2*ER (CV v):=by
     have:=SN ((Pc ks).map fun g=>CG (FV (CV v) g));rw[HM]at this;omega
    have hL:=cT ((Pc ks).map fun g=>CG (FV (CV v) g)) omg;generalize Pc ks=G at *
    (refine CK func54 ?_;simp only[go_sem,simprocAttr,DD]);(repeat'(first|((first|refine BU hP ?_|refine BU HK ?_|refine BU hK ?_|refine BU hG ?_);simp only[go_sem,simprocAttr])|fail));refine HD (B1 [(40,56)] _ sm) ?_;simp only[go_sem,simprocAttr];refine CL.loop (fun k:Nat=>⟨Ba 59 [(6,.p (.sl (CQ (CV v)))),(9,.p (.sl (N' G))),(10,.own 56 0 k),(11,.p (.int .i64 k))],[(56,.row 25 1 (CQ ((G.take k).map fun g=>CG (FV (CV v) g))))]⟩) (fun k=>k<=G.length) (fun k=>G.length-k) 0 CH (EK _) ?_;rintro k IE;by_cases BZ:¬k<G.length
    ·obtain rfl:k=G.length:=omg;have c1:((G.length:Int)<(G.length:Int))=False:=AD omg;have QG:G.take G.length=G:=DK (CS _);have JI:(CQ (G.map fun g=>CG (FV (CV v) g))).take G.length=CQ (G.map fun g=>CG (FV (CV v) g)):=DK sm;have DO:(G.length<=G.length)=True:=AE (CS _);have JB:(CQ (G.map fun g=>CG (FV (CV v) g))).length=G.length:=sm
     (refine CC ?_;simp only[go_sem,simprocAttr,mW,c1,QG,JI,JB,DO]);(repeat'(first|((refine BU hL ?_);simp only[go_sem,simprocAttr])|fail))
    ·have BZ:=JK.1 BZ;have c1:((k:Int)<(G.length:Int))=True:=AE omg;obtain⟨g,hg⟩:∃g,G[k]?=some g:=⟨_,C' BZ⟩
     have İ:=J20 hg;obtain⟨m1,m2,m3⟩:=pP g (D4 hg);have mX:=Kat (CV v) g m1 omg omg;have hLk:=cT (FV (CV v) g) omg;have mY:(CQ ((G.take k).map fun g=>CG (FV (CV v) g))).length=k:=by rw[FZ,HM,GF];omega
     have DR:CQ ((G.take (k+1)).map fun g=>CG (FV (CV v) g))=CQ ((G.take k).map fun g=>CG (FV (CV v) g))++[[.sl (BP ((CG (FV (CV v) g)).enc []))]]:=by
      rw[NA,hg,Option.toList_some,Ry,V'];rfl
     (refine CC ?_;simp only[go_sem,simprocAttr,mW,c1,İ,DM (i:=k) omg]);(repeat'(first|(refine And.intro (by first|(simp;done)|(simp;omega)) ?_)|refine EA ?_|((first|refine BU mX ?_|refine BU hLk ?_);simp only[go_sem,simprocAttr,mY,DM (i:=k) omg])|fail));exact⟨k+1,omg,omg,by rw[DR];exact CH⟩
   ·have hS:=Ka2 ks uy;have mX:=Kat (CV v) (IJ ks) (fun i hi=>by have:=eK.1 hi;omega) (by rw[bd];omega) omg;have hL:=cT (FV (CV v) (IJ ks)) (by rw[yV DV];omega);rw[show decide ((13:Int)=12)=false from rfl,Kg5 hk Xb,BV];(refine CK func54 ?_;simp only[go_sem,simprocAttr,DD]);(repeat'(first|((first|refine BU hP ?_|refine BU HK ?_|refine BU hK ?_|refine BU hS ?_|refine BU mX ?_|refine BU hL ?_);simp only[go_sem,simprocAttr])|fail))
 ·rw[J7u hk,BV];obtain⟨k,s',g,e,BL⟩:=v;have c1:(k=5)=False:=AD hk;(refine CK func54 ?_;simp only[go_sem,simprocAttr,Cc,c1,AJ])
  all_goals rfl
def J4w(key x:BM)(h1:(key.enc []).length<=600000000000)(h2:(x.enc []).length<=600000000000):CA cx 105 [.p (.sl (BP (key.enc []))),.p (.sl (BP (x.enc [])))] [] (.p (.sl (BP ((VF key x).enc [])))) []:=by
 have CY:(A1 [(FE,key),(EY,x)]).enc.length=(key.enc []).length+(x.enc []).length:=by
  rw[show A1 [(FE,key),(EY,x)]=.cons FE key (.cons EY x .nil)from rfl,A0,A0,Bl,DC,DC,G7 key,G7 x];rfl
 have hO:=Zc [(FE,key),(EY,x)] omg (by intro p hp;simp only[DN,Ebj,or_false]at hp;rcases hp with rfl|rfl<;>simp[FE,EY]);have GZ:M3 [(FE,key),(EY,x)]=true:=by
  unfold M3;rw[AF];refine⟨?_,?_⟩
  ·intro p hp;simp only[DN,Ebj,or_false]at hp;rcases hp with rfl|rfl
   ·show valid FE=true;decide
   ·show valid EY=true;decide
  ·simp[FE,EY]
 have ı:Lp [(FE,key),(EY,x)]=[(FE,key),(EY,x)]:=by
  have BZ:Op.bytesLess EY FE=false:=de;have MQ:Op.bytesLess FE EY=true:=de;simp[Lp,EV,BZ,MQ]
 rw[RS,GZ,AB rfl,ı]at hO;have e1:Bd [(FE,key),(EY,x)]=[[.str [107,101,121]],[.str [118,97,108,117,101]]]:=rfl;have e2:A4 [(FE,key),(EY,x)]=[[.sl (BP (key.enc []))],[.sl (BP (x.enc []))]]:=rfl;rw[e1,e2,show BM.mk 6 [] false 0 (A1 [(FE,key),(EY,x)])=VF key x from rfl]at hO;refine CB func105 ?_;(repeat'(first|((refine BU hO ?_);simp only[go_sem,simprocAttr])|fail))
def J2k:∀(e:Nat) (a:List UInt8),I7 (a++List.replicate e 48)=I7 a
 |0,a=>by simp
 |e+1,a=>by
  rw[List.replicate_succ',<-KJ,oB,AB rfl,J2k e a]
def Ĳ{n:Nat}(h:n≠0):0<(I7 (Lib.decDigits n)).length:=by
 refine J2r _ _ rfl (VN.2 (U6 n)) ?_;cases hd:Lib.decDigits n with
 |nil=>exact absurd hd (U6 n)
 |cons c r =>
  rw[uB];intro e;exact h (xh n c r hd e).2
def J2x(hn:n<=1500000000000):CA cx 104 [.p (.int .i64 n)] [] (.p (.sl (BP ((JA n).enc [])))) []:=by
 have hD:=Kcd n omg;have CY:(Lib.decDigits n).length<=14:=Xk 13 n omg;by_cases h0:n=0
 ·subst h0;have e0:BP ((JA 0).enc [])=[[.int .i64 3,.int .i64 0,.str [],.str [],.bool false,.int .i64 0]]:=by
   unfold JA;rw[AB rfl,A6,Bl];rfl
  have c0:((0:Int)<((0:Nat):Int))=False:=AD omg;have c1:(((0:Nat):Int)=0)=True:=AE rfl;rw[e0];refine CB func104 ?_;(repeat'(first|((refine BU hD ?_);simp only[go_sem,simprocAttr])|fail));refine CL.loop (fun _:Unit=>⟨Ba 30 [(0,.p (.int .i64 (0:Nat))),(3,.p (.str (Lib.decDigits 0))),(4,.p (.int .i64 0))],[]⟩) (fun _=>True) (fun _=>0) () CH trivial ?_;rintro _ _;(refine CC ?_;simp only[go_sem,simprocAttr])
  skip
 ·have e0:BP ((JA n).enc [])=[[.int .i64 3,.int .i64 0,.str [],.str (I7 (Lib.decDigits n)),.bool false,.int .i64 (((Lib.decDigits n).length-(I7 (Lib.decDigits n)).length:Nat):Int)]]:=by
   unfold JA;rw[AA h0,A6,Bl];rfl
  have hp:=Ĳ h0;have c0:((0:Int)<(n:Int))=True:=AE omg;have c1:((n:Int)=0)=False:=AD omg;rw[e0];generalize Lib.decDigits n=D at *
  (refine CB func104 ?_);(repeat'(first|((refine BU hD ?_);simp only[go_sem,simprocAttr])|fail));refine CL.loop (fun x:List UInt8×Nat=>⟨Ba 30 [(0,.p (.int .i64 n)),(3,.p (.str x.1)),(4,.p (.int .i64 x.2))],[]⟩) (fun x=>D=x.1++List.replicate x.2 48) (fun x=>x.1.length) (D,0) CH sm ?_;rintro⟨a,e⟩ hx;simp only at hx;have GQ:I7 D=I7 a:=by rw[hx,J2k]
  have ð:D.length=a.length+e:=by rw[hx];simp
  have du:0<a.length:=by
   rcases Nat.eq_zero_or_pos a.length with h|h
   ·have:a=[]:=KH h;rw[GQ,this]at hp;exact absurd hp de
   ·exact h
  obtain⟨b,ch,rfl⟩:∃b ch,a=b++[ch]:=⟨a.dropLast,a.getLast (List.ne_nil_of_length_pos du),(nG _).symm⟩
  have cL:(b++[ch]).length=b.length+1:=sm;have w1:IntKind.i64.wrap (((b.length+1:Nat):Int)-1)=(b.length:Int):=by rw[Aa omg omg];omega
  have QX:BS (b++[ch]) b.length=ch.toNat:=uC b ch;have DR:(b++[ch]).take b.length=b:=sm;by_cases hc:ch=48
  ·have e1:((ch.toNat:Int)=48)=True:=AE (by rw[hc];rfl);have MA:D=b++List.replicate (e+1) 48:=by rw[hx,hc,List.replicate_succ,KJ];rfl
   (refine CC ?_;simp only[go_sem,simprocAttr,c0,cL,w1,QX,DR,DM (i:=e) omg,e1,decide_true]);(repeat'(first|refine EA ?_|fail))
   all_goals first
    |exact⟨(b,e+1),MA,by(show b.length<_);omega,CH⟩
    |omega
  ·have e1:((ch.toNat:Int)=48)=False:=AD fun h=>hc (uA.1 omg)
   have X8:I7 D=b++[ch]:=by rw[GQ,oB,AA hc]
   have JB:D.length-(I7 D).length=e:=by rw[X8,ð];omega
   rw[JB,X8];(refine CC ?_;simp only[go_sem,simprocAttr,c0,c1,cL,w1,QX,e1])
   all_goals omega
def ĳ:∀{l:List KT} {i k:Nat} {p:KT},l[k]?=some p->(ND i l)[k]?=some (VF (JA (i+k)) p.2)
 |[],i,k,p,h=>by cases h
 |q::l,i,0,p,h=>by cases h;rfl
 |q::l,i,k+1,p,h=>by
  have:=ĳ (l:=l) (i:=i+1) (k:=k) (p:=p) (by simpa using h);rw[ND,List.getElem?_cons_succ,this,Nat.add_right_comm,QO]
def Ĵ:∀{l:List KT} {i:Nat},(ND i l).length=l.length
 |[],_=>rfl
 |q::l,i=>by rw[ND,DH,Ĵ,DH]
def J4e(key x:BM):((VF key x).enc []).length=1+(key.enc []).length+(x.enc []).length:=by
 unfold VF;rw[A6,DH,A0,A0,Bl,DC,DC,G7 key,G7 x];simp;omega
def ĵ:((JA n).enc []).length=1:=by
 unfold JA;split<;>rw[A6,Bl]<;>rfl
def uz(s:List UInt8):((GY s).enc []).length=1:=by
 unfold GY;rw[A6,Bl];rfl
def yY:∀l:List KT,ER (NT l)=2*l.length+ER (l.map (·.2))
 |[]=>rfl
 |p::l=>by
  rw[show NT (p::l)=VF (GY p.1) p.2::NT l from rfl,SM,J4e,uz,yY l,Fc,SM,DH];omega
def yZ:∀(l:List KT) (i:Nat),ER (ND i l)=2*l.length+ER (l.map (·.2))
 |[],_=>rfl
 |p::l,i=>by
  rw[ND,SM,J4e,ĵ,yZ l,Fc,SM,DH];omega
def YI{l:List α}{x:α}(h:l[k]?=some x):l.take (k+1)=l.take k++[x]:=by rw[NA,h,Option.toList_some]
def ya{k:Int}(h:EZ (.mk k s g e BL)):0<=k/\k<=6:=by
 have h1:=(Lu.1 h).1;unfold G3 at h1;by_cases a:k=0\/k=1\/k=2
 ·omega
 ·by_cases b:k=3
  ·omega
  ·by_cases c:k=4
   ·omega
   ·by_cases d:k=5\/k=6
    ·omega
    ·rw[AA a,AA b,AA c,AA d]at h1;exact h1.elim
def J30(ok:EZ v)(hv:(v.enc []).length<=150000000000):CA cx 52 [.p (.sl (BP (v.enc [])))] [] (BV (Vi v)) []:=by
 obtain⟨k,s,g,e,BL⟩:=v;have DV:=LU BL;have GB:=KE BL;have DI:=QH (.mk k s g e BL);have DI:ER (@List.map KT BM (fun p=>p.2) BL.list)+1=_:=DI;have CR:∀p∈BL.list,(p.2.enc []).length<=150000000000:=fun p hp=>by have:=YE hp;rw[A6,DH]at hv;omega
 rw[A6,DH]at hv DI;have hP:=Dy [] k s g e BL omg;have ES:=Cc [] k s g e BL;by_cases k6:k=6
 ·subst k6;have hN:=Ir [] s g e BL omg;have Ķ:=cT (NT BL.list) (by rw[yY];omega);have EF:(NT BL.list).length=BL.list.length:=by simp[NT]
  rw[show Vi (.mk 6 s g e BL)=.ok (CG (NT BL.list))from rfl,BV];generalize IF:BP ((BM.mk 6 s g e BL).enc [])=V at *
  (refine CK func52 ?_;simp only[go_sem,simprocAttr,ES]);(repeat'(first|((first|refine BU hP ?_|refine BU hN ?_);simp only[go_sem,simprocAttr])|fail));refine HD (B1 [(18,46)] _ sm) ?_;simp only[go_sem,simprocAttr];refine CL.loop (fun i:Nat=>⟨Ba 49 [(0,.p (.sl V)),(4,.p (.sl (A4 BL.list))),(5,.p (.sl (Bd BL.list))),(6,.own 46 0 i),(7,.p (.int .i64 i))],[(46,.row 25 1 (CQ ((NT BL.list).take i)))]⟩) (fun i=>i<=BL.list.length) (fun i=>BL.list.length-i) 0 CH (EK _) ?_;rintro i hi;by_cases BZ:i<BL.list.length
  ·have c1:((i:Int)<(BL.list.length:Int))=True:=AE omg;obtain⟨p,hp⟩:∃p,BL.list[i]?=some p:=⟨_,C' BZ⟩
   have hg:=Hx hp;have JY:(Bd BL.list)[i]?=some [.str p.1]:=by simp[Bd,hp]
   have cU:=J4w (GY p.1) p.2 (by rw[uz];omega) (by have:=CR p (D4 hp);omega);rw[show BP ((GY p.1).enc [])=[[.int .i64 4,.int .i64 0,.str [],.str p.1,.bool false,.int .i64 0]]by unfold GY;rw[A6,Bl];rfl]at cU;have ķ:=J2x i omg;have cB:(NT BL.list)[i]?=some (VF (GY p.1) p.2):=by simp[NT,hp]
   have JB:(CQ ((NT BL.list).take i)).length=i:=by rw[FZ,GF];omega
   have DR:CQ ((NT BL.list).take (i+1))=CQ ((NT BL.list).take i)++[[.sl (BP ((VF (GY p.1) p.2).enc []))]]:=by
    rw[YI cB,V'];rfl
   (refine CC ?_;simp only[go_sem,simprocAttr,A5,c1,DM (i:=i) omg]);(repeat'(first|(refine And.intro (by first|(simp;done)|(simp;omega)) ?_)|refine EA ?_|((first|refine BU ķ ?_|refine BU cU ?_);simp only[go_sem,simprocAttr,ES,hg,JY,JB,DM (i:=i) omg])|fail));exact⟨i+1,omg,omg,by rw[DR];exact CH⟩
  ·obtain rfl:i=BL.list.length:=omg;have c1:((BL.list.length:Int)<(BL.list.length:Int))=False:=AD omg;have QG:(NT BL.list).take BL.list.length=NT BL.list:=DK omg;have JB:(CQ (NT BL.list)).length=BL.list.length:=by rw[FZ,EF]
   have JI:(CQ (NT BL.list)).take BL.list.length=CQ (NT BL.list):=DK omg;(refine CC ?_;simp only[go_sem,simprocAttr,A5,c1,QG,JI,JB,CS]);(repeat'(first|((refine BU Ķ ?_);simp only[go_sem,simprocAttr])|fail))
 ·by_cases k5:k=5
  ·subst k5;have hN:=Ğ 5 s g e BL omg;have Ķ:=cT (ND 0 BL.list) (by rw[yZ];omega);have EF:(ND 0 BL.list).length=BL.list.length:=Ĵ;rw[show Vi (.mk 5 s g e BL)=.ok (CG (ND 0 BL.list))from rfl,BV];generalize IF:BP ((BM.mk 5 s g e BL).enc [])=V at *
   (refine CK func52 ?_;simp only[go_sem,simprocAttr,ES]);(repeat'(first|((first|refine BU hP ?_|refine BU hN ?_);simp only[go_sem,simprocAttr])|fail));refine HD (B1 [(18,46)] _ sm) ?_;simp only[go_sem,simprocAttr];refine CL.loop (fun i:Nat=>⟨Ba 49 [(0,.p (.sl V)),(4,.p (.sl (A4 BL.list))),(6,.own 46 0 i),(7,.p (.int .i64 i))],[(46,.row 25 1 (CQ ((ND 0 BL.list).take i)))]⟩) (fun i=>i<=BL.list.length) (fun i=>BL.list.length-i) 0 CH (EK _) ?_;rintro i hi;by_cases BZ:i<BL.list.length
   ·have c1:((i:Int)<(BL.list.length:Int))=True:=AE omg;obtain⟨p,hp⟩:∃p,BL.list[i]?=some p:=⟨_,C' BZ⟩
    have hg:=Hx hp;have cU:=J4w (JA i) p.2 (by rw[ĵ];omega) (by have:=CR p (D4 hp);omega);have ķ:=J2x i omg;have cB:=ĳ (i:=0) hp;rw[MF]at cB;have JB:(CQ ((ND 0 BL.list).take i)).length=i:=by rw[FZ,GF];omega
    have DR:CQ ((ND 0 BL.list).take (i+1))=CQ ((ND 0 BL.list).take i)++[[.sl (BP ((VF (JA i) p.2).enc []))]]:=by
     rw[YI cB,V'];rfl
    (refine CC ?_;simp only[go_sem,simprocAttr,A5,c1,DM (i:=i) omg]);(repeat'(first|(refine And.intro (by first|(simp;done)|(simp;omega)) ?_)|refine EA ?_|((first|refine BU ķ ?_|refine BU cU ?_);simp only[go_sem,simprocAttr,ES,hg,JB,DM (i:=i) omg])|fail));exact⟨i+1,omg,omg,by rw[DR];exact CH⟩
   ·obtain rfl:i=BL.list.length:=omg;have c1:((BL.list.length:Int)<(BL.list.length:Int))=False:=AD omg;have QG:(ND 0 BL.list).take BL.list.length=ND 0 BL.list:=DK omg;have JB:(CQ (ND 0 BL.list)).length=BL.list.length:=by rw[FZ,EF]
    have JI:(CQ (ND 0 BL.list)).take BL.list.length=CQ (ND 0 BL.list):=DK omg;(refine CC ?_;simp only[go_sem,simprocAttr,A5,c1,QG,JI,JB,CS]);(repeat'(first|((refine BU Ķ ?_);simp only[go_sem,simprocAttr])|fail))
  ·have HE:=ya ok;have c1:(k<5)=True:=AE omg;rw[show Vi (.mk k s g e BL)=.error 5 by unfold Vi;rw[AA (show ¬(BM.mk k s g e BL).kind=6 from k6),AA (show ¬(BM.mk k s g e BL).kind=5 from k5)],BV];(refine CK func52 ?_;simp only[go_sem,simprocAttr,ES,c1])
   all_goals rfl
def J2m{l:List BM}{GJ:List KT}:VG (t::l) GJ=match TS t with
  |none=>none
  |some p=>VG l (EV p.1 p.2 (A8 p.1 GJ)):=by rw[VG]<;>rfl
def ĸ(name:List UInt8)(l:List KT):(A1 (A8 name l)).enc.length<=(A1 l).enc.length:=by
 have:=El name (A1 l);rw[Hd]at this;exact this
def ed{name:List UInt8}:∀{l:List KT} {p:KT},p∈A8 name l->p∈l/\p.1≠name
 |[],p,h=>by cases h
 |q::l,p,h=>by
  rw[A8]at h;split at h
  ·have:=ed h;exact⟨EW _ this.1,this.2⟩
  ·rename_i hq;rcases DN.1 h with rfl|h
   ·exact⟨DQ,hq⟩
   ·have:=ed h;exact⟨EW _ this.1,this.2⟩
def J4k{l:List BM}(h:l[i]?=some t):ER (l.take (i+1))=ER (l.take i)+(t.enc []).length:=by
 rw[YI h,eX];simp[ER]
def Jyu(i:Nat):ER (l.take i)<=ER l:=by
 conv=>rhs;rw[<-PO i l,eX]
 omega
def J6r{k:Int}(h:¬k=6):TS (.mk k s g e BL)=none:=by rw[uj,AA h]
def J35(h:Ch FE BL.list=none):TS (.mk 6 s g e BL)=none:=by rw[uj,AB rfl,h]
def Ka6{k':Int}(h:Ch FE BL.list=some (.mk k' s' g' e' BT))(hk:¬k'=4):TS (.mk 6 s g e BL)=none:=by
 rw[uj,AB rfl,h];simp only[AA hk]
def J8k(h:Ch FE BL.list=some (.mk 4 s' g' e' BT)):TS (.mk 6 s g e BL)=some (s',(Ch EY BL.list).getD Es):=by
 rw[uj,AB rfl,h];simp only[AB]
def J02(ok:EZ v)(EU:GC v)(hv:(v.enc []).length<=150000000000):CA cx 53 [.p (.sl (BP (v.enc [])))] [] (BV (Vw v)) []:=by
 have DI:=QH v;by_cases hk:v.kind=5
 ·have hP:CA cx 29 [.p (.sl (BP (v.enc [])))] [] (.p (.sl (CQ (CV v)))) []:=by
   obtain⟨k,s',g,e,BL⟩:=v;have hP:=Dy [] k s' g e BL (by rw[A6,DH]at hv;omega);rw[eY]at hP;exact hP
  obtain⟨r,DD⟩:=eZ v;rw[hk]at DD;have bg:∀t∈CV v,EZ t/\GC t/\(t.enc []).length<=150000000000:=fun t ht=>by
   refine⟨ui ok t ht,?_,by have:=WA ht;omega⟩;obtain⟨k,s',g,e,BL⟩:=v;obtain⟨p,hp,rfl⟩:=FB.1 ht;exact(Mg EU hp).2
  have u0:Vw v=match VG (CV v) []with
   |some l=>.ok (nd 6 l)
   |none=>.error 5:=by unfold Vw;rw[AB hk]<;>rfl
  rw[u0];have CY:=SN (CV v);have PD:BP ((nd 6 []).enc [])=[[.int .i64 6,.int .i64 0,.str [],.str [],.bool false,.int .i64 0]]:=by
   unfold nd;rw[A6,show A1 []=.nil from rfl,Bl];rfl
  generalize CV v=l at *
  (refine CK func53 ?_;simp only[go_sem,simprocAttr,DD]);(repeat'(first|((refine BU hP ?_);simp only[go_sem,simprocAttr])|fail));refine HD (wI _ (d:=19)) ?_;simp only[go_sem,simprocAttr];refine CL.loop (fun x:Nat×List KT=>⟨Ba 71 [(4,.p (.sl (CQ l))),(5,.p (.sl (BP ((nd 6 x.2).enc [])))),(6,.p (.int .i64 x.1))],[]⟩) (fun x=>x.1<=l.length/\VG l []=VG (l.drop x.1) x.2/\EJ x.2/\(∀p∈x.2,valid p.1=true/\p.1.length<=1000000)/\(A1 x.2).enc.length<=ER (l.take x.1)) (fun x=>l.length-x.1) (0,[]) (by simp only;rw[PD];exact CH) ⟨EK _,rfl,.nil,by simp,by rw[show A1 []=.nil from rfl,Bl];exact EK _⟩ ?_;rintro⟨i,GJ⟩ ⟨hi,h2,h3,h4,h5⟩;simp only at hi h2 h3 h4 h5⊢;by_cases BZ:i<l.length
  ·have c1:((i:Int)<(l.length:Int))=True:=AE omg;obtain⟨t,ht⟩:∃t,l[i]?=some t:=⟨_,C' BZ⟩
   have hg:=RW ht;obtain⟨eV,mZ,mc⟩:=bg t (D4 ht);have hd:l.drop i=t::l.drop (i+1):=by rw[Mx BZ];congr 1;rw[C' BZ]at ht;exact L' ht
   rw[hd,J2m]at h2;have XU:=J4k ht;have Ux:=Jyu l (i+1);obtain⟨tk,ts,tg,te,HB⟩:=t;have IG:=Cc [] tk ts tg te HB;by_cases k6:tk=6
   ·subst k6;have ur:HB.enc.length<=150000000000:=by rw[A6,DH]at mc;omega
    have QI:=Re [] ts tg te HB FE omg;have O':=Re [] ts tg te HB EY omg;cases f1:Ch FE HB.list with
    |none =>
     rw[J35 f1]at h2;simp only at h2;rw[f1]at QI;unfold Oo at QI;rw[h2];cases f2:Ch EY HB.list with
     |none =>
      rw[f2]at O';unfold Oo at O';(refine CC ?_;simp only[go_sem,simprocAttr,FZ,c1,hg,IG]);(repeat'(first|((first|refine BU QI ?_|refine BU O' ?_);simp only[go_sem,simprocAttr,hg])|fail))
      all_goals rfl
     |some x =>
      rw[f2]at O';unfold Oo at O';(refine CC ?_;simp only[go_sem,simprocAttr,FZ,c1,hg,IG]);(repeat'(first|((first|refine BU QI ?_|refine BU O' ?_);simp only[go_sem,simprocAttr,hg])|fail))
      all_goals rfl
    |some key =>
     obtain⟨kk,ks,kg,ke,QJ⟩:=key;have Xh:=Cc [] kk ks kg ke QJ;have DV:(BP ((BM.mk kk ks kg ke QJ).enc [])).length=QJ.enc.length+1:=by rw[A7,A6];rfl
     obtain⟨pk,u5,ek,_⟩:=H2 f1;have WB:=cP eV u5;have bh:=(Mg mZ u5).2;rw[ek]at WB bh;have ei:1000000 ≥ ks.length:=(bh ⟨kk,QJ.len,[],ks,kg,ke⟩ (by rw[A6];exact DQ)).s;rw[f1]at QI;unfold Oo at QI;by_cases k4:kk=4
     ·subst k4;rw[J8k f1]at h2;simp only at h2;have gI:valid ks=true:=by
       have:=(Lu.1 WB).1;simp[G3]at this;exact this.1
      have lM:=ĸ ks GJ;have hW:∀x:BM,(x.enc []).length<=150000000000->CA cx 106 [.p (.sl (BP ((nd 6 GJ).enc []))),.p (.str ks),.p (.sl (BP (x.enc [])))] [] (.p (.sl (BP ((nd 6 (EV ks x (A8 ks GJ))).enc [])))) []:=fun x hx=>by
       have hw:=Tl [] [] false 0 (A1 GJ) ks x omg omg (by rw[Hd];exact h3.kept ks) (by rw[Hd];exact fun p hp=>(h4 p hp).2) (by rw[Hd];exact fun p hp=>(h4 p hp).1) ei gI;rw[Hd]at hw;exact hw
      have VJ:∀x:BM,(x.enc []).length<=((BM.mk 6 ts tg te HB).enc []).length->EJ (EV ks x (A8 ks GJ))/\(∀p∈EV ks x (A8 ks GJ),valid p.1=true/\p.1.length<=1000000)/\(A1 (EV ks x (A8 ks GJ))).enc.length<=ER (l.take (i+1)):=fun x hx=>by
       refine⟨Kh (h3.kept ks) fun p hp=>(ed hp).2,fun p hp=>?_,?_⟩
       ·have:=(Hv ks x (A8 ks GJ)).mem_iff.1 hp;rcases DN.1 this with rfl|h
        ·exact⟨gI,ei⟩
        ·exact h4 p (ed h).1
       ·rw[Iv,XU];omega
      cases f2:Ch EY HB.list with
      |none =>
       rw[f2]at O' h2;unfold Oo at O';rw[Option.getD_none]at h2;have me:=hW Es (by rw[gD];decide);obtain⟨n1,n2,n3⟩:=VJ Es (by rw[gD];exact Et _ _);(refine CC ?_;simp only[go_sem,simprocAttr,FZ,c1,hg,IG,DM (i:=i) omg]);(repeat'(first|(apply BY<;>intro h)|((first|refine BU QI ?_|refine BU O' ?_|refine BU mP ?_|refine BU me ?_);simp only[go_sem,simprocAttr,hg,Xh,DV,DM (i:=i) omg])|(exfalso;omega)))
       all_goals exact⟨(i+1,EV ks Es (A8 ks GJ)),⟨by simp only;omega,h2,n1,n2,n3⟩,by simp only;omega,CH⟩
      |some x =>
       rw[f2]at O' h2;unfold Oo at O';rw[Option.getD_some]at h2;obtain⟨px,mx,ex,_⟩:=H2 f2;have PU:=YE mx;rw[ex]at PU;have me:=hW x omg;obtain⟨n1,n2,n3⟩:=VJ x (by rw[A6,DH];omega);(refine CC ?_;simp only[go_sem,simprocAttr,FZ,c1,hg,IG,DM (i:=i) omg]);(repeat'(first|(apply BY<;>intro h)|((first|refine BU QI ?_|refine BU O' ?_|refine BU me ?_);simp only[go_sem,simprocAttr,hg,Xh,DV,DM (i:=i) omg])|(exfalso;omega)))
       all_goals exact⟨(i+1,EV ks x (A8 ks GJ)),⟨by simp only;omega,h2,n1,n2,n3⟩,by simp only;omega,CH⟩
     ·rw[Ka6 f1 k4]at h2;simp only at h2;rw[h2];have c4:=AD k4;cases f2:Ch EY HB.list with
      |none =>
       rw[f2]at O';unfold Oo at O';(refine CC ?_;simp only[go_sem,simprocAttr,FZ,c1,hg,IG]);(repeat'(first|(apply BY<;>intro h)|((first|refine BU QI ?_|refine BU O' ?_);simp only[go_sem,simprocAttr,hg,Xh,DV,c4])|(exfalso;omega)))
       all_goals rfl
      |some x =>
       rw[f2]at O';unfold Oo at O';(refine CC ?_;simp only[go_sem,simprocAttr,FZ,c1,hg,IG]);(repeat'(first|(apply BY<;>intro h)|((first|refine BU QI ?_|refine BU O' ?_);simp only[go_sem,simprocAttr,hg,Xh,DV,c4])|(exfalso;omega)))
       all_goals rfl
   ·rw[J6r k6]at h2;simp only at h2;rw[h2];have c6:=AD k6;(refine CC ?_;simp only[go_sem,simprocAttr,FZ,c1,hg,IG,c6])
    all_goals rfl
  ·obtain rfl:i=l.length:=omg;have c1:((l.length:Int)<(l.length:Int))=False:=AD omg;rw[nQ,VG]at h2;rw[h2];simp only[BV];(refine CC ?_;simp only[go_sem,simprocAttr,FZ,c1])
   skip
 ·have u0:Vw v=.error 5:=by unfold Vw;rw[AA hk]
  rw[u0,BV];obtain⟨k,s',g,e,BL⟩:=v;have c1:(k=5)=False:=AD hk;(refine CK func53 ?_;simp only[go_sem,simprocAttr,Cc,c1,AJ])
  all_goals rfl
def Ĺ:∀(f:Nat) (s:List UInt8) (i:Nat),(aE s f i).length<=s.length-i
 |0,s,i=>EK _
 |f+1,s,i=>by
  rw[aE];split
  ·have:=Ĺ f s (i+max (DF s i) 1);rw[DH];omega
  ·exact EK _
def J26:∀(f:Nat) (s:List UInt8) (i:Nat),s.length<i+f->(aE s f i).flatten=s.drop i
 |0,s,i,h=>by rw[aE,JD omg];rfl
 |f+1,s,i,h=>by
  rw[aE];split
  ·rw[List.flatten_cons,J26 f s _ omg,<-JO,PO]
  ·rw[JD omg];rfl
def Jxu(i:Nat):(R.take i).flatten.length<=R.flatten.length:=by
 conv=>rhs;rw[<-PO i R,nM,DC]
 omega
def Jxv(i:Nat):(R.drop i).flatten.length<=R.flatten.length:=by
 conv=>rhs;rw[<-PO i R,nM,DC]
 omega
def ĺ:∀R:List (List UInt8),R.reverse.flatten.length=R.flatten.length
 |[]=>rfl
 |r::R=>by rw[List.reverse_cons,nM,DC,ĺ R,List.flatten_cons,DC];simp;omega
def yb(s:List UInt8):(Oz s).flatten=s:=by
 unfold Oz;rw[J26 _ s 0 omg,OB]
def Kes(a b:List (List UInt8)):DP (a++b)=DP a++DP b:=by simp[DP]
def J75{l:List (List UInt8)}(h:l[i]?=some s):(DP l)[i]?=some [.str s]:=by simp[DP,h]
@[simp] theorem u6:DP []=[]:=rfl
def J42(s:List UInt8)(hs:s.length<=1000000):CA cx 100 [.p (.str s)] [] (.p (.sl (DP (Oz s)))) []:=by
 (refine CB func100 ?_);refine HD (B1 [(6,23)] _ sm) ?_;simp only[go_sem,simprocAttr];refine CL.loop (fun x:Nat×Nat×List (List UInt8)=>⟨Ba 28 [(0,.p (.str s)),(3,.own 23 0 x.2.2.length),(4,.p (.int .i64 x.1))],[(23,.row 9 1 (DP x.2.2))]⟩) (fun x=>x.1<=s.length/\s.length<x.1+x.2.1/\x.2.2.length<=x.1/\Oz s=x.2.2++aE s x.2.1 x.1) (fun x=>s.length-x.1) (0,s.length+1,[]) CH ⟨EK _,by simp,by simp,rfl⟩ ?_;rintro⟨i,f,R⟩ ⟨h1,h2,h3,h4⟩;simp only at h1 h2 h3 h4;obtain⟨f,rfl⟩:∃g,f=g+1:=⟨f-1,omg⟩
 rw[aE]at h4;by_cases hi:i<s.length
 ·have c1:((i:Int)<(s.length:Int))=True:=AE omg;rw[AB hi]at h4;have hR:=Ø s i hs hi;have DO:=M4 s i hi;have II:max ((DF s i:Nat):Int) 1=((max (DF s i) 1:Nat):Int):=omg;have h41:=Qv s i;have HW:i+max (DF s i) 1<=s.length:=omg;have eF:1<=max (DF s i) 1:=Nat.le_max_right _ _;generalize max (DF s i) 1=m at *
  have w1:IntKind.i64.wrap ((i:Int)+(m:Int))=((i+m:Nat):Int):=by rw[Aa omg omg];omega
  have HI:i+m-i=m:=omg;have ha:DP R++[[.str ((s.drop i).take m)]]=DP (R++[(s.drop i).take m]):=(Kes R [_]).symm;have hn:R.length+1=(R++[(s.drop i).take m]).length:=sm
  (refine CC ?_;simp only[go_sem,simprocAttr,c1]);(repeat'(first|(refine And.intro (by first|(simp;done)|(simp;omega)) ?_)|refine EA ?_|((refine BU hR ?_);simp only[go_sem,simprocAttr,II,w1,HI,ha,lf])|fail))
  all_goals exact⟨(i+m,f,R++[(s.drop i).take m]),⟨by simp only;omega,by simp only;omega,by simp only;rw[<-hn];omega,by simp only;rw[h4,KJ];rfl⟩,by simp only;omega,by simp only;rw[<-hn];exact CH⟩
 ·have c1:((i:Int)<(s.length:Int))=False:=AD omg;rw[AA hi,ID]at h4;have ht:(DP R).take R.length=DP R:=DK (by rw[lf];exact CS _);rw[h4];(refine CC ?_;simp only[go_sem,simprocAttr,c1,ht,lf,CS])
  skip
def Kc9:CA cx 30 [.p .snil] [] (.p (.sl (BP ((CG []).enc [])))) []:=by
 have e0:BP ((CG []).enc [])=[[.int .i64 5,.int .i64 0,.str [],.str [],.bool false,.int .i64 0]]:=by
  unfold CG;rw[A6,show A1 (UH [])=.nil from rfl,Bl];rfl
 rw[e0];refine CB func30 ?_;refine HD (B1 [(8,20)] _ sm) ?_;simp only[go_sem,simprocAttr];refine CL.loop (fun _:Unit=>⟨Ba 22 [(0,.p .snil),(3,.own 20 0 1),(4,.p (.int .i64 0))],[(20,.row 36 6 [[.int .i64 5,.int .i64 0,.str [],.str [],.bool false,.int .i64 0]])]⟩) (fun _=>True) (fun _=>0) () CH trivial ?_;rintro _ _;(refine CC ?_;simp only[go_sem,simprocAttr])
 skip
def J87(hl:l.length<=1500000000000):CA cx 111 [.p (.sl (CQ l))] [] (.p (.sl (CQ l.reverse))) []:=by
 have w0:IntKind.i64.wrap ((l.length:Int)-1)=(l.length:Int)-1:=Aa omg omg;(refine CK func111 ?_;simp only[go_sem,simprocAttr,FZ,w0]);refine HD (B1 [(5,19)] _ sm) ?_;simp only[go_sem,simprocAttr];refine CL.loop (fun k:Nat=>⟨Ba 21 [(0,.p (.sl (CQ l))),(3,.own 19 0 k),(4,.p (.int .i64 ((l.length:Int)-1-k)))],[(19,.row 25 1 (CQ (l.reverse.take k)))]⟩) (fun k=>k<=l.length) (fun k=>l.length-k) 0 (by rw[QN,ħ,show((0:Nat):Int)=0 from rfl,Int.sub_zero];exact CH) (EK _) ?_;rintro k hk;by_cases BZ:k<l.length
 ·obtain⟨i,hi⟩:∃i,l.length=k+1+i:=⟨l.length-k-1,omg⟩
  have e1:(l.length:Int)-1-(k:Int)=(i:Int):=omg;have c1:((0:Int)<=(i:Int))=True:=AE omg;obtain⟨t,ht⟩:∃t,l[i]?=some t:=⟨_,C' omg⟩
  have hg:=RW ht;have w1:IntKind.i64.wrap ((i:Int)-1)=(l.length:Int)-1-((k+1:Nat):Int):=by rw[Aa omg omg];omega
  have yS:l.reverse[k]?=some t:=by rw[b6 omg,show l.length-1-k=i by omega];exact ht
  have DR:CQ (l.reverse.take (k+1))=CQ (l.reverse.take k)++[[.sl (BP (t.enc []))]]:=by rw[YI yS,V'];rfl
  have D':(CQ (l.reverse.take k)).length=k:=by rw[FZ,GF,aM];omega
  rw[e1];(refine CC ?_;simp only[go_sem,simprocAttr,c1,hg,w1,D']);(repeat'(first|(refine And.intro (by first|(simp;done)|(simp;omega)) ?_)|refine EA ?_|fail));exact⟨k+1,omg,omg,by rw[DR];exact CH⟩
 ·obtain rfl:k=l.length:=omg;have e1:(l.length:Int)-1-(l.length:Int) = -1:=omg;have ht:l.reverse.take l.length=l.reverse:=DK sm;have JI:(CQ l.reverse).take l.length=CQ l.reverse:=DK sm;have JB:(CQ l.reverse).length=l.length:=sm;rw[e1,ht];(refine CC ?_;simp only[go_sem,simprocAttr,JI,JB,CS])
  skip
def Ļ(s:List UInt8):BP ((GY s).enc [])=[[.int .i64 4,.int .i64 0,.str [],.str s,.bool false,.int .i64 0]]:=by unfold GY;rw[A6,Bl];rfl
def J6i(ok:EZ v)(hf:GC v)(hv:(v.enc []).length<=1350000000000):CA cx 55 [.p (.sl (BP (v.enc [])))] [] (BV (Lx v)) []:=by
 have hP:=uv v omg;have DI:=QH v;have HI:=SN (CV v);obtain⟨k,s,g,e,BL⟩:=v;have ES:=Cc [] k s g e BL;have ļ:s.length<=1000000:=(hf ⟨k,BL.len,[],s,g,e⟩ (by rw[A6];exact DQ)).s;by_cases k0:k=0
 ·subst k0;rw[show Lx (.mk 0 s g e BL)=.ok (CG [])from rfl,BV];generalize BP ((BM.mk 0 s g e BL).enc [])=V at *
  (refine CK func55 ?_;simp only[go_sem,simprocAttr,ES]);(repeat'(first|((refine BU Kc9 ?_);simp only[go_sem,simprocAttr])|fail))
 ·by_cases k5:k=5
  ·subst k5;have hT:=J87 (CV (.mk 5 s g e BL)) omg;have R3:ER (CV (.mk 5 s g e BL)).reverse=ER (CV (.mk 5 s g e BL)):=by
    unfold ER;rw[List.map_reverse,List.sum_reverse]
   have hL:=cT (CV (.mk 5 s g e BL)).reverse omg;rw[show Lx (.mk 5 s g e BL)=.ok (CG (CV (.mk 5 s g e BL)).reverse)from rfl,BV];generalize BP ((BM.mk 5 s g e BL).enc [])=V at *
   (refine CK func55 ?_;simp only[go_sem,simprocAttr,ES]);(repeat'(first|((first|refine BU hP ?_|refine BU hT ?_|refine BU hL ?_);simp only[go_sem,simprocAttr])|fail))
  ·by_cases k4:k=4
   ·subst k4;have hR:=J42 s ļ;have RL:=yb s;have cE:(Oz s).length<=s.length:=by have:=Ĺ (s.length+1) s 0;unfold Oz;omega
    rw[show Lx (.mk 4 s g e BL)=.ok (GY (Oz s).reverse.flatten)from rfl,BV,Ļ];generalize BP ((BM.mk 4 s g e BL).enc [])=V at *
    generalize Oz s=R at *
    (refine CK func55 ?_;simp only[go_sem,simprocAttr,ES]);(repeat'(first|((refine BU hR ?_);simp only[go_sem,simprocAttr])|fail));refine CL.loop (fun i:Nat=>⟨Ba 42 [(4,.p (.sl (DP R))),(5,.p (.str (R.take i).reverse.flatten)),(6,.p (.int .i64 i))],[]⟩) (fun i=>i<=R.length) (fun i=>R.length-i) 0 (by rw[QN];exact CH) (EK _) ?_;rintro i hi;by_cases BZ:i<R.length
    ·have c1:((i:Int)<(R.length:Int))=True:=AE omg;obtain⟨r,hr⟩:∃r,R[i]?=some r:=⟨_,C' BZ⟩
     have hg:=J75 hr;have GQ:r++(R.take i).reverse.flatten=(R.take (i+1)).reverse.flatten:=by
      rw[YI hr,List.reverse_append];rfl
     have h1:=ĺ (R.take (i+1));have h2:=Jxu R (i+1);have h3:=congrArg List.length GQ;rw[RL]at h2;rw[DC]at h3;(refine CC ?_;simp only[go_sem,simprocAttr,lf,c1,hg,GQ,DM (i:=i) omg]);(repeat'(first|refine EA ?_|fail))
     all_goals exact⟨i+1,omg,omg,CH⟩
    ·obtain rfl:i=R.length:=omg;have c1:((R.length:Int)<(R.length:Int))=False:=AD omg;rw[bz];(refine CC ?_;simp only[go_sem,simprocAttr,lf,c1])
     skip
   ·have e0:=AD k0;have e5:=AD k5;have e4:=AD k4;rw[show Lx (.mk k s g e BL)=.error 5 by simp only[Lx,AA k0,AA k5,AA k4],BV];(refine CK func55 ?_;simp only[go_sem,simprocAttr,ES,e0,e5,e4])
    all_goals rfl
def Kf0(v:BM)(hn:n<=1000000)(ok:EZ v)(hf:GC v)(hv:(v.enc []).length<=1350000000000):CA cx 48 [.p (.int .i64 n),.p (.sl (BP (v.enc [])))] [] (BV (V8 n v)) []:=by
 have hP:=uv v omg;have DI:=QH v;have HI:=SN (CV v);obtain⟨k,s,g,e,BL⟩:=v;have ES:=Cc [] k s g e BL;have ļ:s.length<=1000000:=(hf ⟨k,BL.len,[],s,g,e⟩ (by rw[A6];exact DQ)).s;by_cases k0:k=0
 ·subst k0;rw[show V8 n (.mk 0 s g e BL)=.ok Es from rfl,BV];generalize BP ((BM.mk 0 s g e BL).enc [])=V at *
  (refine CK func48 ?_;simp only[go_sem,simprocAttr,ES]);(repeat'(first|((refine BU mP ?_);simp only[go_sem,simprocAttr])|fail))
 ·by_cases k5:k=5
  ·subst k5;have oy:ER ((CV (.mk 5 s g e BL)).drop n)<=ER (CV (.mk 5 s g e BL)):=by
    conv=>rhs;rw[<-PO n (CV (.mk 5 s g e BL)),eX]
    omega
   have hL:=cT ((CV (.mk 5 s g e BL)).drop n) omg;rw[show V8 n (.mk 5 s g e BL)=.ok (CG ((CV (.mk 5 s g e BL)).drop n))from rfl,BV];generalize BP ((BM.mk 5 s g e BL).enc [])=V at *
   generalize CV (.mk 5 s g e BL)=l at *
   have dD:min (n:Int) (l.length:Int)=((min n l.length:Nat):Int):=omg;have bT:(CQ l).drop (min n l.length)=CQ (l.drop n):=by
    unfold CQ;rw[nH];by_cases h:n<=l.length
    ·rw[b4 h]
    ·rw[Nat.min_eq_right omg,JD sm,JD (by simp;omega)]
   have EF:=oO l;have HW:min n l.length<=l.length:=Nat.min_le_right _ _;generalize min n l.length=m at *
   (refine CK func48 ?_;simp only[go_sem,simprocAttr,ES]);(repeat'(first|(refine And.intro (by first|exact EF|(simp;done)|(simp;omega)) ?_)|((first|refine BU hP ?_|refine BU hL ?_);simp only[go_sem,simprocAttr,FZ,dD,bT])|fail))
  ·by_cases k4:k=4
   ·subst k4;have hR:=J42 s ļ;have RL:=yb s;have cE:(Oz s).length<=s.length:=by have:=Ĺ (s.length+1) s 0;unfold Oz;omega
    rw[show V8 n (.mk 4 s g e BL)=.ok (GY ((Oz s).drop n).flatten)from rfl,BV,Ļ];generalize BP ((BM.mk 4 s g e BL).enc [])=V at *
    generalize Oz s=R at *
    (refine CK func48 ?_;simp only[go_sem,simprocAttr,ES]);(repeat'(first|((refine BU hR ?_);simp only[go_sem,simprocAttr])|fail));refine CL.loop (fun i:Nat=>⟨Ba 51 [(7,.p (.sl (DP R))),(8,.p (.str ((R.drop n).take i).flatten)),(9,.p (.int .i64 (n+i:Nat)))],[]⟩) (fun i=>i<=R.length) (fun i=>R.length-i) 0 (by rw[QN,Nat.add_zero];exact CH) (EK _) ?_;rintro i hi;by_cases BZ:n+i<R.length
    ·have c1:(((n+i:Nat):Int)<(R.length:Int))=True:=AE omg;obtain⟨r,hr⟩:∃r,R[n+i]?=some r:=⟨_,C' BZ⟩
     have hg:=J75 hr;have GQ:((R.drop n).take i).flatten++r=((R.drop n).take (i+1)).flatten:=by
      rw[YI (x:=r) (by rw[cm];exact hr),nM];simp
     have h1:=Jxu (R.drop n) (i+1);have h2:=Jxv R n;have h3:=congrArg List.length GQ;rw[RL]at h2;rw[DC]at h3;(refine CC ?_;simp only[go_sem,simprocAttr,lf,c1,hg,GQ,DM (i:=n+i) omg]);(repeat'(first|refine EA ?_|fail))
     all_goals exact⟨i+1,omg,omg,CH⟩
    ·have c1:(((n+i:Nat):Int)<(R.length:Int))=False:=AD omg;rw[show(R.drop n).take i=R.drop n from DK (by rw[KO];omega)];(refine CC ?_;simp only[go_sem,simprocAttr,lf,c1])
     skip
   ·have e0:=AD k0;have e5:=AD k5;have e4:=AD k4;rw[show V8 n (.mk k s g e BL)=.error 5 by simp only[V8,AA k0,AA k5,AA k4],BV];(refine CK func48 ?_;simp only[go_sem,simprocAttr,ES,e0,e5,e4])
    all_goals rfl
def Kas{k:Int}(h:EZ (.mk k s g e BL))(h0:k=0):BM.mk k s g e BL=Es:=by
 subst h0;obtain⟨h1,_,_⟩:=Lu.1 h;unfold G3 at h1;rw[AB (.inl rfl)]at h1;obtain⟨a,b,c,d⟩:=h1;subst b c d;rw[mC a];rfl
def yc:CA cx 65 [] [] (.p (.sl (BP (Es.enc [])))) []:=by
 rw[J8o];(refine CK func65 ?_;simp only[go_sem,simprocAttr])
 skip
def Ľ(s:List UInt8):CA cx 85 [.p (.str s)] [] (.p (.sl (BP ((GY s).enc [])))) []:=by
 rw[Ļ];(refine CK func85 ?_;simp only[go_sem,simprocAttr])
 skip
def yd(s:List UInt8)(hs:s.length<=1000000):CA cx 45 [.p (.str s)] [] (.p (.sl (Bb (Je s).1))) []:=by
 (refine CB func45 ?_);(repeat'(first|((refine BU (Jjx s hs) ?_);simp only[go_sem,simprocAttr])|fail))
@[go_sem] theorem ye {b:Bool}:((PV.bool b).scalar=true)=True:=eq_true rfl
@[go_sem] theorem f_bb6 {parts:List (Nat×L)} {K:L->Prop}:Vf Tryz.prog 123 parts K=(Tryz.prog.cellsOf 4=1/\6=parts.length/\RE (Bu Tryz.prog 123) 6/\Bq (aS 0 parts) (QA K)):=J7p kx
def Ka3(n c:Int)(h0:0<=n)(h5:n<=5):CA cx 61 [.p (.int .i64 n),.p (.int .i64 c)] [] (.p (.bool (eN n c))) []:=by
 have hn:n=0\/n=1\/n=2\/n=3\/n=4\/n=5:=omg;unfold eN;rcases hn with rfl|rfl|rfl|rfl|rfl|rfl
 all_goals simp only[Int.reduceEq,if_true,if_false]
 ·(refine CK func61 ?_;simp only[go_sem,simprocAttr])
  all_goals(rw[KA];simp)
 ·(refine CK func61 ?_;simp only[go_sem,simprocAttr])
  all_goals(rw[KA];simp)
 ·(refine CK func61 ?_;simp only[go_sem,simprocAttr])
  all_goals(rw[KA];simp)
 ·(refine CK func61 ?_;simp only[go_sem,simprocAttr])
  all_goals(rw[KA];simp)
 ·(refine CK func61 ?_;simp only[go_sem,simprocAttr])
  all_goals(rw[KA];simp)
 ·(refine CK func61 ?_;simp only[go_sem,simprocAttr])
  all_goals(rw[KA];simp)
def J8f:JX [x] t=KS t x:=by
 rw[JX];cases KS t x with
 |ok u=>rfl
 |error e=>rfl
def u7(x:CD)(v:BM)(hx:Bc x)(ok:EZ v)(hv:(v.enc []).length<=1500000000000):CA cx 36 [.p (.agg [.bool x.part,.str x.name,.int .i64 x.n]),.p (.sl (BP (v.enc [])))] [] (BV (IM x v)) []:=by
 obtain⟨k,s,g,e,BL⟩:=v;have hG:=M1 [x] (.mk k s g e BL) sm (fun y hy=>by simp at hy;subst hy;exact hx) hv;rw[J8f]at hG;have ES:=Cc [] k s g e BL;obtain⟨b,nm,n⟩:=x;by_cases h0:k=0
 ·subst h0;rw[ę,BV,<-Kas ok rfl];generalize BP ((BM.mk 0 s g e BL).enc [])=V at *
  cases b with
  |true =>
   (refine CK func36 ?_;simp only[go_sem,simprocAttr,ES])
   skip
  |false =>
   (refine CK func36 ?_;simp only[go_sem,simprocAttr,ES])
   skip
 ·have e0:=AD h0;cases b with
  |true =>
   by_cases h5:k=5
   ·subst h5;rw[yJ];rw[Tm rfl]at hG;simp only at hG;cases hq:BL.list[n.toNat]? with
    |none =>
     rw[hq,BV]at hG;simp only[Option.map_none,Option.getD_none,BV];generalize BP ((BM.mk 5 s g e BL).enc [])=V at *
     (refine CK func36 ?_;simp only[go_sem,simprocAttr,ES]);(repeat'(first|((first|refine BU hG ?_|refine BU yc ?_);simp only[go_sem,simprocAttr])|fail))
     all_goals rfl
    |some p =>
     rw[hq,BV]at hG;simp only[Option.map_some,Option.getD_some,BV];generalize BP ((BM.mk 5 s g e BL).enc [])=V at *
     (refine CK func36 ?_;simp only[go_sem,simprocAttr,ES]);(repeat'(first|((refine BU hG ?_);simp only[go_sem,simprocAttr])|fail))
     all_goals rfl
   ·have e5:=AD h5;rw[Ě h0 h5,BV];generalize BP ((BM.mk k s g e BL).enc [])=V at *
    (refine CK func36 ?_;simp only[go_sem,simprocAttr,ES,e0,e5])
    all_goals rfl
  |false =>
   by_cases h6:k=6
   ·subst h6;rw[uZ];rw[Tp rfl]at hG;simp only at hG;cases hq:Ch nm BL.list with
    |none =>
     rw[hq,BV]at hG;simp only[Option.getD_none,BV];generalize BP ((BM.mk 6 s g e BL).enc [])=V at *
     (refine CK func36 ?_;simp only[go_sem,simprocAttr,ES]);(repeat'(first|((first|refine BU hG ?_|refine BU yc ?_);simp only[go_sem,simprocAttr])|fail))
     all_goals rfl
    |some p =>
     rw[hq,BV]at hG;simp only[Option.getD_some,BV];generalize BP ((BM.mk 6 s g e BL).enc [])=V at *
     (refine CK func36 ?_;simp only[go_sem,simprocAttr,ES]);(repeat'(first|((refine BU hG ?_);simp only[go_sem,simprocAttr])|fail))
     all_goals rfl
   ·have e6:=AD h6;rw[yI h0 h6,BV];generalize BP ((BM.mk k s g e BL).enc [])=V at *
    (refine CK func36 ?_;simp only[go_sem,simprocAttr,ES,e0,e6])
    all_goals rfl
def ľ(v:BM)(hp:p.length<=1000000)(GZ:∀x∈p,Bc x)(ok:EZ v)(hv:(v.enc []).length<=1500000000000):CA cx 20 [.p (.sl (Bb p)),.p (.sl (BP (v.enc [])))] [] (BV (KU p v)) []:=by
 (refine CK func20 ?_;simp only[go_sem,simprocAttr,Aq]);refine CL.loop (fun x:Nat×BM=>⟨Ba 28 [(0,.p (.sl (Bb p))),(1,.p (.sl (BP (x.2.enc [])))),(10,.p (.sl (Bb p))),(11,.p (.int .i64 p.length)),(12,.p (.int .i64 x.1))],[]⟩) (fun x=>x.1<=p.length/\EZ x.2/\(x.2.enc []).length<=1500000000000/\KU (p.drop x.1) x.2=KU p v) (fun x=>p.length-x.1) (0,v) CH ⟨EK _,ok,hv,rfl⟩ ?_;rintro⟨i,u⟩ ⟨h1,Ŀ,h2,h3⟩;simp only at h1 Ŀ h2 h3;by_cases hi:i<p.length
 ·obtain⟨x,hx⟩:∃x,p[i]?=some x:=⟨_,C' hi⟩
  have EH:=Dk hx;have VX:p.drop i=x::p.drop (i+1):=by rw[Mx hi];congr 1;rw[C' hi]at hx;exact L' hx
  have MP:=GZ x (D4 hx);rw[VX,KU]at h3;have FU:=u7 x u MP Ŀ h2;have c1:((i:Int)<(p.length:Int))=True:=AE omg;cases hu:IM x u with
  |error er =>
   rw[hu,BV]at FU;rw[hu]at h3;have:=oH hu;subst this;rw[<-h3];simp only[BV];(refine CC ?_;simp only[go_sem,simprocAttr,c1,EH]);(repeat'(first|((refine BU FU ?_);simp only[go_sem,simprocAttr])|fail))
   all_goals rfl
  |ok w =>
   rw[hu,BV]at FU;rw[hu]at h3;have DO:=oG hu;have hwo:=J64 Ŀ hu;(refine CC ?_;simp only[go_sem,simprocAttr,c1,EH,HL (i:=i) omg]);(repeat'(first|((refine BU FU ?_);simp only[go_sem,simprocAttr,HL (i:=i) omg])|fail))
   all_goals exact⟨(i+1,w),⟨by simp only;omega,hwo,by simp only;omega,h3⟩,by simp only;omega,CH⟩
 ·have c1:((i:Int)<(p.length:Int))=False:=AD omg;rw[show p.drop i=[]from JD omg,KU]at h3;rw[<-h3,BV];(refine CC ?_;simp only[go_sem,simprocAttr,c1])
  all_goals rfl
end
abbrev V1:={ v:Value // v.oneCell'=true }
instance:Inhabited V1:=⟨⟨.bool false,rfl⟩⟩
def v1:V1->Value:=Subtype.val
def ŀ:OneCell v1:=fun x=>x.2
def yf{n:Nat}{v:Value}(hf:Fit β w Im ⟨args,[(1000,.row T 1 es)]⟩ tmps)(hv:CE β w Im v (.own 1000 0 n))(hn:es.length=n) :
  (n=0/\v=.slice none 0 0)\/∃loc cap,∃d:List V1,β 1000=some loc/\v=.slice (some ⟨loc.blk,0,none⟩) n cap/\cap=loc.tot/\d.length=n/\n<=cap/\cap<=maxLen/\Sort.Holds v1 w loc.blk 0 d.toArray /\
   ∀(i:Nat) (x:V1) (e:List PV),d[i]?=some x->es[i]?=some e->∃p,e=[p]/\p.scalar=true/\BW w Im x.1 p:=by
 rcases hv with⟨loc,cap,o,CM,h1,h2,h3,rfl⟩|⟨CM,_,h0,rfl⟩
 ·refine .inr ?_;have ho:o=0:=by rw[h3 (.inr rfl),og]
  subst ho;rcases hf.regs 1000 _ DQ with⟨hb,_⟩|⟨CO,cur,hb,g1,g2,g3,g4,g5,g6,g7⟩
  ·rw[CM]at hb;cases hb
  rw[CM]at hb;cases hb;rw[MF]at h1;have OI:∀i,i<n->∃u:Value,∃p,cur[i]?=some u/\es[i]?=some [p]/\p.scalar=true/\BW w Im u p:=by
   intro i hi;obtain⟨e,he⟩:∃e,es[i]?=some e:=⟨_,C' omg⟩
   obtain⟨q1,q2⟩:=g6 e (D4 he);obtain⟨p,rfl⟩:∃p,e=[p]:=by
    cases e with
    |nil=>simp at q1
    |cons p r=>cases r with
     |nil=>exact⟨p,rfl⟩
     |cons=>simp at q1
   obtain⟨u,q3,q4⟩:=g7 i _ 0 p he rfl;rw[XR,Nat.add_zero]at q3;exact⟨u,p,q3,he,q2 p DQ,q4⟩
  have FI:n<=cur.length:=by rw[g3];omega
  have GI:∀x∈cur.take n,x.oneCell'=true:=by
   intro x hx;obtain⟨i,hi⟩:=WE hx;rw[IQ]at hi;split at hi
   ·rename_i BZ;obtain⟨u,p,q1,_,q3,q4⟩:=OI i BZ;rw[q1]at hi;cases hi;exact q4.one q3
   ·cases hi
  let d:List V1:=(cur.take n).attach.map fun x=>⟨x.1,GI x.1 x.2⟩
  have TM:d.length=n:=by simp[d];omega
  have hdv:d.map v1=cur.take n:=by simp[d,v1,Function.comp_def]
  have hdg:∀(i:Nat) (x:V1),d[i]?=some x->cur[i]?=some x.1:=by
   intro i x hx;have:(d.map v1)[i]?=some x.1:=by rw[Eam,hx];rfl
   rw[hdv,IQ]at this;split at this
   ·exact this
   ·cases this
  refine⟨loc,cap,d,CM,rfl,h1,TM,h2,omg,fun j hj=>?_,fun i x e hx he=>?_⟩
  ·have LM:j<d.length:=by simpa using hj
   have hxj:d[j]?=some d[j]:=C' LM;have:=hdg j _ hxj;refine⟨?_,?_⟩
   ·rw[MF];unfold World.cell?;simp only[g2];rw[show d.toArray[j]! = d[j]by simp[LM]];simpa[v1]using this
   ·unfold World.frozen?;simp only[g2];simp
  ·have hi:=(DX.1 hx).1;obtain⟨u,p,q1,q2,q3,q4⟩:=OI i omg;have:=hdg i x hx;rw[q1]at this;rw[q2]at he;cases this;cases he;exact⟨p,rfl,q3,q4⟩
 ·exact .inl ⟨h0,rfl⟩
def yg[Inhabited α]{enc:α->Value}{w':World}{CN:List (List PV)}(hf:Fit β w Im ⟨args,[(1000,.row T 1 es)]⟩ tmps){loc:Loc}(CM:β 1000=some loc){os:Array Obj}{d:List α}(hw:w'=Sort.grow (Sort.putRow enc (Sort.ahead w k) loc.blk 0 d.toArray) os)(hd:d.length<=loc.tot)(Nx:CN.length<=d.length)(CT:∀(i:Nat) (x:α) (e:List PV),d[i]?=some x->CN[i]?=some e->∃p,e=[p]/\p.scalar=true/\BW w Im (enc x) p):Gt β w Im [(1000,.row T 1 es)] β w' Im [(1000,.row T 1 CN)]:=by
 obtain⟨BZ,nY⟩:=hf.live 1000 _ loc DQ CM;have Pr:w'.heap=(w.heap.modify loc.blk (Sort.onCells (Sort.putCells enc 0 d.toArray)))++os:=by subst hw;rfl
 have DI:w'.heap.size=w.heap.size+os.size:=by rw[Pr];simp
 have NK:∀j,j<w.heap.size->loc.blk≠j->w'.heap[j]?=w.heap[j]?:=by
  intro j hj DA;rw[Pr,vm (by simpa using hj),Array.getElem?_modify,AA DA]
 have hK:ED w Im w' Im:=⟨fun _ h=>h,fun b hb=>NK b (hf.im b hb) fun e=>nY (e▸hb)⟩
 rcases hf.regs 1000 _ DQ with⟨hb,_⟩|⟨CO,cur,hb,g1,g2,g3,g4,g5,g6,g7⟩
 ·rw[CM]at hb;cases hb
 rw[CM]at hb;cases hb;have WO:w'.heap[loc.blk]?=some (.cells ⟨(Sort.putCells enc 0 d.toArray ⟨cur⟩).toList⟩ T (0,0)):=by
  rw[Pr,vm (by simpa using BZ),Array.getElem?_modify,AB rfl,g2];rfl
 have FI:(Sort.putCells enc 0 d.toArray ⟨cur⟩).toList.length=loc.tot*1:=by
  rw[<-g3];simp[Sort.putCells]
 have hcg:∀(i:Nat) (x:α),d[i]?=some x->(Sort.putCells enc 0 d.toArray ⟨cur⟩).toList[i]?=some (enc x):=by
  intro i x hx;have hi:=(DX.1 hx).1;have hic:i<cur.length:=by rw[g3];omega
  rw[cZ];unfold Sort.putCells;rw[Array.getElem?_mapIdx];have:(⟨cur⟩:Array Value)[i]?=some cur[i]:=by simp[hic]
  rw[this,Option.map_some,AB ⟨EK _,by simpa using hi⟩];have h2:d[i]=x:=by
   have:=C' hi;rw[this]at hx;exact L' hx
  simp[hi,h2]
 exact
  {
   os:=by subst hw;rfl
   tape:=by subst hw;rfl
   output:=by subst hw;rfl
   size:=omg
   block:=fun j hj GR=>NK j hj (GR 1000 _ loc DQ CM)
   imin:=fun _ h=>h
   imnew:=fun _ h=>.inl h
   env:=fun _ _ _=>rfl
   keys:=fun d r hd=>by
    simp only[DN,Ebj,or_false,cp]at hd;exact .inr ⟨_,by rw[hd.1];exact DQ⟩
   regnew:=fun d r l hd hl=>by
    simp only[DN,Ebj,or_false,cp]at hd;rw[hd.1,CM]at hl;cases hl;exact .inr ⟨1000,_,loc,DQ,CM,rfl⟩
   fit:=
    {
     size:=rfl
     tmps:=fun i l h=>by simp at h
     regs:=fun d' r PT=>by
      simp only[DN,Ebj,or_false,cp]at PT;obtain⟨rfl,rfl⟩:=PT;refine .inr ⟨loc,_,CM,g1,WO,FI,omg,g5,fun e he=>?_,fun i e j p he hp=>?_⟩
      ·obtain⟨i,hi⟩:=WE he;have OE:=(DX.1 hi).1;obtain⟨p,rfl,hp,_⟩:=CT i _ e (C' omg) hi;exact⟨rfl,fun q hq=>by simp only[DN,Ebj,or_false]at hq;subst hq;exact hp⟩
      ·have OE:=(DX.1 he).1;have hdi:d[i]?=some (d[i]'omg):=C' omg;obtain⟨q,rfl,_,hq⟩:=CT i _ e hdi he;have hj:j=0/\p=q:=by
        cases j with
        |zero=>simp at hp;exact⟨rfl,hp.symm⟩
        |succ j=>simp at hp
       obtain⟨rfl,rfl⟩:=hj;exact⟨_,by rw[XR,Nat.add_zero];exact hcg i _ hdi,hq.mono hK⟩
     nodup:=sm
     live:=fun d' r l PT hl=>by
      simp only[DN,Ebj,or_false,cp]at PT;rw[PT.1,CM]at hl;cases hl;exact⟨omg,nY⟩
     apart:=fun d1 r1 d2 r2 l1 l2 h1 h2 DA=>by
      simp only[DN,Ebj,or_false,cp]at h1 h2;exact absurd (h1.1.trans h2.1.symm) DA
     im:=fun b hb=>NB (hf.im b hb) omg } }
def Ł{rs:BX}(hf:Fit β w Im ⟨args,rs⟩ tmps):Gt β w Im rs β w Im rs:=
 e_ hf ⟨rfl,rfl,rfl,CS _,fun _ _=>rfl⟩
end Go.LX
namespace Go.Proofs
open Go.Shelf Go.LX Go.Proofs.Tryz
def MZ:Go.Shelf.Ren:=⟨fun|35=>98|n=>n,fun|22=>53|23=>25|3=>3|4=>4|0=>0|n=>n,fun|n=>n⟩
def Jwo:Go.Proofs.SlLaysE.n35 Tryz.prog MZ:={
 mixed:=kr
 f35:=⟨Tryz.f98.name,by decide,func98.trans AO⟩
 t0:=underlying0
 a0:=isAgg0
 z0:=sizeOf0
 v0:=zeroValue0
 t3:=underlying3
 a3:=isAgg3
 z3:=sizeOf3
 v3:=zeroValue3
 t4:=underlying4
 a4:=isAgg4
 z4:=sizeOf4
 v4:=zeroValue4
 t22:=underlying53
 a22:=isAgg53
 z22:=sizeOf53
 v22:=zeroValue53
 a23:=isAgg25
 z23:=sizeOf25 }
def Mb:Go.Shelf.Ren:=⟨fun|35=>97|n=>n,fun|22=>93|23=>21|3=>3|4=>4|0=>0|n=>n,fun|n=>n⟩
def Jw3:Go.Proofs.SlLaysE.n35 Tryz.prog Mb:={
 mixed:=kr
 f35:=⟨Tryz.f97.name,by decide,func97.trans AO⟩
 t0:=underlying0
 a0:=isAgg0
 z0:=sizeOf0
 v0:=zeroValue0
 t3:=underlying3
 a3:=isAgg3
 z3:=sizeOf3
 v3:=zeroValue3
 t4:=underlying4
 a4:=isAgg4
 z4:=sizeOf4
 v4:=zeroValue4
 t22:=underlying93
 a22:=isAgg93
 z22:=sizeOf93
 v22:=zeroValue93
 a23:=isAgg21
 z23:=sizeOf21 }
def Ml:Go.Shelf.Ren:=⟨fun|45=>70|n=>n,fun|22=>53|23=>25|3=>3|4=>4|0=>0|n=>n,fun|n=>n⟩
def J2c:Go.Proofs.SlLaysE.n45 Tryz.prog Ml:={
 mixed:=kr
 f45:=⟨Tryz.f70.name,by decide,func70.trans AO⟩
 t0:=underlying0
 a0:=isAgg0
 z0:=sizeOf0
 v0:=zeroValue0
 t3:=underlying3
 a3:=isAgg3
 z3:=sizeOf3
 v3:=zeroValue3
 t4:=underlying4
 a4:=isAgg4
 z4:=sizeOf4
 v4:=zeroValue4
 t22:=underlying53
 a22:=isAgg53
 z22:=sizeOf53
 v22:=zeroValue53
 a23:=isAgg25
 z23:=sizeOf25 }
end Go.Proofs
set_option maxRecDepth 100000
set_option maxHeartbeats 2000000
namespace Go.LX
open Go Go.RowKit Go.Proofs Go.Proofs.Tryz
attribute [local irreducible] Al Bi CL
variable (es:List (List PV))(v:List CW)(nm:List UInt8){f:BM->Except Nat BM}{i:Nat}{t:BM}{l:List BM}{s:List UInt8}
def Kdh(n:Nat)(hn:es.length=n)(hb:n<=1500000000000):CA cx 98 [.own 1000 0 n] [(1000,.row 25 1 es)] (.tup []) [(1000,.row 25 1 es.reverse)]:=by
 unfold CA Al;refine⟨enters_of func98 kr rfl,fun β Im w vs hg hf=>?_⟩;obtain⟨v,rfl,hv⟩:=Ue hf;rcases yf hf hv hn with⟨rfl,rfl⟩|⟨loc,cap,d,CM,rfl,hc,TM,LN,WN,hH,hd⟩
 ·have he:es=[]:=KH hn;subst he;have h:Calls Tryz.prog 98 #[.slice none 0 0] w fun e w'=>e=.returned (.tuple #[])/\w'=w:=AnyE.slices_Reverse_empty Jwo none 0 w
  refine h.mono ?_;rintro e w' ⟨rfl,rfl⟩;exact⟨_,_,_,β,Im,rfl,⟨rfl,rfl⟩,⟨[],rfl,rfl,by simp⟩,Ł hf⟩
 ·subst TM;have h:Calls Tryz.prog 98 #[.slice (some ⟨loc.blk,0,none⟩) d.length cap] w fun e w'=>e=.returned (.tuple #[])/\∃q,w'=Sort.putRow v1 (Sort.ahead w q) loc.blk 0 d.reverse.toArray:=AnyE.slices_Reverse Jwo v1 ŀ loc.blk 0 cap d w hH omg
  refine h.mono ?_;rintro e w' ⟨rfl,q,rfl⟩;refine⟨_,_,_,β,Im,rfl,⟨rfl,rfl⟩,⟨[],rfl,rfl,by simp⟩,yg hf CM (k:=q) (os:=#[]) (d:=d.reverse) (by rw[Sort.grow_empty]) (by rw[aM];omega) (by rw[aM,aM];omega) fun i x e hx he=>?_⟩;have OE:=(DX.1 hx).1;rw[aM]at OE;rw[b6 omg]at hx;rw[b6 omg,hn]at he;exact hd _ x e hx he
def J5z(n j:Nat)(hn:es.length=n)(hj:j<n)(hb:n<=1500000000000):CA cx 70 [.own 1000 0 n,.p (.int .i64 j),.p (.int .i64 (j+1:Nat))] [(1000,.row 25 1 es)] (.own 1000 0 (n-1)) [(1000,.row 25 1 (es.eraseIdx j))]:=by
 unfold CA Al;refine⟨enters_of func70 kr rfl,fun β Im w vs hg hf=>?_⟩;obtain⟨v,u,x,rfl,hv,hu,hx⟩:=f_ hf;obtain rfl:=Mz hu;obtain rfl:=Mz hx;rcases yf hf hv hn with⟨h0,_⟩|⟨loc,cap,d,CM,rfl,hc,TM,LN,WN,hH,hd⟩
 ·omega
 ·subst TM;have hm:maxLen=9223372036854775807:=rfl;obtain⟨i0,dF,Q'⟩:∃i0,Tryz.prog.info? 25=some i0/\i0.size=1:=by
   have hc:Tryz.prog.cellsOf 25=1:=kr;cases h:Tryz.prog.info? 25 with
   |none=>simp[Program.cellsOf,h]at hc
   |some i=>exact⟨i,rfl,by simpa[Program.cellsOf,h]using hc⟩
  have h:Calls Tryz.prog 70 #[.slice (some ⟨loc.blk,0,none⟩) d.toArray.size cap,.int .i64 j,.int .i64 (j+1:Nat)] w fun e w'=>e=.returned (.slice (some ⟨loc.blk,0,none⟩) (d.toArray.size-(j+1-j)) cap)/\∃q,w'=Sort.putRow v1 (Sort.ahead w q) loc.blk 0 (d.toArray.toList.take j++d.toArray.toList.drop (j+1)++List.replicate (j+1-j) (⟨.slice none 0 0,rfl⟩:V1)).toArray:=
   AnyE.slices_Delete J2c v1 ŀ ⟨.slice none 0 0,rfl⟩ zeroValue25 i0 dF Q' loc.blk 0 cap j (j+1) d.toArray w hH (by simpa using LN) omg omg (by simp;omega)
  refine h.mono ?_;rintro e w' ⟨rfl,q,rfl⟩;refine⟨_,_,_,β,Im,rfl,⟨rfl,rfl⟩,.inl ⟨loc,cap,0,CM,omg,omg,fun _=>(og _).symm,by simp⟩,yg hf CM (k:=q) (os:=#[]) (d:=d.take j++d.drop (j+1)++List.replicate (j+1-j) (⟨.slice none 0 0,rfl⟩:V1)) (by rw[Sort.grow_empty]) (by simp;omega) (by rw[nK];simp;split<;>omega) fun i x e hx he=>?_⟩;have hl:(d.take j).length=j:=by rw[GF];omega
  have EF:=(DX.1 he).1;rw[nK]at EF;have hi:i<d.length-1:=by split at EF<;>omega
  rw[NZ (by simp;omega)]at hx;rw[List.getElem?_eraseIdx]at he;split at he
  ·rw[NZ omg,IQ,AB omg]at hx;exact hd _ x e hx he
  ·rw[Mr omg,cm,hl]at hx;exact hd (i+1) x e (by rw[<-hx];congr 1;omega) he
def yh(i:Nat)(nm:List UInt8)(t:RT)(BR:List CW)(hv:v.length<=850000000000)(h:v.drop i=t.enc nm++BR):CA cx 102 [.p (.sl (B9 v)),.p (.int .i64 i)] [] (.p (.int .i64 (i+(t.enc nm).length:Nat))) []:=by
 (refine CB func102 ?_);have hp:=TP t nm;have hb:=J4l h (fun e=>by have e2:(t.enc nm++BR).length=0:=(by rw[e];rfl);rw[DC]at e2;omega);rw[DC]at hb;refine CL.loop (fun x:Nat×Nat×RF=>⟨Ba 41 [(0,.p (.sl (B9 v))),(1,.p (.int .i64 x.1)),(5,.p (.int .i64 x.2.1))],[]⟩) (fun x=>x.2.1=x.2.2.len/\v.drop x.1=x.2.2.enc++BR/\x.1+x.2.2.enc.length=i+(t.enc nm).length) (fun x=>x.2.2.enc.length) (i,1,.cons nm t .nil) CH ⟨rfl,by simp[KF,SJ,h],by simp[KF,SJ]⟩ ?_;rintro⟨j,left,F⟩ ⟨h0,h1,h2⟩;simp only at h0 h1 h2
 match F,h0,h1,h2 with
 |.nil,h0,h1,h2 =>
  rw[SJ]at h2;simp only[RF.len]at h0;subst h0;have c0:((0:Int)<((0:Nat):Int))=False:=AD omg;refine HO ?_;simp only[KM]at h2;omega
 |.cons DJ (.mk k s g e BL) r,h0,h1,h2 =>
  rw[uN]at h0;rw[KF,GM]at h1 h2;have hg:=cQ h1;rw[Z']at hg;simp only[DH,DC]at h2;have GH:=UG BL;have IX:=UG r;have w0:IntKind.i64.wrap ((left:Int)-1)=(r.len:Int):=by rw[Aa omg omg];omega
  have w1:IntKind.i64.wrap ((r.len:Int)+(BL.len:Int))=((r.len+BL.len:Nat):Int):=by rw[Aa omg omg];omega
  (refine CC ?_;simp only[go_sem,simprocAttr,DM (i:=j) omg,hg,w0,w1,ON]);(repeat'(first|(apply BY<;>intro h)|(exfalso;omega)))
  ·exact⟨(j+1,r.len+BL.len,BL.app r),⟨by simp only[mD];omega,by
    simp only[VZ];rw[<-JO,h1];simp,by simp only[VZ,DC];omega⟩,by simp only[VZ,KF,GM,DC,DH];omega,CH⟩
def J9r(hv:v.length<=10000):CA cx 102 [.p (.sl (B9 v)),.p (.int .i64 0)] [] (.p (.int .i64 (TQ v 0 1))) []:=by
 (refine CB func102 ?_);refine CL.loop (fun x:Nat×Nat=>⟨Ba 41 [(0,.p (.sl (B9 v))),(1,.p (.int .i64 x.1)),(5,.p (.int .i64 x.2))],[]⟩) (fun x=>x.1<=v.length/\x.2<=1+x.1*10000/\TQ v x.1 x.2=TQ v 0 1) (fun x=>v.length-x.1) (0,1) CH ⟨EK _,by simp,rfl⟩ ?_;rintro⟨i,o⟩ ⟨h1,h2,h3⟩;simp only at h1 h2 h3;by_cases ho:o=0
 ·subst ho;rw[Kaj]at h3;have c0:((0:Int)<((0:Nat):Int))=False:=AD omg;refine HO ?_;rw[h3]
 ·have c0:((0:Int)<(o:Int))=True:=AE omg;by_cases hi:¬i<v.length
  ·have c1:((v.length:Int)<=(i:Int))=True:=AE omg;rw[Kb4 omg omg]at h3;(refine CC ?_;simp only[go_sem,simprocAttr,ON,c0,c1]);rw[<-h3]
  ·have hi:=JK.1 hi;have c1:((v.length:Int)<=(i:Int))=False:=AD omg;obtain⟨n,hn⟩:∃n,v[i]?=some n:=⟨_,C' hi⟩
   have hg:=yG hn;by_cases hb:n.many<0\/(v.length:Int)<n.many
   ·rw[Kcq hn omg hb]at h3;by_cases PB:n.many<0
    ·have c2:(n.many<0)=True:=AE PB;(refine CC ?_;simp only[go_sem,simprocAttr,ON,c0,c1,c2,hg]);rw[<-h3]
    ·have c2:(n.many<0)=False:=AD PB;have c3:((v.length:Int)<n.many)=True:=AE omg;(refine CC ?_;simp only[go_sem,simprocAttr,ON,c0,c1,c2,c3,hg]);rw[<-h3]
   ·have c2:(n.many<0)=False:=AD omg;have c3:((v.length:Int)<n.many)=False:=AD omg;obtain⟨o',rfl⟩:∃o',o=o'+1:=⟨o-1,omg⟩
    rw[J9w hn hb]at h3;have w1:IntKind.i64.wrap (((o'+1:Nat):Int)-1)=(o':Int):=by rw[Aa omg omg];omega
    have w2:IntKind.i64.wrap ((o':Int)+n.many)=((o'+n.many.toNat:Nat):Int):=by rw[Aa omg omg];omega
    have w3:=DM (i:=i) omg;(refine CC ?_;simp only[go_sem,simprocAttr,ON,c0,c1,c2,c3,hg,w1,w2,w3]);exact⟨(i+1,o'+n.many.toNat),⟨by simp only;omega,by simp only;omega,h3⟩,by simp only;omega,CH⟩
def ł(kd:Int)(s:List UInt8)(g:Int)(e:Node)(BL:RF)(hv:BL.enc.length<=849999999999):CA cx 50 [.p (.sl (B9 ((RT.mk kd s g e BL).enc nm)))] [] (.p (.sl (NS BL.list))) []:=by
 have hl:=UG BL;have DV:=XJ BL;generalize IF:(RT.mk kd s g e BL).enc nm=v;have h0:v.drop 0=⟨kd,BL.len,nm,s,g,e⟩::BL.enc:=by rw[<-IF,GM];rfl
 have DD:=cQ h0;rw[Z']at DD;have KZ:v.length=BL.enc.length+1:=by rw[<-IF,GM];rfl
 (refine CB func50 ?_);refine HD (B1 [(9,37)] _ sm) ?_;simp only[go_sem,simprocAttr];refine CL.loop (fun x:Nat×Nat×RF=>⟨Ba 40 [(0,.p (.sl (B9 v))),(3,.own 37 0 x.1),(4,.p (.int .i64 x.2.1)),(5,.p (.int .i64 x.1))],[(37,.row 23 1 (NS (BL.list.take x.1)))]⟩) (fun x=>x.1+x.2.2.len=BL.len/\v.drop x.2.1=x.2.2.enc/\x.2.1+x.2.2.enc.length=v.length/\BL.list.drop x.1=x.2.2.list) (fun x=>x.2.2.enc.length) (0,1,BL) CH ⟨by simp,by rw[<-IF,GM];rfl,by simp only;omega,rfl⟩ ?_;rintro⟨k,j,F⟩ ⟨h1,h2,h3,h4⟩;simp only at h1 h2 h3 h4⊢
 match F,h1,h2,h3,h4 with
 |.nil,h1,h2,h3,h4 =>
  simp only[RF.len]at h1;have HE:k=BL.len:=omg;subst HE;have c1:((BL.len:Int)<(BL.len:Int))=False:=AD omg;have D':(BL.len<=(NS (BL.list.take BL.len)).length)=True:=AE (by rw[XK,GF];omega);have DR:(NS (BL.list.take BL.len)).take BL.len=NS BL.list:=by
   rw[DK (by rw[XK,GF];omega),DK omg]
  (refine CC ?_;simp only[go_sem,simprocAttr,DD,D',DR,c1])
  skip
 |.cons DJ (.mk k' s' g' e' BT) r,h1,h2,h3,h4 =>
  rw[uN]at h1;rw[KF]at h2 h3;rw[DC]at h3;have HE:BL.list[k]?=some (DJ,.mk k' s' g' e' BT):=by
   have:=congrArg (·[0]?) h4;simpa[RF.list]using this
  have PG:=ď HE;have c1:((k:Int)<(BL.len:Int))=True:=AE omg;rw[GM,yE,Z']at PG;have D':(NS (BL.list.take k)).length=k:=by rw[XK,GF];omega
  have hs:=J40 h2;have EF:((RT.mk k' s' g' e' BT).enc DJ).length=BT.enc.length+1:=by rw[GM];rfl
  have QP:((B9 v).drop j).take (j+((RT.mk k' s' g' e' BT).enc DJ).length-j)=[.int .i64 k',.int .i64 BT.len,.str DJ,.str s',.int .i64 g',.int .i64 e'.kind,.int .i64 e'.many,.str e'.name,.str e'.s,.bool e'.neg,.int .i64 e'.e]::B9 BT.enc:=by
   rw[nI,hs,GM,yE,Z']
  have h6:∀q∈[.int .i64 k',.int .i64 BT.len,.str DJ,.str s',.int .i64 g',.int .i64 e'.kind,.int .i64 e'.many,.str e'.name,.str e'.s,.bool e'.neg,.int .i64 e'.e]::B9 BT.enc,q.length=11:=fun q hq=>yF ((RT.mk k' s' g' e' BT).enc DJ) q (by rw[GM];exact hq)
  have DR:(B9 BT.enc).take BT.enc.length=B9 BT.enc:=DK sm;(refine CC ?_;simp only[go_sem,simprocAttr,DD,c1,DM (i:=k) omg]);(repeat'(first|(refine And.intro (yF _) ?_)|refine EA ?_|((refine BU (yh v j DJ (.mk k' s' g' e' BT) r.enc omg h2) ?_);simp only[go_sem,simprocAttr,DM (i:=k) omg,QP,DR,D',ON,CS])|fail));refine⟨by simp,omg,omg,(k+1,j+((RT.mk k' s' g' e' BT).enc DJ).length,r),⟨by simp only;omega,by simp only;rw[<-JO,h2,YL],by simp only;omega,by simp only;rw[<-JO,h4];rfl⟩,by have:=TP (.mk k' s' g' e' BT) DJ;simp only[KF,DC];omega,?_⟩;simp only;rw[PG];exact CH
def Kdo(kd:Int)(s:List UInt8)(g:Int)(e:Node)(BL:RF)(hv:BL.enc.length<=849999999999):CA cx 103 [.p (.sl (B9 ((RT.mk kd s g e BL).enc nm)))] [] (.p (.sl (YG BL.list))) []:=by
 have hl:=UG BL;have DV:=XJ BL;generalize IF:(RT.mk kd s g e BL).enc nm=v;have h0:v.drop 0=⟨kd,BL.len,nm,s,g,e⟩::BL.enc:=by rw[<-IF,GM];rfl
 have DD:=cQ h0;rw[Z']at DD;have KZ:v.length=BL.enc.length+1:=by rw[<-IF,GM];rfl
 (refine CB func103 ?_);refine HD (B1 [(6,22)] _ sm) ?_;simp only[go_sem,simprocAttr];refine CL.loop (fun x:Nat×Nat×RF=>⟨Ba 27 [(0,.p (.sl (B9 v))),(3,.own 22 0 x.1),(4,.p (.int .i64 x.2.1)),(5,.p (.int .i64 x.1))],[(22,.row 9 1 (YG (BL.list.take x.1)))]⟩) (fun x=>x.1+x.2.2.len=BL.len/\v.drop x.2.1=x.2.2.enc/\x.2.1+x.2.2.enc.length=v.length/\BL.list.drop x.1=x.2.2.list) (fun x=>x.2.2.enc.length) (0,1,BL) CH ⟨by simp,by rw[<-IF,GM];rfl,by simp only;omega,rfl⟩ ?_;rintro⟨k,j,F⟩ ⟨h1,h2,h3,h4⟩;simp only at h1 h2 h3 h4⊢
 match F,h1,h2,h3,h4 with
 |.nil,h1,h2,h3,h4 =>
  simp only[RF.len]at h1;have HE:k=BL.len:=omg;subst HE;have D':(BL.len<=(YG (BL.list.take BL.len)).length)=True:=AE (by rw[ĕ,GF];omega);have DR:(YG (BL.list.take BL.len)).take BL.len=YG BL.list:=by
   rw[DK (by rw[ĕ,GF];omega),DK omg]
  have c1:((BL.len:Int)<(BL.len:Int))=False:=AD omg;(refine CC ?_;simp only[go_sem,simprocAttr,DD,D',DR,c1])
  skip
 |.cons DJ t' r,h1,h2,h3,h4 =>
  rw[uN]at h1;rw[KF]at h2 h3;rw[DC]at h3;have HE:BL.list[k]?=some (DJ,t'):=by
   have:=congrArg (·[0]?) h4;simpa[RF.list]using this
  have PG:=J8p HE;have D':(YG (BL.list.take k)).length=k:=by rw[ĕ,GF];omega
  obtain⟨k',n',s',g',e',GG⟩:=Ĕ (v:=v) (j:=j) (nm:=DJ) (t:=t') (b:=r.enc) h2;have c1:((k:Int)<(BL.len:Int))=True:=AE omg;(refine CC ?_;simp only[go_sem,simprocAttr,DD,DM (i:=k) omg,GG,D',c1]);refine⟨by simp,omg,omg,?_⟩;(repeat'(first|((refine BU (yh v j DJ t' r.enc omg h2) ?_);simp only[go_sem,simprocAttr,DM (i:=k) omg])|fail));refine⟨(k+1,j+(t'.enc DJ).length,r),⟨by simp only;omega,by simp only;rw[<-JO,h2,YL],by simp only;omega,by simp only;rw[<-JO,h4];rfl⟩,by have:=TP t' DJ;simp only[KF,DC];omega,?_⟩;simp only;rw[PG];exact CH
def u9(f:RT)(w:Nat):Prop:=∀v:BM,EZ v->GC v->(v.enc []).length*w<=450000000000->CA cx 13 [.p (.sl (B9 (f.enc []))),.p (.sl (BP (v.enc [])))] [] (BV (EL f v)) []
def IP(f:BM->Except Nat BM):Nat->List BM->Except Nat (List (Nat×BM))
 |_,[]=>.ok []
 |i,t::l=>match f t with
  |.error e=>if e=5 then .error 5 else IP f (i+1) l
  |.ok u=>match IP f (i+1) l with
   |.error e=>.error e
   |.ok us=>.ok ((i,u)::us)
def bj(us:List (Nat×BM)):Except Nat (List (Nat×BM))->Except Nat (List (Nat×BM))|.ok l=>.ok (us++l)|.error e=>.error e
def J7g{e:Nat}(h:f t=.error e)(he:e≠5):IP f i (t::l)=IP f (i+1) l:=by rw[IP,h];exact AA he
def J83(h:f t=.error 5):IP f i (t::l)=.error 5:=by rw[IP,h];rfl
def J7i{u:BM}(h:f t=.ok u)(us:List (Nat×BM)):bj us (IP f i (t::l))=bj (us++[(i,u)]) (IP f (i+1) l):=by
 rw[IP,h];cases IP f (i+1) l with
 |ok ks=>simp[bj]
 |error e=>rfl
def vA{f:BM->Except Nat BM}:∀{l:List BM} {i e:Nat},IP f i l=.error e->e=5
 |[],i,e,h=>by rw[IP]at h;cases h
 |t::l,i,e,h=>by
  rw[IP]at h;cases hf:f t with
  |error e' =>
   rw[hf]at h;simp only at h;split at h
   ·cases h;rfl
   ·exact vA h
  |ok u =>
   rw[hf]at h;cases hk:IP f (i+1) l with
   |error e'=>rw[hk]at h;cases h;exact vA hk
   |ok us=>rw[hk]at h;cases h
def yi(f:BM->Except Nat BM):∀(l:List BM) (i:Nat),MX f l=match IP f i l with
  |.ok us=>.ok (us.map (·.2))
  |.error e=>.error e
 |[],i=>rfl
 |t::l,i=>by
  rw[MX,IP];cases f t with
  |error e =>
   simp only;split
   ·rfl
   ·exact yi f l (i+1)
  |ok u =>
   simp only;rw[yi f l (i+1)];cases IP f (i+1) l with
   |error e=>rfl
   |ok us=>rfl
def Ń(f:BM->Except Nat BM)(ns:List (List UInt8)):∀(l:List KT) (i:Nat),ns.drop i=l.map (·.1)->MY f l=match IP f i (l.map (·.2))with
  |.ok us=>.ok (us.map fun p=>(ns.getD p.1 [],p.2))
  |.error e=>.error e
 |[],i,_=>rfl
 |q::l,i,h=>by
  have hn:ns[i]?.getD []=q.1:=by
   have:=congrArg (·[0]?) h;simp at this;rw[this];rfl
  have ih:=Ń f ns l (i+1) (by rw[<-JO,h];rfl);rw[MY,Fc,IP];cases f q.2 with
  |error e =>
   simp only;split
   ·rfl
   ·exact ih
  |ok u =>
   simp only;rw[ih];cases IP f (i+1) (l.map (·.2))with
   |error e=>rfl
   |ok us=>simp[hn]
def vB{f:BM->Except Nat BM}:∀{l:List BM} {i:Nat} {us:List (Nat×BM)},IP f i l=.ok us->∀p∈us,i<=p.1/\p.1<i+l.length
 |[],i,us,h=>by rw[IP]at h;cases h;intro p hp;cases hp
 |t::l,i,us,h=>by
  rw[IP]at h;cases hf:f t with
  |error e =>
   rw[hf]at h;simp only at h;split at h
   ·cases h
   ·intro p hp;have:=vB h p hp;rw[DH];omega
  |ok u =>
   rw[hf]at h;cases hk:IP f (i+1) l with
   |error e=>rw[hk]at h;cases h
   |ok us' =>
    rw[hk]at h;cases h;intro p hp;rw[DH];rcases DN.1 hp with rfl|hp
    ·simp only;omega
    ·have:=vB hk p hp;omega
def vC:Except Nat (List (Nat×BM))->L|.ok us=>.tup [.sl (CQ (us.map (·.2))),.sl (CJ (us.map (·.1))),.int .i64 0]|.error e=>.tup [.snil,.snil,.int .i64 e]
def Kb8(f:RT)(w:Nat)(hE:u9 f w)(hw:1<=w)(he:∀v e,EL f v=.error e->e=5\/e=6)(l:List BM)(hl:∀t∈l,EZ t/\GC t/\(t.enc []).length*w<=450000000000)(GB:l.length<=450000000000):CA cx 101 [.p (.sl (B9 (f.enc []))),.p (.sl (CQ l))] [] (vC (IP (EL f) 0 l)) []:=by
 (refine CB func101 ?_);refine HD (B1 [(12,37),(13,41)] _ sm) ?_;simp only[go_sem,simprocAttr];refine CL.loop (fun x:Nat×List (Nat×BM)=>⟨Ba 44 [(0,.p (.sl (B9 (f.enc [])))),(1,.p (.sl (CQ l))),(7,.own 37 0 x.2.length),(8,.own 41 0 x.2.length),(9,.p (.int .i64 x.1))],[(41,.row 3 1 (CJ (x.2.map (·.1)))),(37,.row 25 1 (CQ (x.2.map (·.2))))]⟩) (fun x=>x.1<=l.length/\x.2.length<=x.1/\IP (EL f) 0 l=bj x.2 (IP (EL f) x.1 (l.drop x.1))) (fun x=>l.length-x.1) (0,[]) CH ⟨EK _,CS _,by rw[OB];cases IP (EL f) 0 l<;>rfl⟩ ?_;rintro⟨k,us⟩ ⟨hk,h2,h3⟩;simp only at hk h2 h3;by_cases BZ:k<l.length
 ·have c1:((k:Int)<(l.length:Int))=True:=AE omg;obtain⟨t,ht⟩:∃t,l[k]?=some t:=⟨_,C' BZ⟩
  have hg:=RW ht;obtain⟨o1,o2,o3⟩:=hl t (D4 ht);have hF:=hE t o1 o2 o3;have hd:l.drop k=t::l.drop (k+1):=by rw[Mx BZ];congr 1;rw[C' BZ]at ht;exact L' ht
  rw[hd]at h3;cases hf:EL f t with
  |error e =>
   rw[hf,BV]at hF;rcases he t e hf with rfl|rfl
   ·rw[J83 hf]at h3;have h3:IP (EL f) 0 l=.error 5:=h3;rw[h3,vC];(refine CC ?_;simp only[go_sem,simprocAttr,FZ,c1,hg]);(repeat'(first|((refine BU hF ?_);simp only[go_sem,simprocAttr])|fail))
    all_goals rfl
   ·rw[J7g hf omg]at h3;(refine CC ?_;simp only[go_sem,simprocAttr,FZ,c1,hg,DM (i:=k) omg]);(repeat'(first|((refine BU hF ?_);simp only[go_sem,simprocAttr,DM (i:=k) omg])|fail))
    all_goals exact⟨(k+1,us),⟨by simp only;omega,by simp only;omega,h3⟩,by simp only;omega,CH⟩
  |ok u =>
   rw[hf,BV]at hF;rw[J7i hf]at h3;have ha:CQ (us.map (·.2))++[[.sl (BP (u.enc []))]]=CQ ((us++[(k,u)]).map (·.2)):=by rw[Ry,V'];rfl
   have hb:CJ (us.map (·.1))++[[.int .i64 (k:Int)]]=CJ ((us++[(k,u)]).map (·.1)):=by rw[Ry,oN];rfl
   have hn:us.length+1=(us++[(k,u)]).length:=sm
   (refine CC ?_;simp only[go_sem,simprocAttr,FZ,c1,hg,DM (i:=k) omg]);(repeat'(first|(refine And.intro (by first|(simp;done)|(simp;omega)) ?_)|refine EA ?_|((refine BU hF ?_);simp only[go_sem,simprocAttr,FZ,ha,hb,HM,DM (i:=k) omg])|fail))
   all_goals exact⟨(k+1,us++[(k,u)]),⟨by simp only;omega,by simp only;rw[<-hn];omega,h3⟩,by simp only;omega,by simp only;rw[<-hn];exact CH⟩
 ·have VS:k=l.length:=omg;have c1:((k:Int)<(l.length:Int))=False:=AD omg;rw[VS,nQ,IP,bj,ID]at h3;have QG:(CQ (us.map (·.2))).take us.length=CQ (us.map (·.2)):=DK sm;have JI:(CJ (us.map (·.1))).take us.length=CJ (us.map (·.1)):=DK sm;rw[h3,vC];(refine CC ?_;simp only[go_sem,simprocAttr,FZ,c1,QG,JI,NV,HM,CS])
  skip
def Kby(h:GC t){nm:List UInt8}(hn:nm.length<=1000000):∀n∈t.enc nm,HP n:=by
 obtain⟨k,s,g,e,BL⟩:=t;intro n cD;unfold GC at h;rw[A6]at h cD;rcases DN.1 cD with rfl|h'
 ·have:=h _ DQ;exact⟨this.s,hn,this.e0,this.e1⟩
 ·exact h n (EW _ h')
def J3m:∀l:List KT,(∀p∈l,GC p.2/\p.1.length<=1000000)->∀n∈(A1 l).enc,HP n
 |[],_,n,hn=>by rw[show A1 []=.nil from rfl,Bl]at hn;cases hn
 |p::l,hl,n,hn=>by
  rw[show A1 (p::l)=.cons p.1 p.2 (A1 l)from rfl,A0]at hn;obtain⟨h1,h2⟩:=hl p DQ;rcases H'.1 hn with hn|hn
  ·exact Kby h1 h2 n hn
  ·exact J3m l (fun x hx=>hl x (EW _ hx)) n hn
def ej:∀l:List KT,(A1 l).enc.length=ER (l.map (·.2))
 |[]=>by rw[show A1 []=.nil from rfl,Bl];rfl
 |p::l=>by rw[show A1 (p::l)=.cons p.1 p.2 (A1 l)from rfl,A0,DC,ej l,Fc,SM,G7 p.2]
def mf(h:valid s=true):EZ (GY s):=by
 unfold GY;rw[Lu];exact⟨by simp[G3,h,BO.len],Sb 4,I6⟩
def Kgz(h:s.length<=1000000):GC (GY s):=by
 intro n hn;unfold GY at hn;rw[A6,Bl]at hn;simp only[DN,Ebj,or_false]at hn;subst hn;exact⟨h,EK _,(by decide:(-9223372036854775808:Int)<=0),(by decide:(0:Int)<=9223372036854775807)⟩
def yj(s:List UInt8)(hs:s.length<=1000000):CA cx 162 [.p (.str s)] [] (.p (.bool (decide (mQ s)))) []:=by
 have hR:=J47 s hs;by_cases h0:(Je s).2.2=0
 ·have c1:(((Je s).2.2:Int)=0)=True:=AE omg;rw[show decide (mQ s)=true from AG h0];refine CB func162 ?_;(repeat'(first|((refine BU hR ?_);simp only[go_sem,simprocAttr,c1])|fail))
 ·have c1:(((Je s).2.2:Int)=0)=False:=AD omg;rw[show decide (mQ s)=false from AH h0];refine CB func162 ?_;(repeat'(first|((refine BU hR ?_);simp only[go_sem,simprocAttr,c1])|fail))
def Kfs(n:Node)(hf:QF n)(hk:n.kind<5):CA cx 24 [.p (.sl [[.int .i64 n.kind,.int .i64 n.many,.str n.name,.str n.s,.bool n.neg,.int .i64 n.e]])] [] (.p (.bool (decide (VE n)))) []:=by
 by_cases LC:n.name=[]
 ·have hR:=Jp [n] sm (by intro x hx;simp at hx;subst hx;exact⟨hf.s,by rw[LC];simp,hf.e0,hf.e1⟩);rw[J6p hk,show BP [n]=[[.int .i64 n.kind,.int .i64 n.many,.str n.name,.str n.s,.bool n.neg,.int .i64 n.e]]from rfl]at hR;exact hR
 ·rw[AH (fun h=>LC h.2.1)];exact Jy0 n LC
instance (op:Int) (s:List UInt8) (n:Int) (c:Node) (m:Int):Decidable (HU op s n c m):=by unfold HU;infer_instance
def Kcy(k m:Int)(nm s:List UInt8)(n:Int)(c:Node)(hs:s.length<=1000000)(hf:QF c):CA cx 130 [.p (.agg [.int .i64 k,.int .i64 m,.str nm,.str s,.int .i64 n,.int .i64 c.kind,.int .i64 c.many,.str c.name,.str c.s,.bool c.neg,.int .i64 c.e])] [] (.p (.bool (decide (HU k s n c m)))) []:=by
 by_cases k0:k=0
 ·subst k0;refine CB func130 ?_;(repeat'(apply BY<;>intro h))
  all_goals((clear hf hs)<;>(rw[KA])<;>(simp only[HU,RZ,AF,Int.reduceEq,if_true,if_false,true_or,or_true,or_false,false_or,or_self,ite_true,ite_false,reduceIte])<;>(try simp_all)<;>(try omega))
 by_cases k1:k=1
 ·subst k1;have hU:=Cn s hs;refine CB func130 ?_;(repeat'(first|(apply BY<;>intro h)|((refine BU hU ?_);simp only[go_sem,simprocAttr])|fail))
  all_goals((try clear hU)<;>(clear hf hs)<;>(rw[KA])<;>(simp only[HU,RZ,AF,Int.reduceEq,if_true,if_false,true_or,or_true,or_false,false_or,or_self,ite_true,ite_false,reduceIte])<;>(try simp_all)<;>(try omega))
 by_cases k2:k=2
 ·subst k2;refine CB func130 ?_;(repeat'(apply BY<;>intro h))
  all_goals((clear hf hs)<;>(rw[KA])<;>(simp only[HU,RZ,AF,Int.reduceEq,if_true,if_false,true_or,or_true,or_false,false_or,or_self,ite_true,ite_false,reduceIte])<;>(try simp_all)<;>(try omega))
 by_cases k3:k=3
 ·subst k3;refine CB func130 ?_;(repeat'(apply BY<;>intro h))
  all_goals((clear hf hs)<;>(rw[KA])<;>(simp only[HU,RZ,AF,Int.reduceEq,if_true,if_false,true_or,or_true,or_false,false_or,or_self,ite_true,ite_false,reduceIte])<;>(try simp_all)<;>(try omega))
 by_cases k4:k=4
 ·subst k4;refine CB func130 ?_;(repeat'(apply BY<;>intro h))
  all_goals((clear hf hs)<;>(rw[KA])<;>(simp only[HU,RZ,AF,Int.reduceEq,if_true,if_false,true_or,or_true,or_false,false_or,or_self,ite_true,ite_false,reduceIte])<;>(try simp_all)<;>(try omega))
 by_cases k5:k=5
 ·subst k5;refine CB func130 ?_;(repeat'(apply BY<;>intro h))
  all_goals((clear hf hs)<;>(rw[KA])<;>(simp only[HU,RZ,AF,Int.reduceEq,if_true,if_false,true_or,or_true,or_false,false_or,or_self,ite_true,ite_false,reduceIte])<;>(try simp_all)<;>(try omega))
 by_cases k6:k=6
 ·subst k6;refine CB func130 ?_;(repeat'(apply BY<;>intro h))
  all_goals((clear hf hs)<;>(rw[KA])<;>(simp only[HU,RZ,AF,Int.reduceEq,if_true,if_false,true_or,or_true,or_false,false_or,or_self,ite_true,ite_false,reduceIte])<;>(try simp_all)<;>(try omega))
 by_cases k7:k=7
 ·subst k7;refine CB func130 ?_;(repeat'(apply BY<;>intro h))
  all_goals((clear hf hs)<;>(rw[KA])<;>(simp only[HU,RZ,AF,Int.reduceEq,if_true,if_false,true_or,or_true,or_false,false_or,or_self,ite_true,ite_false,reduceIte])<;>(try simp_all)<;>(try omega))
 by_cases k8:k=8
 ·subst k8;refine CB func130 ?_;(repeat'(apply BY<;>intro h))
  all_goals((clear hf hs)<;>(rw[KA])<;>(simp only[HU,RZ,AF,Int.reduceEq,if_true,if_false,true_or,or_true,or_false,false_or,or_self,ite_true,ite_false,reduceIte])<;>(try simp_all)<;>(try omega))
 by_cases k9:k=9
 ·subst k9;refine CB func130 ?_;(repeat'(apply BY<;>intro h))
  all_goals((clear hf hs)<;>(rw[KA])<;>(simp only[HU,RZ,AF,Int.reduceEq,if_true,if_false,true_or,or_true,or_false,false_or,or_self,ite_true,ite_false,reduceIte])<;>(try simp_all)<;>(try omega))
 by_cases ń:k=10
 ·subst ń;refine CB func130 ?_;(repeat'(apply BY<;>intro h))
  all_goals((clear hf hs)<;>(rw[KA])<;>(simp only[HU,RZ,AF,Int.reduceEq,if_true,if_false,true_or,or_true,or_false,false_or,or_self,ite_true,ite_false,reduceIte])<;>(try simp_all)<;>(try omega))
 by_cases Ņ:k=11
 ·subst Ņ;refine CB func130 ?_;(repeat'(apply BY<;>intro h))
  all_goals((clear hf hs)<;>(rw[KA])<;>(simp only[HU,RZ,AF,Int.reduceEq,if_true,if_false,true_or,or_true,or_false,false_or,or_self,ite_true,ite_false,reduceIte])<;>(try simp_all)<;>(try omega))
 by_cases ņ:k=12
 ·subst ņ;have hP:=yj s hs;refine CB func130 ?_;(repeat'(first|(apply BY<;>intro h)|((refine BU hP ?_);simp only[go_sem,simprocAttr])|fail))
  all_goals((try clear hP)<;>(clear hf hs)<;>(rw[KA])<;>(simp only[HU,RZ,AF,Int.reduceEq,if_true,if_false,true_or,or_true,or_false,false_or,or_self,ite_true,ite_false,reduceIte])<;>(try simp_all)<;>(try omega))
 by_cases Ň:k=13
 ·subst Ň;have hP:=yj s hs;refine CB func130 ?_;(repeat'(first|(apply BY<;>intro h)|((refine BU hP ?_);simp only[go_sem,simprocAttr])|fail))
  all_goals((try clear hP)<;>(clear hf hs)<;>(rw[KA])<;>(simp only[HU,RZ,AF,Int.reduceEq,if_true,if_false,true_or,or_true,or_false,false_or,or_self,ite_true,ite_false,reduceIte])<;>(try simp_all)<;>(try omega))
 by_cases ň:k=14
 ·subst ň;refine CB func130 ?_;(repeat'(apply BY<;>intro h))
  all_goals((clear hf hs)<;>(rw[KA])<;>(simp only[HU,RZ,AF,Int.reduceEq,if_true,if_false,true_or,or_true,or_false,false_or,or_self,ite_true,ite_false,reduceIte])<;>(try simp_all)<;>(try omega))
 by_cases ŉ:k=15
 ·subst ŉ;have hP:=yj s hs;refine CB func130 ?_;(repeat'(first|(apply BY<;>intro h)|((refine BU hP ?_);simp only[go_sem,simprocAttr])|fail))
  all_goals((try clear hP)<;>(clear hf hs)<;>(rw[KA])<;>(simp only[HU,RZ,AF,Int.reduceEq,if_true,if_false,true_or,or_true,or_false,false_or,or_self,ite_true,ite_false,reduceIte])<;>(try simp_all)<;>(try omega))
 by_cases Ŋ:k=17
 ·subst Ŋ;refine CB func130 ?_;(repeat'(apply BY<;>intro h))
  all_goals((clear hf hs)<;>(rw[KA])<;>(simp only[HU,RZ,AF,Int.reduceEq,if_true,if_false,true_or,or_true,or_false,false_or,or_self,ite_true,ite_false,reduceIte])<;>(try simp_all)<;>(try omega))
 by_cases ŋ:k=18
 ·subst ŋ;refine CB func130 ?_;(repeat'(apply BY<;>intro h))
  all_goals((clear hf hs)<;>(rw[KA])<;>(simp only[HU,RZ,AF,Int.reduceEq,if_true,if_false,true_or,or_true,or_false,false_or,or_self,ite_true,ite_false,reduceIte])<;>(try simp_all)<;>(try omega))
 by_cases Ō:k=19
 ·subst Ō;refine CB func130 ?_;(repeat'(apply BY<;>intro h))
  all_goals((clear hf hs)<;>(rw[KA])<;>(simp only[HU,RZ,AF,Int.reduceEq,if_true,if_false,true_or,or_true,or_false,false_or,or_self,ite_true,ite_false,reduceIte])<;>(try simp_all)<;>(try omega))
 by_cases ō:k=16
 ·subst ō;have hP:=yj s hs;by_cases hk:c.kind<5
  ·have hR:=Kfs c hf hk;have ck:=AE hk;refine CB func130 ?_;(repeat'(first|(apply BY<;>intro h)|((first|refine BU hP ?_|refine BU hR ?_);simp only[go_sem,simprocAttr,ck,decide_true])|fail))
   all_goals((try clear hP)<;>(try clear hR)<;>(clear hf hs)<;>(rw[KA])<;>(simp only[HU,RZ,AF,Int.reduceEq,if_true,if_false,true_or,or_true,or_false,false_or,or_self,ite_true,ite_false,reduceIte])<;>(try simp_all)<;>(try omega))
  ·have ck:=AD hk;have hnp:¬VE c:=fun h=>hk h.1
   (refine CB func130 ?_);(repeat'(first|(apply BY<;>intro h)|((refine BU hP ?_);simp only[go_sem,simprocAttr,ck,decide_false])|fail))
   all_goals((try clear hP)<;>(try clear hR)<;>(clear hf hs)<;>(rw[KA])<;>(simp only[HU,RZ,AF,Int.reduceEq,if_true,if_false,true_or,or_true,or_false,false_or,or_self,ite_true,ite_false,reduceIte])<;>(try simp_all)<;>(try omega))
 have e0:=AD k0;have e1:=AD k1;have e2:=AD k2;have e3:=AD k3;have e4:=AD k4;have e5:=AD k5;have e6:=AD k6;have e7:=AD k7;have e8:=AD k8;have e9:=AD k9;have e10:=AD ń;have e11:=AD Ņ;have e12:=AD ņ;have e13:=AD Ň;have e14:=AD ň;have e15:=AD ŉ;have e17:=AD Ŋ;have e18:=AD ŋ;have e19:=AD Ō;have vD:=AD ō;rw[show decide (HU k s n c m)=false by simp[HU,k0,k1,k2,k3,k4,k5,k6,k7,k8,k9,ń,Ņ,ņ,Ň,ň,ŉ,ō,Ŋ,ŋ,Ō]];(refine CK func130 ?_;simp only[go_sem,simprocAttr,e0,e1,e2,e3,e4,e5,e6,e7,e8,e9,e10,e11,e12,e13,e14,e15,vD,e17,e18,e19])
 skip
end Go.LX
