/- Paths: what is set, and what is got: plain laws. -/
import Derived.Test.YtaghbedfogiopaaGreatDoorTxI
import Derived.OpenShut
import Derived.ProofKit
import Derived.Deep.Slices
import Derived.Test.YtaghbedfogiopaaGreatDoorCards
import Derived.Test.YtaghbedfogiopaaGreatDoorTie
import Derived.Deep.DeepWitnessRowRef
import Derived.Lib.LaidIn
import Derived.Lib.LaidU8T
import Derived.Lib.Repeat
set_option linter.all false
set_option maxRecDepth 100000
set_option maxHeartbeats 2000000
namespace Go.LX
open Go Go.RowKit Go.Proofs Go.Proofs.Tryz
attribute [local irreducible] Al Bi CL
variable (k:Int){l:List KT}{name s:List UInt8}{m i:Nat}{t y w:BM}{p:List UInt8×BM}{g:Bool}{e:Int}{BL:BO}
def nd(l:List KT):BM:=.mk k [] false 0 (A1 l)
def Ea(l:List KT):(A1 l).list=l:=Hd l
def th{k:Int}:EZ (nd k l)↔G3 k [] false 0 l.length/\Eh k l/\∀p∈l,EZ p.2:=by
 unfold nd;rw[Lu,xn,Ea,Ca]
def Ck(name:List UInt8)(t:BM)(l:List KT):List KT:=l.map fun p=>if p.1=name then(name,t)else p
def Jhx(name:List UInt8)(t:BM)(l:List KT):(Ck name t l).map (·.1)=l.map (·.1):=by
 unfold Ck;rw[OT];apply UM;intro p _;simp only[Function.comp];split<;>simp_all
def Jkq{m:List KT}(h:l.map (·.1)=m.map (·.1)):EJ l↔EJ m:=by
 have e:∀l:List KT,EJ l↔(l.map (·.1)).Pairwise fun a b=>Op.bytesLess a b=true:=fun l=>by unfold EJ;rw[fG]
 rw[e,e,h]
def Ii(h:EJ l):EJ (Ck name t l):=(Jkq (Jhx name t l)).2 h
def Mh{name:List UInt8}{t:BM}:∀{l:List KT},(∀p∈l,p.1≠name)->Ck name t l=l
 |[],_=>rfl
 |p::l,h=>by
  have:=Mh (t:=t) fun q hq=>h q (EW p hq)
  unfold Ck at this⊢;rw[Fc,AA (h p DQ),this]
def Y2{name:List UInt8}:∀{l:List KT},(∀p∈l,p.1≠name)->A8 name l=l
 |[],_=>rfl
 |p::l,h=>by rw[A8,AA (h p DQ),Y2 fun q hq=>h q (EW p hq)]
def Zx{name:List UInt8}{y:BM}:∀{l:List KT},EJ l->(∃p∈l,p.1=name)->EV name y (A8 name l)=Ck name y l
 |[],_,h=>by obtain⟨p,hp,_⟩:=h;cases hp
 |p::l,hr,h=>by
  obtain⟨h1,h2⟩:=NC.1 hr;by_cases hp:p.1=name
  ·have GR:∀q∈l,q.1≠name:=fun q hq e=>by
    have:=h1 q hq;rw[hp,e,E0]at this;cases this
   rw[A8,AB hp,Y2 GR];unfold Ck;rw[Fc,AB hp];have:=Mh (t:=y) GR;unfold Ck at this;rw[this];cases l with
   |nil=>rfl
   |cons q l =>
    have:=h1 q DQ;rw[hp]at this;rw[EV,AA (by rw[L3 this];simp)]
  ·obtain⟨q,hq,PY⟩:=h;have FJ:q∈l:=by
    rcases DN.1 hq with rfl|hq
    ·exact absurd PY hp
    ·exact hq
   have BZ:=h1 q FJ;rw[PY]at BZ;rw[A8,AA hp,EV,AB BZ,Zx h2 ⟨q,FJ,PY⟩];unfold Ck;rw[Fc,AA hp]
def Lf{name:List UInt8}{y:BM}:∀{l:List KT},(∃p∈l,p.1=name)->Ch name (Ck name y l)=some y
 |[],h=>by obtain⟨p,hp,_⟩:=h;cases hp
 |p::l,h=>by
  unfold Ck;rw[Fc];by_cases hp:p.1=name
  ·rw[AB hp,Ch,AB rfl]
  ·rw[AA hp,Ch,AA hp];obtain⟨q,hq,PY⟩:=h;refine Lf ⟨q,?_,PY⟩;rcases DN.1 hq with rfl|hq
   ·exact absurd PY hp
   ·exact hq
def Xa(name:List UInt8)(y z:BM)(l:List KT):Ck name z (Ck name y l)=Ck name z l:=by
 unfold Ck;rw[OT];apply UM;intro p _;simp only[Function.comp];by_cases h:p.1=name<;>simp[h]
def Qw{name:List UInt8}{w:BM}:∀{l:List KT},EJ l->Ch name l=some w->Ck name w l=l
 |[],_,h=>by cases h
 |p::l,hr,h=>by
  obtain⟨h1,h2⟩:=NC.1 hr;rw[Ch]at h;by_cases hp:p.1=name
  ·rw[AB hp]at h;have GR:∀q∈l,q.1≠name:=fun q hq e=>by
    have:=h1 q hq;rw[hp,e,E0]at this;cases this
   have e:=Mh (t:=w) GR;unfold Ck at e⊢;rw[Fc,AB hp,e];cases h;obtain⟨a,b⟩:=p;simp only at hp;subst hp;rfl
  ·rw[AA hp]at h;have e:=Qw h2 h;unfold Ck at e⊢;rw[Fc,AA hp,e]
def Jip(h:∀p∈l,EZ p.2)(hy:EZ y):∀p∈Ck name y l,EZ p.2:=by
 intro p hp;obtain⟨q,hq,rfl⟩:=FB.1 hp;split
 ·exact hy
 ·exact h q hq
def Jct(h:Eh 6 l):Eh 6 (Ck name y l):=by
 obtain⟨_,h2,h3⟩:=h;refine⟨by simp,fun p hp=>?_,fun _=>Ii (h3 rfl)⟩;obtain⟨q,hq,rfl⟩:=FB.1 hp;split
 ·rename_i e;simp only;rw[<-e];exact h2 q hq
 ·exact h2 q hq
def Jdu{name:List UInt8}{y w:BM}:∀{l:List KT},EJ l->Ch name l=some w->(A1 (Ck name y l)).enc.length+(w.enc []).length=(A1 l).enc.length+(y.enc []).length
 |[],_,h=>by cases h
 |p::l,hr,h=>by
  obtain⟨h1,h2⟩:=NC.1 hr;rw[Ch]at h;by_cases hp:p.1=name
  ·rw[AB hp]at h;cases h;have GR:∀q∈l,q.1≠name:=fun q hq e=>by
    have:=h1 q hq;rw[hp,e,E0]at this;cases this
   have e:=Mh (t:=y) GR;have e2:Ck name y (p::l)=(name,y)::l:=by
    unfold Ck at e⊢;rw[Fc,AB hp,e]
   rw[e2];simp only[A1,A0,DC,G7 _ name,G7 _ p.1];omega
  ·rw[AA hp]at h;have ih:=Jdu (y:=y) h2 h;have e2:Ck name y (p::l)=p::Ck name y l:=by
    unfold Ck;rw[Fc,AA hp]
   rw[e2];simp only[A1,A0,DC];omega
def Jcy{y w:BM}{nm:List UInt8}:∀{l:List KT} {i:Nat},l[i]?=some (nm,w)->(A1 (l.set i (nm,y))).enc.length+(w.enc []).length=(A1 l).enc.length+(y.enc []).length
 |[],i,h=>by simp at h
 |p::l,0,h=>by
  simp at h;subst h;simp only[List.set_cons_zero,A1,A0,DC,G7 _ nm];omega
 |p::l,i+1,h=>by
  have:=Jcy (y:=y) (l:=l) (i:=i) (by simpa using h);simp only[List.set_cons_succ,A1,A0,DC];omega
def MR:BM->CD->BM->BM|.mk _ _ _ _ BL,x,y=>if x.part=true then nd 5 (Ge (BL.list.set x.n.toNat ([],y)))else nd 6 (EV x.name y (A8 x.name BL.list))
inductive Way (t:BM) (x:CD) (w:BM):Prop
 |list (l:List KT) (h:t=nd 5 l) (hp:x.part=true) (hn:∀p∈l,p.1=[]) (hi:l[x.n.toNat]?=some ([],w))
 |obj (l:List KT) (h:t=nd 6 l) (hp:x.part=false) (hr:EJ l) (hi:Ch x.name l=some w)
def Jl3:∀{l:List KT},(∀p∈l,p.1=[])->Ge l=l
 |[],_=>rfl
 |p::l,h=>by
  have:=Jl3 fun q hq=>h q (EW p hq)
  unfold Ge at this⊢;rw[Fc,this,<-h p DQ]
def Jv{x:CD}(ht:EZ t)(h:KS t x=.ok w):Way t x w:=by
 cases t with
 |mk k s g e BL =>
 rw[Lu]at ht;obtain⟨h1,h2,h3⟩:=ht;unfold G3 at h1;cases hp:x.part
 ·by_cases hk:k=6
  ·subst hk;simp at h1;obtain⟨rfl,rfl,rfl⟩:=h1;rw[Tp hp]at h;cases hf:Ch x.name BL.list with
   |none=>rw[hf]at h;cases h
   |some u =>
    rw[hf]at h;cases h;exact .obj BL.list (by unfold nd;rw[G1]) hp (h2.2.2 rfl) hf
  ·rw[Iw hp hk]at h;cases h
 ·by_cases hk:k=5
  ·subst hk;simp at h1;obtain⟨rfl,rfl,rfl⟩:=h1;rw[Tm hp]at h;cases hf:BL.list[x.n.toNat]? with
   |none=>rw[hf]at h;cases h
   |some q =>
    rw[hf]at h;cases h;have hq:=h2.1 rfl q (D4 hf);refine .list BL.list (by unfold nd;rw[G1]) hp (h2.1 rfl) ?_;rw[hf];obtain⟨a,b⟩:=q;simp only at hq;subst hq;rfl
  ·rw[Iz hp hk]at h;cases h
def Va{x:CD}(hp:x.part=true):KS (nd 5 l) x=match l[x.n.toNat]? with
   |some p=>.ok p.2
   |none=>.error 6:=by unfold nd;rw[Tm hp,Ea]<;>rfl
def Vv{x:CD}(hp:x.part=false):KS (nd 6 l) x=match Ch x.name l with
   |some t=>.ok t
   |none=>.error 6:=by unfold nd;rw[Tp hp,Ea]<;>rfl
def Gf(h:∀p∈l,p.1=[]):∀p∈l.set i ([],y),p.1=[]:=by
 intro p hp;rcases cc hp with hp|rfl
 ·exact h p hp
 ·rfl
def Cr{x:CD}(hp:x.part=true)(hn:∀p∈l,p.1=[]):MR (nd 5 l) x y=nd 5 (l.set x.n.toNat ([],y)):=by
 show(if x.part=true then nd 5 (Ge ((A1 l).list.set x.n.toNat ([],y)))else _)=_;rw[AB hp,Ea,Jl3 (Gf hn)]
def C7{x:CD}(hp:x.part=false)(hr:EJ l)(hi:Ch x.name l=some w):MR (nd 6 l) x y=nd 6 (Ck x.name y l):=by
 show(if x.part=true then _ else nd 6 (EV x.name y (A8 x.name (A1 l).list)))=_;rw[AA (by simp[hp]),Ea,Zx hr];obtain⟨p,h1,_,h2⟩:=H2 hi;exact⟨p,h1,h2⟩
def Qq(h:Ch name l=some w):∃p∈l,p.1=name:=by
 obtain⟨p,h1,_,h2⟩:=H2 h;exact⟨p,h1,h2⟩
def L7{x:CD}(h:Way t x w):KS (MR t x y) x=.ok y:=by
 cases h with
 |list l h hp hn hi =>
  subst h;rw[Cr hp hn,Va hp,List.getElem?_set_self (DX.1 hi).1]
 |obj l h hp hr hi =>
  subst h;rw[C7 hp hr hi,Vv hp,Lf (Qq hi)]
def Jjf{x:CD}(h:Way t x w):MR t x w=t:=by
 cases h with
 |list l h hp hn hi =>
  subst h;rw[Cr hp hn];congr 1;apply aN;intro i;rw[SO];split
  ·subst_vars
   first
    |(split<;>simp_all)
    |simp_all
  ·rfl
 |obj l h hp hr hi =>
  subst h;rw[C7 hp hr hi,Qw hr hi]
def Ot{x:CD}{z:BM}(h:Way t x w):MR (MR t x y) x z=MR t x z:=by
 cases h with
 |list l h hp hn hi =>
  subst h;rw[Cr hp hn,Cr hp (Gf hn),Cr hp hn,List.set_set]
 |obj l h hp hr hi =>
  subst h;rw[C7 hp hr hi,C7 hp (Ii hr) (Lf (Qq hi)),C7 hp hr hi,Xa]
def lh{x:CD}(ht:EZ t)(h:Way t x w)(hy:EZ y):EZ (MR t x y):=by
 cases h with
 |list l h hp hn hi =>
  subst h;rw[Cr hp hn];rw[th]at ht⊢;obtain⟨h1,h2,h3⟩:=ht;refine⟨by rw[nR];exact h1,⟨fun _=>Gf hn,fun p IA=>?_,by simp⟩,fun p IA=>?_⟩
  ·rw[Gf hn p IA];rfl
  ·rcases cc IA with IA|rfl
   ·exact h3 p IA
   ·exact hy
 |obj l h hp hr hi =>
  subst h;rw[C7 hp hr hi];rw[th]at ht⊢;obtain⟨h1,h2,h3⟩:=ht;exact⟨by unfold Ck;rw[HM];exact h1,Jct h2,Jip h3 hy⟩
def Ig{x:CD}(ht:EZ t)(h:Way t x w):EZ w:=by
 cases h with
 |list l h hp hn hi=>subst h;exact(th.1 ht).2.2 _ (D4 hi)
 |obj l h hp hr hi =>
  subst h;obtain⟨p,h1,h2,_⟩:=H2 hi;rw[<-h2];exact(th.1 ht).2.2 p h1
def Wn(l:List KT):((nd k l).enc []).length=(A1 l).enc.length+1:=by unfold nd;rw[A6];rfl
def Jot{x:CD}(h:Way t x w):((MR t x y).enc []).length+(w.enc []).length=(t.enc []).length+(y.enc []).length:=by
 cases h with
 |list l h hp hn hi =>
  subst h;rw[Cr hp hn,Wn,Wn];have:=Jcy (y:=y) hi;omega
 |obj l h hp hr hi =>
  subst h;rw[C7 hp hr hi,Wn,Wn];have:=Jdu (y:=y) hr hi;omega
def GL:List CD->BM->BM->Except Nat BM
 |[],_,u=>.ok u
 |x::p,t,u=>match KS t x with
  |.error e=>.error e
  |.ok w=>match GL p w u with
   |.error e=>.error e
   |.ok y=>.ok (MR t x y)
def Km:∀{p:List CD} {t u:BM} {e:Nat},GL p t u=.error e↔JX p t=.error e
 |[],t,u,e=>by simp[GL,JX]
 |x::p,t,u,e=>by
  rw[GL,JX];cases KS t x with
  |error e'=>simp
  |ok w =>
   simp only;rw[<-Km (p:=p) (t:=w) (u:=u)];cases GL p w u with
   |error e'=>simp
   |ok y=>simp
def Kg:∀{p:List CD} {t u y:BM},EZ t->EZ u->GL p t u=.ok y->∃w,JX p t=.ok w/\JX p y=.ok u/\GL p y w=.ok t/\EZ y/\EZ w/\(y.enc []).length+(w.enc []).length=(t.enc []).length+(u.enc []).length
 |[],t,u,y,ht,hu,h=>by
  cases h;exact⟨t,rfl,rfl,rfl,hu,ht,omg⟩
 |x::p,t,u,y,ht,hu,h=>by
  rw[GL]at h;cases hi:KS t x with
  |error e=>rw[hi]at h;cases h
  |ok v =>
   rw[hi]at h;have hw:=Jv ht hi;have hv:=Ig ht hw;simp only at h;cases hs:GL p v u with
   |error e=>rw[hs]at h;cases h
   |ok z =>
    rw[hs]at h;simp only at h;cases h;obtain⟨w,g1,g2,g3,g4,g5,g6⟩:=Kg hv hu hs;refine⟨w,by rw[JX,hi];exact g1,by rw[JX,L7 hw];exact g2,?_,lh ht hw g4,g5,?_⟩
    ·rw[GL,L7 hw];simp only;rw[g3];simp only;rw[Ot hw,Jjf hw]
    ·have:=Jot (y:=z) hw;omega
def Jjk{r:BX}{K:L->Prop}:dz r K (.p .snil)=K (.p (.int .i64 0)):=(rfl)
def Jpr:CA cx 160 [.p .snil,.p (.int .i64 0)] [] (.p .snil) []:=by
 have w1:IntKind.i64.wrap 0=0:=de;have c1:((0:Int)<0)=False:=sm;(refine CK func160 ?_;simp only[go_sem,simprocAttr,w1,c1,K9,Jjk,Hi])
 skip
def lj(n:Nat)(h0:0<n)(hn:n<=1500000000000):CA cx 160 [.p .snil,.p (.int .i64 n)] [] (.own 900 0 0) [(900,.row 36 6 [])]:=by
 have w1:IntKind.i64.wrap 0=0:=de;have c1:((0:Int)<(n:Int))=True:=AE omg;have w2:IntKind.i64.wrap ((n:Int)-0)=n:=by rw[Aa omg omg];omega
 have c2:((n:Int)<0)=False:=AD omg;(refine TK true [(22,900)] func160 ?_;simp only[go_sem,simprocAttr,w1,c1,w2,c2,K9,Jjk,Hi]);(repeat'(first|refine EA ?_|fail));omega
def Jc4(l:List (List UInt8×BM))(k:Nat):(A1 (Ge (l.take k))).enc.length<=(A1 (Ge l)).enc.length:=by
 rw[Rf];exact Oi _ _
def Jc5{l:List (List UInt8×BM)}{k:Nat}(h:l[k]?=some p):(A1 (Ge (l.take (k+1)))).enc=(A1 (Ge (l.take k))).enc++p.2.enc []:=by
 have h':(Ge l)[k]?=some ([],p.2):=by simp[Ge,h]
 rw[Rf,Rf];exact Nu h'
def Y7(l:List (List UInt8×BM))(hv:(A1 (Ge l)).enc.length<=1350000000000):CA cx 126 [.p (.sl (A4 l))] [] (.p (.sl (BP (A1 (Ge l)).enc))) []:=by
 have GB:=KE (A1 (Ge l));rw[Ca,Kp]at GB;have z0:(A1 (Ge ([]:List (List UInt8×BM)))).enc.length=0:=by simp[Ge,A1,Bl]
 have z1:(A1 (Ge ([]:List (List UInt8×BM)))).enc=[]:=by simp[Ge,A1,Bl]
 (refine CK func126 ?_;simp only[go_sem,simprocAttr,A5]);refine CL.loop (fun k:Nat=>⟨Ba 36 [(0,.p (.sl (A4 l))),(3,.p (.int .i64 (A1 (Ge (l.take k))).enc.length)),(9,.p (.sl (A4 l))),(10,.p (.int .i64 l.length)),(11,.p (.int .i64 k))],[]⟩) (fun k=>k<=l.length) (fun k=>l.length-k) 0 (by simp only[QN,z0];exact CH) (EK _) ?_;intro k hk;by_cases BZ:¬k<l.length
 ·have c1:((k:Int)<(l.length:Int))=False:=AD omg;have tk:l.take k=l:=DK omg;have hg:=c1;have w1:=c1;have w2:=c1;have c2:=c1;by_cases QR:l=[]
  ·subst QR;have hG:=Jpr;(refine CC ?_;simp only[go_sem,simprocAttr,tk,z0]);(repeat'(first|(apply BY<;>intro h)|(refine p_ ?_;intro b hb)|refine EA ?_|((refine BU hG ?_);simp only[go_sem,simprocAttr,A5])|(exfalso;omega)));refine CL.loop (fun i:Nat=>⟨Ba 36 [(6,.p (.sl [])),(25,.p (.sl [])),(26,.p (.int .i64 0)),(27,.p (.int .i64 0))],[]⟩) (fun _=>True) (fun _=>0) 0 CH trivial ?_;intro i _;refine HO ?_;rw[z1];rfl
  ·have IZ:0<(A1 (Ge l)).enc.length:=by
    have:0<l.length:=by cases l<;>simp at QR⊢
    omega
   have hG:=lj (A1 (Ge l)).enc.length IZ omg;(refine CC ?_;simp only[go_sem,simprocAttr,c1,tk]);(repeat'(first|((refine BU hG ?_);simp only[go_sem,simprocAttr,A5])|fail));refine HD (B1 [(24,33)] _ sm) ?_;simp only[go_sem,simprocAttr];refine CL.loop (fun k:Nat=>⟨Ba 36 [(6,.own 33 0 (A1 (Ge (l.take k))).enc.length),(25,.p (.sl (A4 l))),(26,.p (.int .i64 l.length)),(27,.p (.int .i64 k))],[(33,.row 36 6 (BP (A1 (Ge (l.take k))).enc))]⟩) (fun k=>k<=l.length) (fun k=>l.length-k) 0 (by simp only[QN,z0,z1,Jjy];exact CH) (EK _) ?_;intro j hj;by_cases n8:¬j<l.length
   ·have d1:((j:Int)<(l.length:Int))=False:=AD omg;have tj:l.take j=l:=DK omg;have tv:(BP (A1 (Ge l)).enc).take (A1 (Ge l)).enc.length=BP (A1 (Ge l)).enc:=DK sm;have lv:((A1 (Ge l)).enc.length<=(A1 (Ge l)).enc.length)=True:=AE (CS _);have VP:=d1;have w3:=d1;(refine CC ?_;simp only[go_sem,simprocAttr,A7,d1,tj,tv,lv])
    skip
   ·have n8:=JK.1 n8;have d1:((j:Int)<(l.length:Int))=True:=AE omg;obtain⟨p,hp⟩:∃p,l[j]?=some p:=⟨_,C' n8⟩
    have VP:(A4 l)[j]?=some [.sl (BP (p.2.enc []))]:=by simp[A4,hp]
    have hs:=Jc4 l (j+1);have h1:=Jc5 hp;rw[h1,DC]at hs;have w3:=DM (i:=j) omg;have tj:=d1;have tv:=d1;have lv:=d1;(refine CC ?_;simp only[go_sem,simprocAttr,A7,d1,VP,w3]);refine⟨E7 _,omg,omg,?_⟩;refine⟨j+1,n8,omg,?_⟩;rw[h1,DC,Ji];exact CH
 ·have BZ:=JK.1 BZ;have c1:((k:Int)<(l.length:Int))=True:=AE omg;obtain⟨p,hp⟩:∃p,l[k]?=some p:=⟨_,C' BZ⟩
  have hg:(A4 l)[k]?=some [.sl (BP (p.2.enc []))]:=by simp[A4,hp]
  have hs:=Jc4 l (k+1);have h1:=Jc5 hp;rw[h1,DC]at hs;have tk:=c1;have w1:=DM (i:=k) omg;have w2:IntKind.i64.wrap (((A1 (Ge (l.take k))).enc.length:Int)+((p.2.enc []).length:Int))=(((A1 (Ge (l.take k))).enc.length+(p.2.enc []).length:Nat):Int):=by rw[Aa omg omg];omega
  have c2:((((A1 (Ge (l.take k))).enc.length+(p.2.enc []).length:Nat):Int)<0)=False:=AD omg;have d1:=c1;have tj:=c1;have tv:=c1;have lv:=c1;have VP:=c1;have w3:=c1;(refine CC ?_;simp only[go_sem,simprocAttr,A7,c1,hg,w1,w2,c2]);refine⟨k+1,BZ,omg,?_⟩;rw[h1,DC];exact CH
def Jfu(h:i<s.length):Pk (s.take (i+1))=(Pk (s.take i)&&(decide (48<=BS s i)&&decide (BS s i<=57))):=by
 simp only[Pk,NA,C' h,List.all_append,Ql h];simp[tf]
def Qp(h:i<s.length)(hb:BS s i<48\/57<BS s i):Pk s=false:=by
 simp only[Pk,List.all_eq_false];rw[Ql h]at hb;exact⟨s[i],UN h,by simp[tf];omega⟩
def Jj5(s:List UInt8)(hs:s.length<=9223372036854775807):CA cx 161 [.p (.str s)] [] (.p (.bool (Pk s))) []:=by
 (refine CB func161 ?_);refine CL.loop (fun i:Nat=>⟨Ba 20 [(0,.p (.str s)),(3,.p (.int .i64 i))],[]⟩) (fun i=>i<=s.length/\Pk (s.take i)=true) (fun i=>s.length-i) 0 CH ⟨EK _,rfl⟩ ?_;rintro i ⟨h1,h2⟩;refine HO ?_;(repeat'(first|(apply BY<;>intro h)|refine EA ?_|fail))
 ·exact(Qp (i:=i) omg omg).symm
 ·exact(Qp (i:=i) omg omg).symm
 ·refine⟨i+1,⟨omg,?_⟩,omg,CH⟩;rw[Jfu omg,h2];simp;omega
 ·rw[DK omg]at h2;exact h2.symm
def M0(many:Int)(s:List UInt8)(g:Bool)(e:Int)(hs:s.length<=1000000)(he:-9223372036854775808<=e)(FO:e<=9223372036854775807):CA cx 129 [.p (.agg [.int .i64 3,.int .i64 many,.str [],.str s,.bool g,.int .i64 e])] [] (.p (.bool (decide (many=0/\Yz s g e)))) []:=by
 (refine CB func129 ?_);(repeat'(first|(apply BY<;>intro h)|refine EA ?_|refine CI (Jj5 _ omg) ?_|fail))
 all_goals((try simp(disch:=omega)only [Aa,Qs,Ab,wP,Mf,w6,w7,w8,w9]at *)<;>(try rw[show(↑s.length-1:Int).toNat=s.length-1 by omega]at *)<;>(rw[KA])<;>(have hs0:s.length=0↔s=[]:=List.length_eq_zero_iff)<;>(simp only[Yz,AF,AK,bne_iff_ne,VM,false_iff])<;>(by_cases h0:s=[])<;>(simp only[h0,if_true,if_false]at *)<;>(first|omega|(simp_all<;>omega)|skip))
def Ja1(k m:Int)(nm s:List UInt8)(g:Bool)(e:Int)(hs:s.length<=1000000)(he:-9223372036854775808<=e)(FO:e<=9223372036854775807):CA cx 78 [.p (.agg [.int .i64 k,.int .i64 m,.str nm,.str s,.bool g,.int .i64 e])] [] (.p (.bool (decide (G3 k s g e m)))) []:=by
 by_cases hk:k=3
 ·subst hk;refine CB func78 ?_;(repeat'(first|refine CI (M0 m s g e hs he FO) ?_|fail))
  all_goals(first|rfl|(simp[G3];done))
 ·refine CB func78 ?_;(repeat'(first|(apply BY<;>intro h)|refine CI (Cn s hs) ?_|(exfalso;omega)))
  all_goals((rw[KA])<;>(simp only[G3,AF,AK,OS,VM,false_iff])<;>(first|omega|(simp_all;done)|(simp_all<;>omega)))
def JZ(v:List Node)(i o:Nat):Int:=match XC v.length (v.drop i) o with
 |some k=>((i+k:Nat):Int)
 |none=>-1
def Jha(v:List Node)(i:Nat):JZ v i 0=i:=by
 unfold JZ;have:XC v.length (v.drop i) 0=some 0:=by cases v.drop i<;>rfl
 rw[this];rfl
def Jmc{v:List Node}{o:Nat}(h:v.length<=i)(ho:0<o):JZ v i o = -1:=by
 unfold JZ;rw[JD h];cases o with
 |zero=>omega
 |succ o=>rfl
def Jlc{v:List Node}{o:Nat}{n:Node}(h:v[i]?=some n)(ho:0<o)(hb:n.many<0\/(v.length:Int)<n.many):JZ v i o = -1:=by
 have hi:=(DX.1 h).1;unfold JZ;rw[Mx hi,(DX.1 h).2];cases o with
 |zero=>omega
 |succ o=>simp only[XC];rw[AB hb]
def Jfk{v:List Node}{o:Nat}{n:Node}(h:v[i]?=some n)(hb:¬(n.many<0\/(v.length:Int)<n.many)):JZ v i (o+1)=JZ v (i+1) (o+n.many.toNat):=by
 have hi:=(DX.1 h).1;unfold JZ;rw[Mx hi,(DX.1 h).2];simp only[XC];rw[AA hb];cases XC v.length (v.drop (i+1)) (o+n.many.toNat)with
 |none=>rfl
 |some k=>simp only[Option.map_some];omega
def U5{v:List Node}{n:Node}(h:v[i]?=some n):(BP v)[i]?=some [.int .i64 n.kind,.int .i64 n.many,.str n.name,.str n.s,.bool n.neg,.int .i64 n.e]:=by
 simp[BP,h,Node.cells]
def Uv(v:List Node)(hv:v.length<=10000):CA cx 77 [.p (.sl (BP v)),.p (.int .i64 0)] [] (.p (.int .i64 (JZ v 0 1))) []:=by
 (refine CB func77 ?_);refine CL.loop (fun x:Nat×Nat=>⟨Ba 41 [(0,.p (.sl (BP v))),(1,.p (.int .i64 x.1)),(5,.p (.int .i64 x.2))],[]⟩) (fun x=>x.1<=v.length/\x.2<=1+x.1*10000/\JZ v x.1 x.2=JZ v 0 1) (fun x=>v.length-x.1) (0,1) CH ⟨EK _,by simp,rfl⟩ ?_;rintro⟨i,o⟩ ⟨h1,h2,h3⟩;simp only at h1 h2 h3;by_cases ho:o=0
 ·subst ho;rw[Jha]at h3;refine HO ?_;rw[h3]
 ·have c0:((0:Int)<(o:Int))=True:=AE omg;by_cases hi:¬i<v.length
  ·have c1:((v.length:Int)<=(i:Int))=True:=AE omg;rw[Jmc omg omg]at h3;have hg:=c1;have c2:=c1;have c3:=c1;have w1:=c1;have w2:=c1;have w3:=c1;(refine CC ?_;simp only[go_sem,simprocAttr,A7,c0,c1]);rw[<-h3]
  ·have hi:=JK.1 hi;have c1:((v.length:Int)<=(i:Int))=False:=AD omg;obtain⟨n,hn⟩:∃n,v[i]?=some n:=⟨_,C' hi⟩
   have hg:=U5 hn;by_cases hb:n.many<0\/(v.length:Int)<n.many
   ·rw[Jlc hn omg hb]at h3;have w1:=c1;have w2:=c1;have w3:=c1;by_cases PB:n.many<0
    ·have c2:(n.many<0)=True:=AE PB;have c3:=c1;(refine CC ?_;simp only[go_sem,simprocAttr,A7,c0,c1,c2,hg]);rw[<-h3]
    ·have c2:(n.many<0)=False:=AD PB;have c3:((v.length:Int)<n.many)=True:=AE omg;(refine CC ?_;simp only[go_sem,simprocAttr,A7,c0,c1,c2,c3,hg]);rw[<-h3]
   ·have c2:(n.many<0)=False:=AD omg;have c3:((v.length:Int)<n.many)=False:=AD omg;obtain⟨o',rfl⟩:∃o',o=o'+1:=⟨o-1,omg⟩
    rw[Jfk hn hb]at h3;have w1:IntKind.i64.wrap (((o'+1:Nat):Int)-1)=(o':Int):=by rw[Aa omg omg];omega
    have w2:IntKind.i64.wrap ((o':Int)+n.many)=((o'+n.many.toNat:Nat):Int):=by rw[Aa omg omg];omega
    have w3:=DM (i:=i) omg;(refine CC ?_;simp only[go_sem,simprocAttr,A7,c0,c1,c2,c3,hg,w1,w2,w3]);exact⟨(i+1,o'+n.many.toNat),⟨by simp only;omega,by simp only;omega,h3⟩,by simp only;omega,CH⟩
def P8{v:List Node}{n:Node}(h:v[i]?=some n):(BP v)[i]?=some [.int .i64 n.kind,.int .i64 n.many,.str n.name,.str n.s,.bool n.neg,.int .i64 n.e]:=by
 simp[BP,h,Node.cells]
def Uw(x y:Node):Prop:=x.kind=y.kind/\x.many=y.many/\x.name=y.name/\x.s=y.s/\x.neg=y.neg/\x.e=y.e
def Qo{x y:Node}:Uw x y↔x=y:=by
 unfold Uw;constructor
 ·rintro⟨h1,h2,h3,h4,h5,h6⟩;cases x;cases y;simp_all
 ·rintro rfl;exact⟨rfl,rfl,rfl,rfl,rfl,rfl⟩
instance (x y:Node):Decidable (Uw x y):=inferInstanceAs (Decidable (_/\_))
instance:DecidableEq Node:=fun x y=>decidable_of_iff _ (Qo (x:=x) (y:=y))
def Jma{x y:Node}:(x.kind==y.kind&&(x.many==y.many&&(x.name==y.name&&(x.s==y.s&&(x.neg==y.neg&&x.e==y.e)))))=decide (x=y):=by
 rw[KA,AF,<-Qo];simp[Uw]
def E2(v u:List Node)(hv:v.length<=1500000000000)(hu:u.length<=1500000000000):CA cx 14 [.p (.sl (BP v)),.p (.sl (BP u))] [] (.p (.bool (decide (v=u)))) []:=by
 by_cases hl:v.length=u.length
 ·have c0:((v.length:Int)=(u.length:Int))=True:=AE omg;(refine CK func14 ?_;simp only[go_sem,simprocAttr,A7,c0]);refine CL.loop (fun i:Nat=>⟨Ba 26 [(0,.p (.sl (BP v))),(1,.p (.sl (BP u))),(5,.p (.int .i64 i))],[]⟩) (fun i=>i<=v.length/\v.take i=u.take i) (fun i=>v.length-i) 0 CH ⟨EK _,rfl⟩ ?_;rintro i ⟨h1,h3⟩;by_cases hi:¬i<v.length
  ·have c1:((i:Int)<(v.length:Int))=False:=AD omg;have EH:=c1;have UD:=c1;(refine CC ?_;simp only[go_sem,simprocAttr,A7,c1]);rw[DK omg,DK omg]at h3;exact(AG h3).symm
  ·have hi:=JK.1 hi;have c1:((i:Int)<(v.length:Int))=True:=AE omg;obtain⟨x,hx⟩:∃x,v[i]?=some x:=⟨_,C' hi⟩
   obtain⟨y,hy⟩:∃y,u[i]?=some y:=⟨_,C' omg⟩
   have EH:=P8 hx;have UD:=P8 hy;have w1:=HL (i:=i) omg;(refine CC ?_;simp only[go_sem,simprocAttr,A7,c1]);(repeat'(first|(apply BY<;>intro h)|((refine EG ?_);simp only[go_sem,simprocAttr,Jma,EH,UD,w1])|fail))
   ·have QC:=(show ¬x=y by assumption)
    refine(AH fun e=>QC ?_).symm;subst e;rw[hx]at hy;exact L' hy
   ·have QC:=JK.1 (show ¬¬x=y by assumption);subst QC;refine⟨i+1,⟨omg,?_⟩,omg,CH⟩;rw[NA,NA,h3,hx,hy]
 ·have c0:((v.length:Int)=(u.length:Int))=False:=AD omg;have c1:=c0;have EH:=c0;have UD:=c0;have w1:=c0;(refine CK func14 ?_;simp only[go_sem,simprocAttr,A7,c0]);exact(AH fun e=>hl (by rw[e])).symm
def Z3(v:List Node)(i:Nat)(nm:List UInt8)(k:Int)(s:List UInt8)(g:Bool)(e:Int)(BL:BO)(BR:List Node)(hv:v.length<=1500000000000)(h:v.drop i=(BM.mk k s g e BL).enc nm++BR)(hs:∀n∈v,n.name.length<=1000000):CA cx 79 [.p (.sl (BP v)),.p (.int .i64 i)] [] (.p (.bool (@decide (Eh k BL.list) (Classical.propDecidable _)))) []:=by
 have GB:=KE BL;rw[A6]at h;have DD:=D5 h;rw[C9]at DD;have hb:=L9 h sm;simp only[PQ,DH,DC]at hb;have w0:=DM (i:=i) omg;(refine CK func79 ?_;simp only[go_sem,simprocAttr,w0]);refine CL.loop (fun x:Nat×Nat×BO=>⟨Ba 75 [(0,.p (.sl (BP v))),(1,.p (.int .i64 i)),(5,.p (.int .i64 x.2.1)),(6,.p (.int .i64 x.1))],[]⟩) (fun x=>x.1+x.2.2.len=BL.len/\v.drop x.2.1=x.2.2.enc++BR/\x.2.1+x.2.2.enc.length=i+1+BL.enc.length/\(Eh k BL.list↔Eh k x.2.2.list)) (fun x=>x.2.2.enc.length) (0,i+1,BL) CH ⟨by simp,by simp only;rw[<-JO,h];rfl,by simp only,Iff.rfl⟩ ?_;rintro⟨j,a,F⟩ ⟨h1,h2,h3,h4⟩;simp only at h1 h2 h3 h4
 match F,h1,h2,h3,h4 with
 |.nil,h1,h2,h3,h4 =>
  simp only[BO.len]at h1;have c1:((j:Int)<(BL.len:Int))=False:=AD omg;have hK:=h4.2 (Sb k);have GG:=c1;have w1:=c1;have c7:=c1;have ao:=c1;(refine CC ?_;simp only[go_sem,simprocAttr,DD,c1]);exact(@decide_eq_true _ (Classical.propDecidable _) hK).symm
 |.cons DJ t r,h1,h2,h3,h4 =>
  rw[F2]at h1;rw[A0]at h2 h3;have hp:=Et t DJ;simp only[DC]at h3;obtain⟨k',n',s',g',e',GG⟩:∃k' n' s' g' e',(BP v)[a]?=some [.int .i64 k',.int .i64 n',.str DJ,.str s',.bool g',.int .i64 e']:=Mi (t:=t) (b:=r.enc++BR) (by rw[h2,KJ]);have c1:((j:Int)<(BL.len:Int))=True:=AE omg;rw[BO.list,Jaa]at h4;simp only at h4;have w1:=DM (i:=j) omg;have IB:DJ.length<=1000000:=by
   have:v[a]?=some ⟨k',n',DJ,s',g',e'⟩:=by
    cases VA:v[a]? with
    |none=>simp[BP,VA]at GG
    |some n =>
     have:=P8 VA;rw[GG]at this;simp only[Option.some.injEq,gS,PV.int.injEq,PV.str.injEq,PV.bool.injEq,true_and,and_true]at this;obtain⟨h1,h2,h3,h4,h5,h6⟩:=this;congr 1;cases n;simp_all
   exact hs _ (D4 this)
  have On:=Cs v a DJ t (r.enc++BR) hv (by rw[h2,KJ]);have GR:((k=5->DJ=[])/\valid DJ=true/\(k=6->∀q,r.list.head?=some q->Op.bytesLess DJ q.1=true)/\Eh k r.list->False)->(false = @decide (Eh k BL.list) (Classical.propDecidable _)):=fun h=>((@decide_eq_false_iff_not _ (Classical.propDecidable _)).2 fun hk=>h (h4.1 hk)).symm
  have hd:v.drop (a+(t.enc DJ).length)=r.enc++BR:=by rw[<-JO,h2,KJ,YL]
  match r,h1,h2,h3,h4,On,GR,hd with
  |.nil,h1,h2,h3,h4,On,GR,hd =>
   simp only[BO.len]at h1;have c7:(((j+1:Nat):Int)<(BL.len:Int))=False:=AD omg;have ao:=c1;(refine CC ?_;simp only[go_sem,simprocAttr,DD,c1,GG]);(repeat'(first|(apply BY<;>intro h)|((first|refine EG ?_|(refine BU (Cn DJ IB) ?_)|refine BU On ?_);simp only[go_sem,simprocAttr,DD,w1,c7])|(exfalso;omega)))
   all_goals first
    |(
     refine GR ?_;rintro⟨a1,a2,a3,a4⟩;have h9:=(show valid DJ=false by assumption)
     rw[a2]at h9;cases h9)
    |(
     refine GR ?_;rintro⟨a1,a2,a3,a4⟩;clear GR On h4 GG DD hd h2 hs;simp_all)
    |(
     refine⟨(j+1,a+(t.enc DJ).length,.nil),⟨by simp only[BO.len];omega,hd,by simp only;omega,h4.trans ⟨fun q=>q.2.2.2,fun q=>⟨?_,?_,fun _ q hq=>(by cases hq),q⟩⟩⟩,by simp only[A0,DC];omega,CH⟩
     all_goals(clear GR On h4 GG DD hd h2 hs;simp_all))
  |.cons xp t2 r2,h1,h2,h3,h4,On,GR,hd =>
   simp only[BO.len]at h1;have c7:(((j+1:Nat):Int)<(BL.len:Int))=True:=AE omg;obtain⟨k2,n2,s2,g2,e2,ao⟩:∃k' n' s' g' e',(BP v)[a+(t.enc DJ).length]?=some [.int .i64 k',.int .i64 n',.str xp,.str s',.bool g',.int .i64 e']:=Mi (t:=t2) (b:=r2.enc++BR) (by rw[hd,A0,KJ]);(refine CC ?_;simp only[go_sem,simprocAttr,DD,c1,GG]);(repeat'(first|(apply BY<;>intro h)|((first|refine EG ?_|(refine BU (Cn DJ IB) ?_)|refine BU On ?_);simp only[go_sem,simprocAttr,DD,GG,w1,c7,ao])|(exfalso;omega)))
   all_goals first
    |(
     refine GR ?_;rintro⟨a1,a2,a3,a4⟩;have h9:=(show valid DJ=false by assumption)
     rw[a2]at h9;cases h9)
    |(
     refine GR ?_;rintro⟨a1,a2,a3,a4⟩;have a5:=fun hk=>a3 hk (xp,t2) rfl
     clear a3 GR On h4 GG DD hd h2 hs ao;simp_all)
    |(
     refine⟨(j+1,a+(t.enc DJ).length,.cons xp t2 r2),⟨by simp only[BO.len];omega,hd,by simp only;omega,h4.trans ⟨fun q=>q.2.2.2,fun q=>⟨?_,?_,fun hk q hq=>?_,q⟩⟩⟩,by simp only[A0,DC];omega,CH⟩
     all_goals(clear GR On h4 GG DD hd h2 hs ao)
     all_goals first
      |(simp_all;done)
      |(simp only[BO.list,List.head?_cons,Option.some.injEq]at hq;subst hq;simp_all))
def Jda:∀{a b c d:BO},a.app b=c.app d->a.len=c.len->a=c/\b=d
 |.nil,b,.nil,d,h,_=>⟨rfl,h⟩
 |.nil,_,.cons _ _ _,_,_,h=>by simp[BO.len]at h
 |.cons _ _ _,_,.nil,_,_,h=>by simp[BO.len]at h
 |.cons nm t a,b,.cons DJ t' c,d,h,hl=>by
  rw[BO.app,BO.app]at h;injection h with h1 h2 h3
  obtain⟨rfl,rfl⟩:=Jda (a:=a) (b:=b) (c:=c) (d:=d) h3 (by simpa[BO.len]using hl);exact⟨by rw[h1,h2],rfl⟩
def W5:∀(n:Nat) {F G:BO},F.enc.length<=n->F.len=G.len->F.enc=G.enc->F=G
 |_,.nil,.nil,_,_,_=>rfl
 |_,.nil,.cons _ _ _,_,h,_=>by simp[BO.len]at h
 |_,.cons _ _ _,.nil,_,h,_=>by simp[BO.len]at h
 |0,.cons nm t r,.cons _ _ _,h,_,_=>by
  have:=Et t nm;rw[A0,DC]at h;omega
 |n+1,.cons nm (.mk k s g e BL) r,.cons DJ (.mk k' s' g' e' BT) r',h,hl,he=>by
  rw[A0,A6,DC,DH]at h;rw[A0,A0,A6,A6,PQ,PQ]at he;injection he with h1 h2
  injection h1 with g1 g2 g3 g4 g5 g6
  rw[<-QW,<-QW]at h2;simp only[BO.len]at hl;have hk:BL.len=BT.len:=omg;have:=W5 n (F:=BL.app r) (G:=BT.app r') (by rw[QW,DC];omega) (by rw[kz,kz];omega) h2;obtain⟨rfl,rfl⟩:=Jda this hk;rw[g1,g3,g4,g5,g6]
def Jmz{u:BM}{a b:List UInt8}(h:t.enc a=u.enc b):a=b/\t=u:=by
 have:=W5 (BO.cons a t .nil).enc.length (F:=.cons a t .nil) (G:=.cons b u .nil) (CS _) rfl (by rw[A0,A0,h]);injection this with h1 h2 _
 exact⟨h1,h2⟩
def Jf9:R0 (t.enc [])↔EZ t:=by
 constructor
 ·rintro⟨u,hu,h⟩;obtain⟨_,rfl⟩:=Jmz h;exact hu
 ·exact fun h=>⟨t,h,rfl⟩
def Zg{v:List Node}(h:R0 v):JZ v 0 1=v.length:=by
 obtain⟨t,_,rfl⟩:=h;have:=Jcx.2 ⟨[],t,rfl⟩;unfold JZ;rw[OB,this];simp
def Jf6{v:List Node}(h:JZ v 0 1=v.length):∃nm t,v=BM.enc nm t:=by
 refine Jcx.1 ?_;unfold JZ at h;rw[OB]at h;cases hn:XC v.length v 1 with
 |none=>rw[hn]at h;simp at h
 |some k=>rw[hn]at h;simp at h;rw[show k=v.length by omega]
structure HP (n:Node):Prop where
 s:n.s.length<=1000000
 name:n.name.length<=1000000
 e0:-9223372036854775808<=n.e
 e1:n.e<=9223372036854775807
def I8{v:List Node}(h:¬R0 v):false=Jw v:=by
 cases hb:Jw v with
 |false=>rfl
 |true=>exact absurd (Iq.1 hb) h
def Jp(v:List Node)(hv:v.length<=10000)(hf:∀n∈v,HP n):CA cx 24 [.p (.sl (BP v))] [] (.p (.bool (Jw v))) []:=by
 cases v with
 |nil =>
  have hb:false=Jw []:=I8 (by
   rintro⟨t,_,h⟩;have:=congrArg List.length h;have h1:=Et t [];simp at this;omega)
  have DD:True:=trivial;have c0:=DD;have c1:=DD;have c2:=DD;have c3:=DD;(refine CK func24 ?_;simp only[go_sem,simprocAttr,A7]);exact hb
 |cons n r =>
  have DD:=U5 (v:=n::r) (i:=0) (n:=n) rfl;have c0:(((n::r).length:Int)=0)=False:=AD (by simp;omega);have c1:((0:Int)<((n::r).length:Int))=True:=AE sm;have hN:=Uv (n::r) hv;generalize IF:n::r=v at *
  by_cases LC:n.name=[]
  ·by_cases eA:JZ v 0 1=v.length
   ·obtain⟨nm,t,ht⟩:=Jf6 eA;have ó:nm=[]:=by
     cases t with
     |mk k s g e BL =>
      rw[A6,<-IF]at ht;have:=(List.cons.inj ht).1;rw[this]at LC;exact LC
    subst ó;have c2:(n.name=[])=True:=AE LC;have c3:(JZ v 0 1=(v.length:Int))=True:=AE eA;(refine CK func24 ?_;simp only[go_sem,simprocAttr,A7,DD,c0,c2]);(repeat'(first|((refine BU hN ?_);simp only[go_sem,simprocAttr,A7,c3])|fail));have hB:∀b:Bool,(b=true↔EZ t)->b=Jw v:=by
     intro b hb;rw[KA,hb,Iq,ht,Jf9]
    have Um:∀{i:Nat} {F:BO},i+F.enc.length=v.length->True:=fun _=>trivial
    refine CL.loop (fun x:Nat×BO=>⟨Ba 39 [(0,.p (.sl (BP v))),(3,.p (.int .i64 x.1))],[]⟩) (fun x=>v.drop x.1=x.2.enc/\x.1+x.2.enc.length=v.length/\(EZ t↔U' x.2)) (fun x=>v.length-x.1) (0,.cons [] t .nil) CH ⟨by rw[A0,Bl,ID,OB,ht],by rw[A0,Bl,ID,ht];simp,by rw[Fs];exact⟨fun h=>⟨h,I6⟩,fun h=>h.1⟩⟩ ?_;rintro⟨i,F⟩ ⟨h1,h2,h3⟩;simp only at h1 h2 h3
    match F,h1,h2,h3 with
    |.nil,h1,h2,h3 =>
     rw[Bl]at h2;have c4:((i:Int)<(v.length:Int))=False:=AD (by simp at h2;omega);have GG:=c4;have w1:=c4;(refine CC ?_;simp only[go_sem,simprocAttr,A7,c4]);exact hB true (by rw[h3];simp[I6])
    |.cons DJ (.mk k s g e BL) r,h1,h2,h3 =>
     rw[A0,A6]at h1 h2;simp only[DC,DH]at h2;have c4:((i:Int)<(v.length:Int))=True:=AE omg;have GG:=D5 h1;rw[C9]at GG;have w1:=DM (i:=i) omg;rw[Jjp]at h3;have CR:(⟨k,BL.len,DJ,s,g,e⟩:Node)∈v:=by
      have:(⟨k,BL.len,DJ,s,g,e⟩:Node)∈v.drop i:=by rw[h1];simp
      exact OR this
     have Ui:=hf _ CR;have D':=Ja1 k BL.len DJ s g e Ui.s Ui.e0 Ui.e1;have eB:=Z3 v i DJ k s g e BL r.enc omg (by rw[h1,A6]) fun n hn=>(hf n hn).name
     have ti:(EZ t↔U' (BL.app r))->∃y:Nat×BO,(v.drop y.1=y.2.enc/\y.1+y.2.enc.length=v.length/\(EZ t↔U' y.2))/\v.length-y.1<v.length-i/\y=(i+1,BL.app r):=fun h =>
      ⟨(i+1,BL.app r),⟨by simp only;rw[<-JO,h1,QW];rfl,by simp only;rw[QW,DC];omega,h⟩,by simp only;omega,rfl⟩
     by_cases PW:G3 k s g e BL.len
     ·rw[AG PW]at D';by_cases WI:Eh k BL.list
      ·rw[@decide_eq_true _ (Classical.propDecidable _) WI]at eB;(refine CC ?_;simp only[go_sem,simprocAttr,A7,c4,GG]);(repeat'(first|((first|refine BU D' ?_|refine BU eB ?_);simp only[go_sem,simprocAttr,w1])|fail));obtain⟨y,p1,p2,rfl⟩:=ti (h3.trans ⟨fun h=>h.2.2,fun h=>⟨PW,WI,h⟩⟩);exact⟨_,p1,p2,CH⟩
      ·rw[@decide_eq_false _ (Classical.propDecidable _) WI]at eB;(refine CC ?_;simp only[go_sem,simprocAttr,A7,c4,GG]);(repeat'(first|(first|refine CI D' ?_|refine CI eB ?_)|fail));exact hB false (by rw[h3];simp[WI])
     ·rw[AH PW]at D';(refine CC ?_;simp only[go_sem,simprocAttr,A7,c4,GG]);(repeat'(first|refine CI D' ?_|fail));exact hB false (by rw[h3];simp[PW])
   ·have c2:(n.name=[])=True:=AE LC;have c3:(JZ v 0 1=(v.length:Int))=False:=AD eA;have hb:=I8 (v:=v) fun h=>eA (Zg h)
    have c4:=DD;have GG:=DD;have w1:=DD;(refine CK func24 ?_;simp only[go_sem,simprocAttr,A7,DD,c0,c2]);(repeat'(first|((refine BU hN ?_);simp only[go_sem,simprocAttr,A7,c3])|fail));exact hb
  ·have c2:(n.name=[])=False:=AD LC;have c3:=c2;have c4:=DD;have GG:=DD;have w1:=DD;have hb:=I8 (v:=v) (by
    rintro⟨t,_,h⟩;cases t with
    |mk k s g e BL =>
     rw[A6,<-IF]at h;have:=(List.cons.inj h).1;rw[this]at LC;exact LC rfl)
   (refine CK func24 ?_;simp only[go_sem,simprocAttr,A7,DD,c0,c2]);exact hb
def Ke4(l:List (List UInt8×BM))(hv:(A1 (Ge l)).enc.length<=1350000000000):CA cx 69 [.p (.sl (A4 l))] [] (.p (.sl (BP ((BM.mk 5 [] false 0 (A1 (Ge l))).enc [])))) []:=by
 have GB:=KE (A1 (Ge l));rw[Ca,Kp]at GB;have c1:(1+(A1 (Ge l)).enc.length<=(A1 (Ge l)).enc.length+1)=True:=AE omg;have t1:∀h:List PV,(h::BP (A1 (Ge l)).enc).take (1+(A1 (Ge l)).enc.length)=h::BP (A1 (Ge l)).enc:=fun h=>DK (by simp;omega)
 (refine CK func69 ?_;simp only[go_sem,simprocAttr,A5]);(repeat'(first|((refine BU (Y7 l hv) ?_);simp only[go_sem,simprocAttr,A7,c1,t1])|fail));(repeat'(first|(refine And.intro (by first|omega|(simp;done)|(simp;omega)|exact E7 _) ?_)|fail));rw[A6,Ca,Kp];rfl
def GC(t:BM):Prop:=∀n∈t.enc [],HP n
def O4{nm:List UInt8}{t:BM}:∀{f:BO},(nm,t)∈f.list->∀n∈t.enc nm,n∈f.enc
 |.nil,h,_,_=>by cases h
 |.cons a b r,h,n,hn=>by
  rw[A0,H'];rcases DN.1 h with h|h
  ·cases h;exact .inl hn
  ·exact .inr (O4 h n hn)
def Y3{a b:List UInt8}(h:∀n∈t.enc a,HP n)(hb:b.length<=1000000):∀n∈t.enc b,HP n:=by
 cases t with
 |mk k s g e BL =>
  rw[A6]at h⊢;intro n hn;rcases DN.1 hn with rfl|hn
  ·have:=h _ DQ;exact⟨this.s,hb,this.e0,this.e1⟩
  ·exact h n (EW _ hn)
def Mg{k:Int}(h:GC (.mk k s g e BL))(hp:p∈BL.list):p.1.length<=1000000/\GC p.2:=by
 obtain⟨nm,t⟩:=p;have h1:∀n∈t.enc nm,HP n:=fun n hn=>h n (by rw[A6];exact EW _ (O4 hp n hn))
 refine⟨?_,Y3 h1 sm⟩;cases t with
 |mk k s g e BL =>
  exact(h1 _ (by rw[A6];exact DQ)).name
def ô{x:CD}(h:GC t)(hi:KS t x=.ok w):GC w:=by
 cases t with
 |mk k s g e BL =>
  obtain⟨p,h1,rfl⟩:=Jd5 hi;exact(Mg h h1).2
def S7(l:List (List UInt8×BM))(n:Nat)(y:BM):(A4 l).set n [.sl (BP (y.enc []))]=A4 (l.set n ([],y)):=by simp[A4,fH]
def Pm:(A1 (Ge (l.set i ([],y)))).enc.length<=(A1 l).enc.length+(y.enc []).length:=by
 induction l generalizing i with
 |nil=>simp[Ge,A1,Bl]
 |cons p l ih =>
  have hl:∀l:List KT,(A1 (Ge l)).enc.length=(A1 l).enc.length:=by
   intro l
   induction l with
   |nil=>rfl
   |cons q l ih =>
    unfold Ge at ih⊢;simp only[Fc,A1,A0,DC,ih,G7 _ q.1]
  cases i with
  |zero =>
   rw[hl];simp only[List.set_cons_zero,A1,A0,DC];omega
  |succ i =>
   have:=ih (i:=i);rw[hl]at this⊢;simp only[List.set_cons_succ,A1,A0,DC];omega
def Jkz{x:CD}(hp:x.part=true):MR (.mk 5 s g e BL) x y=.mk 5 [] false 0 (A1 (Ge (BL.list.set x.n.toNat ([],y)))):=by
 show(if x.part=true then nd 5 _ else _)=_;rw[AB hp];rfl
def Jkb{x:CD}(hp:x.part=false):MR (.mk 6 s g e BL) x y=.mk 6 [] false 0 (A1 (EV x.name y (A8 x.name BL.list))):=by
 show(if x.part=true then _ else nd 6 _)=_;rw[AA (by simp[hp])];rfl
def Jei(t u:BM):CA cx 67 [.p (.sl (Bb [])),.p (.sl (BP (t.enc []))),.p (.sl (BP (u.enc [])))] [] (BV (GL [] t u)) []:=by
 have PZ:Bb []=[]:=rfl;(refine CK func67 ?_;simp only[go_sem,simprocAttr,PZ]);rfl
def Hu{p:List CD}{u:BM}{e:Nat}(h:GL p t u=.error e):e=5\/e=6:=by
 rw[Km]at h
 induction p generalizing t with
 |nil=>cases h
 |cons x p ih =>
  rw[JX]at h;cases hi:KS t x with
  |error e'=>rw[hi]at h;cases h;exact M2 hi
  |ok w=>rw[hi]at h;exact ih h
def L8:∀(p:List CD) (t u:BM),p.length<=1000->(∀x∈p,Bc x)->EZ t->EZ u->(t.enc []).length+(u.enc []).length<=300000000000->CA cx 67 [.p (.sl (Bb p)),.p (.sl (BP (t.enc []))),.p (.sl (BP (u.enc [])))] [] (BV (GL p t u)) []
 |[],t,u,hp,GZ,ht,hu,hs=>Jei t u
 |x::p,t,u,hp,GZ,ht,hu,hs=>by
  have hx:=GZ x DQ;have D':Bb (x::p)=[.bool x.part,.str x.name,.int .i64 x.n]::Bb p:=rfl;have FI:((((Bb p).length+1:Nat):Int)=0)=False:=AD omg;have FU:=tX t x omg hx;simp only[DH]at hp;cases hi:KS t x with
  |error e =>
   rw[hi]at FU;unfold BV at FU;have he:=M2 hi;have c1:((e:Int)=0)=False:=AD omg;have F':=c1;have c2:=c1;have c3:=c1;have l1:=c1;have l2:=c1;have HK:=c1;have XD:=c1;(refine CK func67 ?_;simp only[go_sem,simprocAttr,D',FI]);(repeat'(first|((refine BU FU ?_);simp only[go_sem,simprocAttr,c1])|fail));rw[GL,hi];rfl
  |ok w =>
   rw[hi]at FU;unfold BV at FU;have DO:=Q7 hi;have hw:=Jv ht hi;have ih:=L8 p w u omg (fun y hy=>GZ y (EW _ hy)) (Ig ht hw) hu omg;cases hz:GL p w u with
   |error e =>
    rw[hz]at ih;unfold BV at ih;have he:=Hu hz;have c1:((e:Int)=0)=False:=AD omg;have F':=c1;have c2:=c1;have c3:=c1;have l1:=c1;have l2:=c1;have HK:=c1;have XD:=c1;(refine CK func67 ?_;simp only[go_sem,simprocAttr,D',FI]);(repeat'(first|refine CI FU ?_|fail));refine⟨by intro z hz';rcases DN.1 hz' with rfl|hz';(· rfl);exact Bp _ z hz',omg,?_⟩;(repeat'(first|((refine BU ih ?_);simp only[go_sem,simprocAttr,c1])|fail));rw[GL,hi];simp only;rw[hz];rfl
   |ok y =>
    rw[hz]at ih;unfold BV at ih;have dG:=(Kg (Ig ht hw) hu hz)
    obtain⟨_,_,_,_,_,_,dG⟩:=dG;have c1:=D';have P':GL (x::p) t u=.ok (MR t x y):=by rw[GL,hi];simp only;rw[hz]
    rw[P'];cases t with
    |mk k s g e BL =>
    have YD:BL.enc.length<=300000000000:=by rw[A6]at hs;simp at hs;omega
    have GB:=KE BL;have DV:=LU BL;cases HK:x.part with
    |true =>
     obtain⟨l,h5,_,hn,hg⟩|⟨_,_,h6,_,_⟩:=hw
     rotate_left
     ·rw[HK]at h6;cases h6
     unfold nd at h5;injection h5 with q1 q2 q3 q4 q5
     subst q1;have HE:BL.list=l:=by rw[q5,Ea]
     unfold Bc at hx;rw[AB HK]at hx;obtain⟨m,XD⟩:∃m:Nat,x.n=m:=⟨x.n.toNat,omg⟩
     rw[Jkz HK,XD];simp only[Int.toNat_natCast];have HW:m<BL.len:=by
      have:=(DX.1 hg).1;rw[XD]at this;simp only[Int.toNat_natCast]at this;rw[<-DV,HE];exact this
     obtain⟨q,hq⟩:∃q,BL.list[m]?=some q:=⟨_,C' omg⟩
     have c2:=Hx hq;have c3:(A4 BL.list).length=BL.len:=by rw[A5,DV]
     have F':=S7 BL.list m y;have l1:(A4 (BL.list.set m ([],y))).take BL.len=A4 (BL.list.set m ([],y)):=DK (by rw[A5,nR];omega);have l2:(BL.len<=(A4 (BL.list.set m ([],y))).length)=True:=AE (by rw[A5,nR];omega);have bW:=Pm (l:=BL.list) (i:=m) (y:=y);rw[G1]at bW;have hL:=Ke4 (BL.list.set m ([],y)) omg;have hP:=Ñ [] 5 s g e BL omg;rw[HK,XD]at FU;(refine CK func67 ?_;simp only[go_sem,simprocAttr,D',FI,HK,XD]);(repeat'(first|refine CI FU ?_|fail));refine⟨by intro z hz';rcases DN.1 hz' with rfl|hz';(· rfl);exact Bp _ z hz',omg,?_⟩;(repeat'(first|refine EA ?_|((first|refine BU ih ?_|refine BU hP ?_|refine BU hL ?_);simp only[go_sem,simprocAttr,c2,F',l1,l2])|fail))
     all_goals rfl
    |false =>
     obtain⟨_,_,h5,_,_⟩|⟨l,h6,_,hr,hg⟩:=hw
     ·rw[HK]at h5;cases h5
     unfold nd at h6;injection h6 with q1 q2 q3 q4 q5
     subst q1;have HE:BL.list=l:=by rw[q5,Ea]
     rw[Jkb HK];rw[HK]at FU;have hW:=Ker [] s g e BL x.name y omg omg (by rw[HE];exact hr.kept _);have c2:=D';have c3:=D';have F':=D';have l1:=D';have l2:=D';have XD:=D';(refine CK func67 ?_;simp only[go_sem,simprocAttr,D',FI,HK]);(repeat'(first|refine CI FU ?_|fail));refine⟨by intro z hz';rcases DN.1 hz' with rfl|hz';(· rfl);exact Bp _ z hz',omg,?_⟩;(repeat'(first|(first|refine CI ih ?_|refine CI hW ?_)|fail))
     all_goals rfl
def Us(t u:BM):CA cx 75 [.p (.sl (Bb [])),.p (.sl (BP (t.enc []))),.p (.sl (BP (u.enc [])))] [] (BV (GL [] t u)) []:=by
 have PZ:Bb []=[]:=rfl;(refine CK func75 ?_;simp only[go_sem,simprocAttr,PZ]);rfl
def Tk:∀(p:List CD) (t u:BM),p.length<=1000->(∀x∈p,Bc x)->EZ t->GC t->EZ u->(t.enc []).length+(u.enc []).length<=300000000000->CA cx 75 [.p (.sl (Bb p)),.p (.sl (BP (t.enc []))),.p (.sl (BP (u.enc [])))] [] (BV (GL p t u)) []
 |[],t,u,hp,GZ,ht,US,hu,hs=>Us t u
 |x::p,t,u,hp,GZ,ht,US,hu,hs=>by
  have hx:=GZ x DQ;have D':Bb (x::p)=[.bool x.part,.str x.name,.int .i64 x.n]::Bb p:=rfl;have FI:((((Bb p).length+1:Nat):Int)=0)=False:=AD omg;have FU:=P2 t x omg hx;simp only[DH]at hp;cases hi:KS t x with
  |error e =>
   rw[hi]at FU;unfold BV at FU;have he:=M2 hi;have c1:((e:Int)=0)=False:=AD omg;have F':=c1;have c2:=c1;have c3:=c1;have l1:=c1;have l2:=c1;have HK:=c1;have XD:=c1;(refine CK func75 ?_;simp only[go_sem,simprocAttr,D',FI]);(repeat'(first|((refine BU FU ?_);simp only[go_sem,simprocAttr,c1])|fail));rw[GL,hi];rfl
  |ok w =>
   rw[hi]at FU;unfold BV at FU;have DO:=Q7 hi;have hw:=Jv ht hi;have ih:=Tk p w u omg (fun y hy=>GZ y (EW _ hy)) (Ig ht hw) (ô US hi) hu omg;cases hz:GL p w u with
   |error e =>
    rw[hz]at ih;unfold BV at ih;have he:=Hu hz;have c1:((e:Int)=0)=False:=AD omg;have F':=c1;have c2:=c1;have c3:=c1;have l1:=c1;have l2:=c1;have HK:=c1;have XD:=c1;(refine CK func75 ?_;simp only[go_sem,simprocAttr,D',FI]);(repeat'(first|refine CI FU ?_|fail));refine⟨by intro z hz';rcases DN.1 hz' with rfl|hz';(· rfl);exact Bp _ z hz',omg,?_⟩;(repeat'(first|((refine BU ih ?_);simp only[go_sem,simprocAttr,c1])|fail));rw[GL,hi];simp only;rw[hz];rfl
   |ok y =>
    rw[hz]at ih;unfold BV at ih;have dG:=(Kg (Ig ht hw) hu hz)
    obtain⟨_,_,_,_,_,_,dG⟩:=dG;have c1:=D';have P':GL (x::p) t u=.ok (MR t x y):=by rw[GL,hi];simp only;rw[hz]
    rw[P'];cases t with
    |mk k s g e BL =>
    have YD:BL.enc.length<=300000000000:=by rw[A6]at hs;simp at hs;omega
    have GB:=KE BL;have DV:=LU BL;cases HK:x.part with
    |true =>
     obtain⟨l,h5,_,hn,hg⟩|⟨_,_,h6,_,_⟩:=hw
     rotate_left
     ·rw[HK]at h6;cases h6
     unfold nd at h5;injection h5 with q1 q2 q3 q4 q5
     subst q1;have HE:BL.list=l:=by rw[q5,Ea]
     unfold Bc at hx;rw[AB HK]at hx;obtain⟨m,XD⟩:∃m:Nat,x.n=m:=⟨x.n.toNat,omg⟩
     rw[Jkz HK,XD];simp only[Int.toNat_natCast];have HW:m<BL.len:=by
      have:=(DX.1 hg).1;rw[XD]at this;simp only[Int.toNat_natCast]at this;rw[<-DV,HE];exact this
     obtain⟨q,hq⟩:∃q,BL.list[m]?=some q:=⟨_,C' omg⟩
     have c2:=Hx hq;have c3:(A4 BL.list).length=BL.len:=by rw[A5,DV]
     have F':=S7 BL.list m y;have l1:(A4 (BL.list.set m ([],y))).take BL.len=A4 (BL.list.set m ([],y)):=DK (by rw[A5,nR];omega);have l2:(BL.len<=(A4 (BL.list.set m ([],y))).length)=True:=AE (by rw[A5,nR];omega);have bW:=Pm (l:=BL.list) (i:=m) (y:=y);rw[G1]at bW;have hL:=Tt (BL.list.set m ([],y)) omg;have hP:=Qx [] 5 s g e BL omg;rw[HK,XD]at FU;(refine CK func75 ?_;simp only[go_sem,simprocAttr,D',FI,HK,XD]);(repeat'(first|refine CI FU ?_|fail));refine⟨by intro z hz';rcases DN.1 hz' with rfl|hz';(· rfl);exact Bp _ z hz',omg,?_⟩;(repeat'(first|refine EA ?_|((first|refine BU ih ?_|refine BU hP ?_|refine BU hL ?_);simp only[go_sem,simprocAttr,c2,F',l1,l2])|fail))
     all_goals rfl
    |false =>
     obtain⟨_,_,h5,_,_⟩|⟨l,h6,_,hr,hg⟩:=hw
     ·rw[HK]at h5;cases h5
     unfold nd at h6;injection h6 with q1 q2 q3 q4 q5
     subst q1;have HE:BL.list=l:=by rw[q5,Ea]
     rw[Jkb HK];rw[HK]at FU;have hkO:=(Lu.1 ht).2.1;have hxo:x.name.length<=1000000:=by
      obtain⟨z,Q',ZW⟩:=Qq hg;rw[<-ZW,<-HE]at *
      rw[<-HE]at Q';exact(Mg US Q').1
     have pV:valid x.name=true:=by
      unfold Bc at hx;rw[AA (by simp[HK])]at hx;exact hx.2
     have hW:=Tl [] s g e BL x.name y omg omg (by rw[HE];exact hr.kept _) (fun z hz=>(Mg US hz).1) hkO.2.1 hxo pV;have c2:=D';have c3:=D';have F':=D';have l1:=D';have l2:=D';have XD:=D';(refine CK func75 ?_;simp only[go_sem,simprocAttr,D',FI,HK]);(repeat'(first|refine CI FU ?_|fail));refine⟨by intro z hz';rcases DN.1 hz' with rfl|hz';(· rfl);exact Bp _ z hz',omg,?_⟩;(repeat'(first|(first|refine CI ih ?_|refine CI hW ?_)|fail))
     all_goals rfl
def Ww(h1:m<=s.length)(h2:∀j,j<m->H3 s j)(h3:m<s.length->¬H3 s m):Dm s=m:=by
 have DO:=P3 s;rcases nP (Dm s) m with h|h|h
 ·exact absurd (h2 _ h) (ç omg)
 ·exact h
 ·exact absurd (Sh h) (h3 omg)
def Xk:∀(k m:Nat),m<10^(k+1)->(Lib.decDigits m).length<=k+1
 |0,m,h=>by
  rw[Fv,AB (by simpa using h)];simp
 |k+1,m,h=>by
  rw[Fv];split
  ·simp
  ·have:=Xk k (m/10) (by rw[Nat.pow_succ]at h;omega);rw[DC];simp;omega
def J67:∀{s:List UInt8},(∀c∈s,c.toNat<128)->valid s=true:=by
 intro s h;refine Jb.2 ⟨s.map fun c=>(c.toNat:Int),?_,?_⟩
 ·intro r hr;obtain⟨c,hc,rfl⟩:=FB.1 hr;have:=h c hc;unfold Cy;omega
 ·induction s with
  |nil=>rfl
  |cons c s ih =>
   rw[Fc,Ki,<-ih fun d hd=>h d (EW _ hd)];have hc:=h c DQ;have:FG (c.toNat:Int)=[c]:=by
    unfold FG;rw[Nb ⟨omg,omg⟩];have e:((c.toNat:Int)%256).toNat=c.toNat:=omg;simp[GN,e]
   rw[this];rfl
def J7z{j:Nat}(h:H3 s j):BS s j<128:=by
 unfold H3 PJ PK at h;omega
def J3d(h:(Bw s).2≠0):Bc (Bw s).1/\(Bw s).1.part=false/\s.take (Bw s).2=Bv (Bw s).1/\(Bw s).2<=s.length:=by
 have DO:=Þ s;unfold Bw at h⊢;split at h
 case isFalse=>exact absurd rfl h
 rename_i xq;rw[AB xq];obtain⟨r,rfl⟩:∃r,s=46::r:=by
  cases s with
  |nil=>simp at xq
  |cons c r=>simp at xq;exact⟨r,by rw[xq]⟩
 simp only[cg,OB]at h⊢;have ny:=P3 r;split at h
 ·rename_i hw;rw[AB hw];have á:JW (r.take (Dm r)):=by
   refine⟨fun e=>?_,Ww (CS _) (fun j hj=>?_) (fun h=>absurd h (Nat.lt_irrefl _))⟩
   ·have:=congrArg List.length e;rw[GF,KM]at this;omega
   ·simp at hj;have:=Sh (s:=r) (j:=j) omg;unfold H3 at this⊢;rw[Kav omg];exact this
  refine⟨?_,rfl,?_,by simp;omega⟩
  ·unfold Bc;rw[AA sm];refine⟨rfl,J67 fun c hc=>?_⟩;obtain⟨j,hj,rfl⟩:=PN hc;simp at hj;have:=J7z (Sh (s:=r) (j:=j) omg);rw[Ql omg]at this;simpa using this
  ·unfold Bv;rw[AA sm,AB á,XQ]
 ·rename_i hw;rw[AA hw];split at h
  ·exact absurd rfl h
  ·rename_i hc;rw[AA hc];simp only[not_or,ne_eq,JK]at hc;obtain⟨c1,c2,c3⟩:=hc;have hg:=Jni c1;refine⟨?_,rfl,?_,by simp;omega⟩
   ·unfold Bc;rw[AA sm];exact⟨rfl,hg.1⟩
   ·unfold Bv;rw[AA sm,AA c2,XQ,c3]
def Kfe{r:List UInt8}(h0:HA 7 r≠[])(h1:¬(BS r 0=48/\1<(HA 7 r).length)):r.take (HA 7 r).length=HA 7 r/\Lib.decDigits (HT (HA 7 r))=HA 7 r:=by
 have hp:=ã 7 r;have GI:=â 7 r;generalize HA 7 r=t at *
 have BZ:0<t.length:=VN.2 h0;have dr:BS t 0=BS r 0:=by
  rw[hp];simp only[BS,GU];rw[oY omg]
 exact⟨hp.symm,(Sa (t.length-1) t omg GI (by rw[dr];omega)).1⟩
def J4q(h:(Ce s).2≠0):Bc (Ce s).1/\(Ce s).1.part=true/\s.take (Ce s).2=Bv (Ce s).1/\(Ce s).2<=s.length:=by
 have DO:=Zo s;have tT:s.take 1=[91]:=by
  unfold Ce at h;split at h
  ·rename_i hc;exact hc.1
  ·exact absurd rfl h
 obtain⟨r,rfl⟩:∃r,s=91::r:=by
  cases s with
  |nil=>simp at tT
  |cons c r=>simp at tT;exact⟨r,by rw[tT]⟩
 obtain⟨g1,g2,g3,g4⟩:=å h;have hf:=Jle g1 g2 g3 g4;have CY:=xg 7 r;rw[hf];rw[hf]at DO;refine⟨?_,rfl,?_,DO⟩
 ·unfold Bc;rw[AB rfl];exact⟨rfl,by simp only;omega,by simp only;omega⟩
 ·unfold Bv;rw[AB rfl];simp only[Lib.itoa_nonneg];obtain⟨hq,lY⟩:=Kfe g1 g2;rw[lY,XQ];congr 1;rw[NA,hq,g4];rfl
def J84(hi:0<i)(h:(Ee s i).2≠0):Bc (Ee s i).1/\(s.drop i).take (Ee s i).2=Bv (Ee s i).1:=by
 unfold Ee at h⊢;split at h
 ·rename_i hf;rw[AB hf];have:=J3d hf;exact⟨this.1,this.2.2.1⟩
 ·rename_i hf;rw[AA hf,AA omg];rw[AA omg]at h;have:=J4q h;exact⟨this.1,this.2.2.1⟩
def J17:∀(f:Nat) (s:List UInt8) (i:Nat) (p:List CD),0<i->i<=s.length->p.length<=20->∃q,(Fl s f i p).1=p++q/\(∀x∈q,Bc x)/\(Fl s f i p).1.length<=20/\s.drop i=Br q++s.drop (Fl s f i p).2/\(Fl s f i p).2<=s.length
 |0,s,i,p,_,hi,hp=>⟨[],by simp[Fl],by simp,by simpa[Fl]using hp,by simp[Fl,Br],by simpa[Fl]using hi⟩
 |f+1,s,i,p,h0,hi,hp=>by
  rw[Fl];split
  ·rename_i hc;obtain⟨c1,c2,c3⟩:=hc;obtain⟨g1,g2⟩:=J84 h0 c3;have DO:=xe hi;obtain⟨q,k1,k2,k3,k4,k5⟩:=J17 f s (i+(Ee s i).2) (p++[(Ee s i).1]) omg DO (by simp;omega);refine⟨(Ee s i).1::q,by rw[k1];simp,fun x hx=>?_,k3,?_,k5⟩
   ·rcases DN.1 hx with rfl|hx
    ·exact g1
    ·exact k2 x hx
   ·have e:Br ((Ee s i).1::q)=Bv (Ee s i).1++Br q:=rfl;rw[e,<-g2,KJ,<-k4,<-JO,PO]
  ·exact⟨[],by simp,by simp,hp,by simp[Br],hi⟩
def Kcs(h:(Je s).2.2=0):(Je s).2.1=0/\E9 (Je s).1/\Hy (Je s).1=s:=by
 unfold Je at h⊢;by_cases h1:s=[46]
 ·rw[AB h1];exact⟨rfl,⟨by simp,by simp⟩,by rw[h1];rfl⟩
 ·rw[AA h1]at h⊢;split at h
  ·cases h
  ·rename_i hc;rw[AA hc];simp only[not_or,Nat.not_lt]at hc;obtain⟨c1,c2⟩:=hc;refine⟨rfl,?_⟩;simp only;unfold Mp at c1 c2⊢;rw[Fl]at c1 c2⊢;split at c2
   ·rename_i hd;rw[AB hd]at c1⊢;obtain⟨d1,_,d3⟩:=hd;have DO:=xe (s:=s) (i:=0) (EK _);obtain⟨q,k1,k2,k3,k4,k5⟩:=J17 s.length s (0+(Ee s 0).2) ([]++[(Ee s 0).1]) omg DO sm;have Um:(Fl s s.length (0+(Ee s 0).2) ([]++[(Ee s 0).1])).2=s.length:=omg;rw[Um,nQ,ID]at k4;rw[k1]at k3⊢;simp only[List.nil_append,PQ,MF]at *
    unfold Ee at d3 k4 k3⊢;simp only[OB]at d3 k4 k3⊢;by_cases hf:(Bw s).2≠0
    ·rw[AB hf]at k4 k3⊢;obtain⟨f1,f2,f3,_⟩:=J3d hf;refine⟨⟨k3,fun x hx=>?_⟩,?_⟩
     ·rcases DN.1 hx with rfl|hx
      ·exact f1
      ·exact k2 x hx
     ·unfold Hy;simp only;rw[AA (by rw[f2];simp)];have e:Br ((Bw s).1::q)=Bv (Bw s).1++Br q:=rfl;rw[e,<-f3,<-k4,PO]
    ·rw[AA hf,AB trivial]at d3 k4 k3⊢;split at d3
     ·rename_i hp;rw[AB hp]at k4 k3⊢;obtain⟨p1,p2⟩:=hp;obtain⟨f1,f2,f3,_⟩:=J4q p2;obtain⟨r,rfl⟩:∃r,s=46::r:=by
       cases s with
       |nil=>simp at p1
       |cons c r=>simp at p1;exact⟨r,by rw[p1]⟩
      simp only[cg,OB]at *
      refine⟨⟨k3,fun x hx=>?_⟩,?_⟩
      ·rcases DN.1 hx with rfl|hx
       ·exact f1
       ·exact k2 x hx
      ·unfold Hy;simp only;rw[AB f2];have e:Br ((Ce r).1::q)=Bv (Ce r).1++Br q:=rfl;rw[e,<-f3,<-k4,PO]
     ·exact absurd rfl d3
   ·simp at c2
def Kbm(h:(Je s).2.2≠0):(Je s).2.2=1/\(Je s).1=[]/\(Je s).2.1<=s.length:=by
 unfold Je at h⊢;by_cases h1:s=[46]
 ·rw[AB h1]at h;exact absurd rfl h
 ·rw[AA h1]at h⊢;split at h
  ·rename_i hc;rw[AB hc];refine⟨rfl,rfl,?_⟩;have key:∀(f i:Nat) (p:List CD),i<=s.length->(Fl s f i p).2<=s.length:=by
    intro f
    induction f with
    |zero=>intro i p hi;exact hi
    |succ f ih =>
     intro i p hi;rw[Fl];split
     ·exact ih _ _ (xe hi)
     ·exact hi
   exact key _ _ _ (EK _)
  ·exact absurd rfl h
def Ih(v:List Node):Bool:=v.all fun n=>decide (n.s.length<=200)&&decide (n.name.length<=200)
noncomputable def TO (v:List Node) (m:Nat):Bool:=decide (v.length<=m)&&(Ih v&&Jw v)
structure eC (n:Node):Prop where
 s:n.s.length<=9223372036854775807
 name:n.name.length<=9223372036854775807
 e0:-9223372036854775808<=n.e
 e1:n.e<=9223372036854775807
def Jbf{v:List Node}{n:Node}(h:v[i]?=some n):Ih (v.take (i+1))=(Ih (v.take i)&&(decide (n.s.length<=200)&&decide (n.name.length<=200))):=by
 unfold Ih;rw[NA,h,List.all_append];simp
def Y1{v:List Node}{n:Node}(h:v[i]?=some n)(hn:¬(n.s.length<=200/\n.name.length<=200)):Ih v=false:=by
 unfold Ih;rw[List.all_eq_false];exact⟨n,D4 h,by simpa using hn⟩
def Ln(v:List Node)(m:Nat)(II:m<=1000)(hv:v.length<=9223372036854775807)(hf:∀n∈v,eC n):CA cx 27 [.p (.sl (BP v)),.p (.int .i64 m)] [] (.p (.bool (TO v m))) []:=by
 by_cases hl:v.length<=m
 ·have c0:((m:Int)<(v.length:Int))=False:=AD omg;(refine CK func27 ?_;simp only[go_sem,simprocAttr,A7,c0]);refine CL.loop (fun i:Nat=>⟨Ba 34 [(0,.p (.sl (BP v))),(1,.p (.int .i64 m)),(5,.p (.int .i64 i))],[]⟩) (fun i=>i<=v.length/\Ih (v.take i)=true) (fun i=>v.length-i) 0 CH ⟨EK _,rfl⟩ ?_;rintro i ⟨h1,h2⟩;by_cases hi:¬i<v.length
  ·have c1:((i:Int)<(v.length:Int))=False:=AD omg;rw[DK omg]at h2;have EU:∀n∈v,HP n:=fun n hn=>by
    have h3:=h2;unfold Ih at h3;have:=SQ.1 h3 n hn;simp only[OS,AF]at this;exact⟨omg,omg,(hf n hn).e0,(hf n hn).e1⟩
   have hg:=c1;have w1:=c1;(refine CC ?_;simp only[go_sem,simprocAttr,A7,c1]);(repeat'(first|refine CI (Jp v omg EU) ?_|fail));unfold TO;rw[AG hl,h2];simp
  ·have hi:=JK.1 hi;have c1:((i:Int)<(v.length:Int))=True:=AE omg;obtain⟨n,hn⟩:∃n,v[i]?=some n:=⟨_,C' hi⟩
   have hg:=U5 hn;have w1:=DM (i:=i) omg;have Ui:=hf n (D4 hn);have vv:=Ui.s;have tL:=Ui.name;(refine CC ?_;simp only[go_sem,simprocAttr,A7,c1,hg,w1]);(repeat'(apply BY<;>intro h))
   all_goals first
    |(
     refine⟨i+1,⟨omg,?_⟩,omg,CH⟩;rw[Jbf hn,h2];simp;omega)
    |(
     unfold TO;rw[Y1 hn omg];simp)
 ·have c0:((m:Int)<(v.length:Int))=True:=AE omg;have c1:=c0;have hg:=c0;have w1:=c0;(refine CK func27 ?_;simp only[go_sem,simprocAttr,A7,c0]);unfold TO;rw[AH hl];simp
def Jnl{v:List Node}:TO v m=true↔v.length<=m/\(∀n∈v,n.s.length<=200/\n.name.length<=200)/\∃t,EZ t/\v=t.enc []:=by
 unfold TO Ih;rw[OS,OS,AF,Iq,SQ];simp only[OS,AF];rfl
def ZN:BM:=.mk 2 [] false 0 .nil
def õ:BM:=.mk 5 [] false 0 (.cons [] ZN (.cons [] ZN .nil))
def tObj:BM:=.mk 6 [] false 0 (.cons [97] õ .nil)
def tl:BM:=.mk 6 [] false 0 (.cons [97] ZN .nil)
def tm(k m:Int)(nm:List UInt8):List PV:=[.int .i64 k,.int .i64 m,.str nm,.str [],.bool false,.int .i64 0]
def vOne:BP (ZN.enc [])=[tm 2 0 []]:=by simp[ZN,A6,Bl,BP,Node.cells,tm,BO.len]
def vSet:BP (tl.enc [])=[tm 6 1 [],tm 2 0 [97]]:=by simp[tl,ZN,A6,A0,Bl,BP,Node.cells,tm,BO.len]
def pA:List CD:=[⟨false,[97],0⟩,⟨true,[],0⟩,⟨false,[98,32,99],0⟩]
structure QE (v:List Node):Prop where
 len:v.length<=140737488355328
 node:∀n∈v,eC n
def Fw{v:List Node}(hv:QE v)(h:TO v m=true):∃t,EZ t/\v=t.enc []/\(t.enc []).length<=m/\GC t:=by
 obtain⟨h1,h2,t,h3,rfl⟩:=Jnl.1 h;exact⟨t,h3,rfl,h1,fun n hn=>⟨by have:=(h2 n hn).1;omega,by have:=(h2 n hn).2;omega,(hv.node n hn).e0,(hv.node n hn).e1⟩⟩
def Jz:CA cx 14 [.p .snil,.p .snil] [] (.p (.bool true)) []:=by
 (refine CB func14 ?_);refine CL.loop (fun _:Nat=>⟨Ba 26 [(0,.p (.sl [])),(1,.p (.sl [])),(5,.p (.int .i64 0))],[]⟩) (fun _=>True) (fun _=>0) 0 CH trivial ?_;intro i _;(refine CC ?_;simp only[go_sem,simprocAttr])
 skip
end Go.LX
namespace Go.LX
open Go Go.Proofs Go.Proofs.Tryz Go.RowKit Go.ChangeShapes Go.WideShapes Go.ChangeAt
section
variable {H:Type} {enc:TypeId×Value->H} {P:Program}
def Kz(hl:laidOutB P=true){W W':World}{sp:Nat->Bool}:∀(ts:List TypeId) (vs:List Value) (ds:List (DataW H)) (ps:List MemPlace),(∀t∈ts,P.readableRec t=true/\t<P.types.size) ->
  DataW.TrodAll enc P W 0 (fun _=>true) true ts vs ds ps->(∀p∈ps,W.sameAt W' p)->(∀p∈ps,sp p.block=true)->DataW.TrodAll enc P W' 0 sp true ts vs ds ps
 |[],vs,ds,ps,_,h,_,_=>by
  obtain⟨rfl,rfl,rfl⟩:=trodAll_nil h;exact trodAll_mk0
 |t::ts,vs,ds,ps,hr,h,hs,hb=>by
  obtain⟨v,vs',d,ds',p,q,rfl,rfl,rfl,h0,h1⟩:=trodAll_cons h;have ht:=hr t DQ;exact trodAll_cons_mk (WideElems.Trod_stays hl ht.1 ht.2 h0 (fun x hx=>hs x (aL _ hx)) fun x hx=>hb x (aL _ hx))
   (Kz hl ts vs' ds' q (fun u hu=>hr u (EW _ hu)) h1 (fun x hx=>hs x (cf _ hx)) fun x hx=>hb x (cf _ hx))
def M7(hl:laidOutB P=true){f:Func}{s:ChangeSpec}{b:TypeId}{W W':World}{args:Array Value}{ds gs:List (DataW H)}{XE:List MemPlace}(hv:s.vars=[])(hrd:∀t∈f.params.toList,P.readableRec t=true/\t<P.types.size)(hrt:f.resultTypes = #[b])(hb:P.underlying b=some .bool)(hW:DataW.Whole enc P f.params.toList s.vars false W args.toList ds gs XE)(Ui:s.fn H ds = { results:=[.lit (.bool true)],args:=ds })(tq:Below W.heap.size W W') :
  s.post enc P f false true false false W args (.bool true) W':=by
 have xr:=hW;have BZ:∀p∈XE,p.block<W.heap.size:=fun p hp=>xr.lt p hp
 obtain⟨p,q,hA,hV,rfl,vr,pU⟩:=hW;rw[hv]at hV;obtain⟨rfl,rfl⟩:=trodVars_none hV;simp only[ID]at BZ;refine⟨ds,[],p++[],[],p,[],xr,?_,?_,?_,tq.frame _,fun h=>by cases h⟩
 ·rw[ID,Ui,hrt];exact trodAll_mk1 (shut_bool hb _)
 ·rw[ID,Ui];exact Kz hl _ _ _ _ hrd hA (fun x hx=>tq.same (BZ x hx)) fun x hx=>by simpa using BZ x hx
 ·rw[ID,Ui,hv];rfl
end
end Go.LX
namespace Go.LX
open Go Go.Proofs Go.Proofs.Tryz Go.RowKit Go.ChangeShapes Go.WideShapes Go.ChangeAt Go.Lib
variable {P:Program}{w:World}{c fuel b:Nat}{cs:List Value}{v:Value}
def Ja(W:World)(b:Nat):Prop:=b<W.heap.size
def Jkw{α:Type}{Q:Nat->α->Prop}:∀n,(∀i,i<n->∃x,Q i x)->∃p:List α,p.length=n/\∀i x,p[i]?=some x->Q i x
 |0,_=>⟨[],rfl,fun i x h=>by simp at h⟩
 |n+1,h=>by
  obtain⟨p,hp,hq⟩:=Jkw n fun i hi=>h i omg
  obtain⟨x,hx⟩:=h n omg;refine⟨p++[x],by simp[hp],fun i y hy=>?_⟩;rcases nP i n with hi|hi|hi
  ·rw[NZ omg]at hy;exact hq i y hy
  ·subst hi;rw[Mr omg,hp]at hy;simp at hy;subst hy;exact hx
  ·rw[gR (by simp[hp];omega)]at hy;cases hy
def J8{H:Type}{P:Program}{e:TypeId}{d:DataW H}{n:Nat}:∀{l:List (DataW H)},d∈l->n∈d.weights P e->n∈DataW.weightsAll P e l
 |[],h,_=>by cases h
 |a::l,h,hn=>by
  simp only[DataW.weightsAll,H'];rcases DN.1 h with rfl|h
  ·exact .inl hn
  ·exact .inr (J8 h hn)
def Jka(b By k:Nat):(⟨b,By,none⟩:Addr).add k=⟨b,By+k,none⟩:=by
 unfold Addr.add;split
 ·rename_i h;subst h;rfl
 ·rfl
def Ka1{α H:Type}{enc:TypeId×Value->H}{t e:TypeId}(FL:α->List Value)(cells:α->List PV)(Good:α->Prop)(ht:P.underlying t=some (.slice e))(hc:P.cellsOf e=c)(VQ:0<c)(hb:0<P.bytesOf e)(KZ:∀x,(FL x).length=c)(FI:∀x,(cells x).length=c)(LI:∀x,∀p∈cells x,p.scalar=true)(CT:∀x j p,Good x->(cells x)[j]?=some p->BW w (Ja w) ((FL x).getD j undef) p)(XF:∀(fuel:Nat) (cs:List Value) (y:DataW H×List MemPlace),DataW.trod enc P w 0 (fun _=>true) true fuel e cs=some y->(∀n∈y.1.weights P e,n<=reachBytes)->∃x,Good x/\cs=FL x){x:DataW H×List MemPlace}(h:DataW.trod enc P w 0 (fun _=>true) true fuel t cs=some x)(hz:∀n∈x.1.weights P t,n<=reachBytes) :
  ∃(v:Value) (p:List α),cs=[v]/\p.length*P.bytesOf e<=reachBytes/\(∀a∈p,Good a)/\BW w (Ja w) v (.sl (p.map cells)):=by
 rcases Go.Deep.open_slice ht h with⟨rfl,rfl⟩|⟨a,len,cap,m,n,D,Pl,rfl,cC,hl,hm,dE,rfl,hx⟩
 ·exact⟨_,[],rfl,by simp,by simp,BW.slNil⟩
 ·simp only[if_true]at dE;subst dE;by_cases h0:m=0
  ·subst h0;obtain rfl:len=0:=omg;exact⟨_,[],rfl,by simp,by simp,BW.slNil⟩
  obtain⟨blk,By,bX⟩:=a;obtain⟨cs0,Pp,_⟩:=hx 0 omg;have h00:=(World.cells?_some Pp).2.2 0 omg;have QR:=(World.cells?_some Pp).2.1;have CP:(w.cell? ⟨blk,By,bX⟩).isSome=true:=by
   have e1:((⟨blk,By,bX⟩:Addr).add (0*P.cellsOf e)).add 0=⟨blk,By,bX⟩:=by rw[og];rfl
   rw[e1]at h00;rw[h00,C' omg];rfl
  have ZX:bX=none:=by
   unfold World.cell? at CP;cases bX with
   |none=>rfl
   |some s=>split at CP<;>simp at CP
  subst ZX;have RA:blk<w.heap.size:=by
   rcases fI blk w.heap.size with h|h
   ·exact h
   ·unfold World.cell? at CP;simp only[Array.getElem?_eq_none h]at CP;simp at CP
  have CY:len*P.bytesOf e<=reachBytes:=by
   have h1:=hz ((len+(m-len))*P.bytesOf e) (by simp[DataW.weights,ht]);exact Nat.le_trans (M' _ (Nat.le_add_right _ _)) h1
  obtain⟨p,hp,hq⟩:=Jkw (Q:=fun i x=>Good x/\w.cells? 0 ((⟨blk,By,none⟩:Addr).add (i*c)) c=some (FL x)) len fun i hi=>by
   obtain⟨XY,h1,h2⟩:=hx i omg;rw[hc]at h1;obtain⟨x,hg,rfl⟩:=XF n XY _ h2 (fun k hk=>hz k (by
    simp only[DataW.weights,ht,DN,H'];exact .inr (.inl (J8 (FB.2 ⟨i,List.mem_range.2 hi,rfl⟩) hk))))
   exact⟨x,hg,h1⟩
  refine⟨_,p,rfl,by rw[hp];exact CY,fun a ha=>?_,?_⟩
  ·obtain⟨i,hi⟩:=WE ha;exact(hq i a hi).1
  ·have e2:len=(p.map cells).length:=by simp[hp]
   have key:=BW.sl (w:=w) (Im:=Ja w) blk By m c (p.map cells) (by rw[<-e2];exact hl) RA (fun i j=>match p[i]? with|some x=>(FL x).getD j undef|none=>undef)
    (fun r hr=>by obtain⟨x,_,rfl⟩:=FB.1 hr;exact FI x)
    (fun r hr=>by obtain⟨x,_,rfl⟩:=FB.1 hr;exact LI x)
    (fun i hi j hj=>by
     rw[<-e2]at hi;obtain⟨x,JP⟩:∃x,p[i]?=some x:=⟨_,C' omg⟩
     have h1:=(World.cells?_some (hq i x JP).2).2.2 j hj;rw[Go.Deep.add_add,Jka,<-QO]at h1;rw[h1,JP];have h3:j<(FL x).length:=by rw[KZ];exact hj
     simp[GU,C' h3])
    (fun i r j q hr FJ=>by
     rw[Eam]at hr;cases JP:p[i]? with
     |none=>rw[JP]at hr;cases hr
     |some x =>
      rw[JP]at hr;obtain rfl:=L' hr;exact CT x j q (hq i x JP).1 FJ)
   rw[<-e2]at key;exact key
def lr{α H:Type}{enc:TypeId×Value->H}{t e:TypeId}(FL:α->List Value)(cells:α->List PV)(Good:α->Prop)(ht:P.underlying t=some (.slice e))(hc:P.cellsOf e=c)(VQ:0<c)(hb:0<P.bytesOf e)(KZ:∀x,(FL x).length=c)(FI:∀x,(cells x).length=c)(LI:∀x,∀p∈cells x,p.scalar=true)(CT:∀x j p,Good x->(cells x)[j]?=some p->BW w (Ja w) ((FL x).getD j undef) p)(XF:∀(fuel:Nat) (cs:List Value) (y:DataW H×List MemPlace),DataW.trod enc P w 0 (fun _=>true) true fuel e cs=some y->(∀n∈y.1.weights P e,n<=reachBytes)->∃x,Good x/\cs=FL x){x:DataW H×List MemPlace}(h:DataW.trod enc P w 0 (fun _=>true) true fuel t cs=some x)(hz:∀n∈x.1.weights P t,n<=reachBytes) :
  ∃(v:Value) (p:List α),cs=[v]/\p.length<=140737488355328/\(∀a∈p,Good a)/\BW w (Ja w) v (.sl (p.map cells)):=by
 obtain⟨v,p,h1,h2,h3,h4⟩:=Ka1 FL cells Good ht hc VQ hb KZ FI LI CT XF h hz;have ö:reachBytes<=140737488355328:=de;have h5:p.length*1<=p.length*P.bytesOf e:=ZT _ hb;exact⟨v,p,h1,omg,h3,h4⟩
def Xx{α H:Type}{enc:TypeId×Value->H}{t e:TypeId}(FL:α->List Value)(cells:α->List PV)(Good:α->Prop)(ht:P.underlying t=some (.slice e))(hc:P.cellsOf e=c)(hb:0<P.bytesOf e)(KZ:∀x,(FL x).length=c)(FI:∀x,(cells x).length=c)(LI:∀x,∀p∈cells x,p.scalar=true)(CT:∀(Im:Nat->Prop) x j p,(cells x)[j]?=some p->BW w Im ((FL x).getD j undef) p)(XF:∀(fuel:Nat) (cs:List Value) (y:DataW H×List MemPlace),DataW.trod enc P w 0 (fun _=>true) true fuel e cs=some y->(∀n∈y.1.weights P e,n<=reachBytes)->∃x,Good x/\cs=FL x)(GZ:Cell.okWide P w .any b t v){x:DataW H×List MemPlace}(h:DataW.trod enc P w 0 (fun _=>true) true fuel t [v]=some x)(hz:∀n∈x.1.weights P t,n<=reachBytes)(VQ:0<c:=by decide) :
  ∃p:List α,p.length<=140737488355328/\(∀a∈p,Good a)/\BW w (Ja w) v (.sl (p.map cells)):=by
 obtain⟨v',p,e1,h1,h2,h3⟩:=lr FL cells Good ht hc VQ hb KZ FI LI (fun x j p _ h=>CT _ x j p h) XF h hz;cases e1;exact⟨p,h1,h2,h3⟩
def Kc8{α H:Type}{enc:TypeId×Value->H}{t e:TypeId}(FL:α->List Value)(cells:α->List PV)(Good:α->Prop)(ht:P.underlying t=some (.slice e))(hc:P.cellsOf e=c)(hb:0<P.bytesOf e)(KZ:∀x,(FL x).length=c)(FI:∀x,(cells x).length=c)(LI:∀x,∀p∈cells x,p.scalar=true)(CT:∀(Im:Nat->Prop) x j p,(cells x)[j]?=some p->BW w Im ((FL x).getD j undef) p)(XF:∀(fuel:Nat) (cs:List Value) (y:DataW H×List MemPlace),DataW.trod enc P w 0 (fun _=>true) true fuel e cs=some y->(∀n∈y.1.weights P e,n<=reachBytes)->∃x,Good x/\cs=FL x)(GZ:Cell.okWide P w .any b t v){x:DataW H×List MemPlace}(h:DataW.trod enc P w 0 (fun _=>true) true fuel t [v]=some x)(hz:∀n∈x.1.weights P t,n<=reachBytes)(VQ:0<c:=by decide) :
  ∃p:List α,p.length*P.bytesOf e<=reachBytes/\(∀a∈p,Good a)/\BW w (Ja w) v (.sl (p.map cells)):=by
 obtain⟨v',p,e1,h1,h2,h3⟩:=Ka1 FL cells Good ht hc VQ hb KZ FI LI (fun x j p _ h=>CT _ x j p h) XF h hz;cases e1;exact⟨p,h1,h2,h3⟩
end Go.LX
namespace Go.LX
open Go Go.Proofs Go.Proofs.Tryz Go.RowKit Go.ChangeShapes Go.WideShapes Go.ChangeAt Go.Lib
open Go.Proofs.YtaghbedfogiopaaGreatDoor
variable {P:Program}{w W:World}{sp:Nat->Bool}{t:TypeId}{nm n:String}{d:DataW Unit}{p:List MemPlace}{u:TypeDesc}{g b j:Nat}{H:Type}{v:Value}{ts:List TypeId}
def Mc{x:String×DataW Unit}{l:List (String×DataW Unit)}(h:laidMet P (x::l) w):laidMet P l w:=by
 obtain⟨ps,h1,h2,h3⟩:=h;obtain⟨n,d⟩:=x;obtain⟨g,t,cs,fuel,p,q,_,_,_,_,h5,rfl⟩:=h1;exact⟨q,h5,(bw.1 h2).2.1,fun b By hb=>h3 b By (cf _ hb)⟩
def Jc3(x:ByteArray):(⟨⟨x.data.toList⟩⟩:ByteArray)=x:=by rcases x with⟨⟨l⟩⟩;rfl
def T8(s:ByteArray):s.data.toList.length=s.size:=sm
def Jci{cs:List Value}(ht:P.underlying t=some u)(hu:∃m,u=.interface m) :
  ∀{fuel:Nat},DataW.trod (fun _=>()) P w 0 sp false fuel t cs=some (.iface nm d,p)->∃te pe,cs=[.iface te pe]
 |0,h=>by simp[DataW.trod]at h
 |fuel+1,h=>by
  obtain⟨m,rfl⟩:=hu;rcases cs with _|⟨c,_|⟨c2,cs⟩⟩
  ·simp[DataW.trod,ht]at h
  ·cases c<;>first|exact⟨_,_,rfl⟩|(simp[DataW.trod,ht]at h;done)
  ·simp[DataW.trod,ht]at h
def Xq(h:VarReads Tryz.prog w n (.iface nm d))(hg:Tryz.prog.globalNamed n=some g)(ht:(Tryz.prog.globals[g]?).map (·.type)=some t)(hu:Tryz.prog.underlying t=some u)(hi:∃m,u=.interface m):Ξ g w:=by
 obtain⟨g',t',cs,fuel,p,h1,h2,h3,h4⟩:=h;obtain rfl:=L' (hg.symm.trans h1);obtain rfl:=L' (ht.symm.trans h2);obtain⟨te,pe,e⟩:=Jci hu hi h4;refine⟨te,pe,?_⟩;rw[World.var?_cell hg h3 0,<-cZ,e];rfl
def ø:ownKnob Tryz.prog.godebug=none:=kr
def L2:laidOutB Tryz.prog=true:=kr
def lu:Go.Pinned.utf8First=firstData:=kr
def u8T:U8Types Tryz.prog G':=⟨by kernel_rfl,by kernel_rfl,by kernel_rfl,by kernel_rfl⟩
def u8X:U8Extra Tryz.prog G':=⟨by kernel_rfl,by kernel_rfl,by kernel_rfl,by kernel_rfl,by kernel_rfl,by kernel_rfl,by kernel_rfl⟩
def eD:List Int:=Lib.deBruijn64tab.map fun n:Nat=>(n:Int)
def Kv(h:VarReads Tryz.prog W n d)(hg:Tryz.prog.globalNamed n=some g):g<W.heap.size:=by
 obtain⟨g',t',cs,fuel,p,h1,_,h3,_⟩:=h;obtain rfl:=L' (hg.symm.trans h1);unfold World.var? at h3;rw[hg]at h3;simp only[Option.bind_some]at h3;rcases fI g W.heap.size with h|h
 ·exact h
 ·rw[Array.getElem?_eq_none h]at h3;cases h3
def Jdp(h:laidMetH Tryz.prog Rows.evalTellsRow.laid W):Is W (Ja W):=by
 have h0:laidMet Tryz.prog Rows.evalTellsRow.laid W:=h;have h1:=Mc h0;have h2:=Mc h1;have r1:VarReads Tryz.prog W "unicode/utf8.first" Rows.laid_unicode_utf8_first:=laidMet.reads h0 (by simp[Rows.evalTellsRow]);have r2:VarReads Tryz.prog W "unicode/utf8.acceptRanges" Rows.laid_unicode_utf8_acceptRanges:=laidMet.reads h0 (by simp[Rows.evalTellsRow]);have r3:VarReads Tryz.prog W "strconv.ErrSyntax" Rows.laid_strconv_ErrSyntax:=laidMet.reads h0 (by simp[Rows.evalTellsRow]);have r4:VarReads Tryz.prog W "strconv.ErrRange" Rows.laid_strconv_ErrRange:=laidMet.reads h0 (by simp[Rows.evalTellsRow]);have r5:VarReads Tryz.prog W "math/bits.deBruijn64tab" Rows.laid_math_bits_deBruijn64tab:=laidMet.reads h0 (by simp[Rows.evalTellsRow]);have r6:VarReads Tryz.prog W "internal/strconv.uint64pow10" Rows.laid_internal_strconv_uint64pow10:=laidMet.reads h0 (by simp[Rows.evalTellsRow]);refine⟨?_,?_,?_,?_,?_,Kv r1 kr,Kv r2 kr,Kv r3 kr,Kv r4 kr,Kv r5 kr,Kv r6 kr⟩
 ·have f1:VarReads Tryz.prog W "unicode/utf8.first" firstData:=by
   rw[<-lu];exact laidMet.reads h0 (by simp[Rows.evalTellsRow,Rows.laid_unicode_utf8_first])
  have f2:VarReads Tryz.prog W "unicode/utf8.acceptRanges" acceptData:=laidMet.reads h0 (by
   rw[show(acceptData:DataW Unit)=Rows.laid_unicode_utf8_acceptRanges by kernel_rfl];simp[Rows.evalTellsRow])
  exact utf8Tabs_of_readsT u8T u8X f1 f2
 ·exact Xq r3 kr kr underlying187 ⟨_,rfl⟩
 ·exact Xq r4 kr kr underlying187 ⟨_,rfl⟩
 ·have ht:TabIs Tryz.prog W "math/bits.deBruijn64tab" .u8 eD:=tabIs_of_head (g:=7) (t:=260) (e:=5) (n:=64) kr kr kr kr kr kr (k:=.u8) (zs:=eD) h1;intro j hj;have:=ht.cell (g:=7) kr j (by simpa[eD]using hj);rw[this];simp[eD,GU,hj]
 ·exact tabIs_of_head (g:=2) (t:=229) (e:=191) (n:=20) kr kr kr kr kr kr (k:=.u64) (zs:=Lib.pow10Tab) h2
def Yw(d:DataW Unit):List Value:=match d with
 |.agg l=>l.flatMap fun x=>match x with
  |.lit (.int k n)=>[Value.int k n]
  |.agg l'=>l'.flatMap fun y=>match y with
   |.lit (.int k n)=>[Value.int k n]
   |_=>[]
  |_=>[]
 |_=>[]
noncomputable def D9 (os:Os):World:=
 let N:=(World.settled Tryz.prog os).heap.size;let w0:=World.holding Tryz.prog os ⟨#[
  .cells #[.string ⟨#[118,97,108,117,101,32,111,117,116,32,111,102,32,114,97,110,103,101]⟩] 264,.cells #[.string ⟨#[105,110,118,97,108,105,100,32,115,121,110,116,97,120]⟩] 264],#[],[]⟩
 let lz (h:Array Obj) (g:Nat) (cs:Array Value):Array Obj:=h.modify g fun
  |.cells _ t frozen=>.cells cs t frozen
  |o=>o
 let h1:=lz w0.heap 6 (Yw Rows.laid_math_bits_deBruijn32tab).toArray;let h2:=lz h1 7 (Yw Rows.laid_math_bits_deBruijn64tab).toArray;let h3:=lz h2 2 (Yw Rows.laid_internal_strconv_uint64pow10).toArray;let h4:=lz h3 1 (Yw Rows.laid_unicode_utf8_acceptRanges).toArray;let h5:=lz h4 5 #[.iface 262 (.pointer (some ⟨N,0,none⟩))];let h6:=lz h5 4 #[.iface 262 (.pointer (some ⟨N+1,0,none⟩))];let h7:=lz h6 0 (Yw Rows.laid_unicode_utf8_first).toArray
 { w0 with heap:=h7 }
def Ma(os:Os)(args:Array Value):laidMet Tryz.prog Rows.evalTellsRow.laid ((D9 os).forCall (fun _ _=>0) ⟨#[],args,[]⟩).memory:=
 laidMet_of_run' 8 kr kr
def trod_string{enc:TypeId×Value->H}{base:Nat}{ù:Bool}{s:List UInt8}{d:DataW H}(ht:P.underlying t=some .string)(h:DataW.Trod enc P w base sp ù t (.string ⟨⟨s⟩⟩) d p):d=.lit (.string s):=by
 obtain⟨fuel,h⟩:=h;cases fuel with
 |zero=>simp[DataW.trod]at h
 |succ f =>
  simp only[DataW.trod,ht,Value.cells]at h;split at h
  ·simp at h;exact h.1.symm
  ·cases h
def fy:Tryz.prog.cellsOf 4=1:=kr
def tr:Tryz.prog.cellsOf 9=1:=kr
def tu:Tryz.prog.cellsOf 3=1:=kr
def ú:Tryz.prog.cellsOf 36=6:=kr
def tw:0<Tryz.prog.bytesOf 36:=by decide +kernel
def CD.vals(x:CD):List Value:=[.bool x.part,.string ⟨⟨x.name⟩⟩,.int .i64 x.n]
def Node.vals(n:Node):List Value:=[.int .i64 n.kind,.int .i64 n.many,.string ⟨⟨n.name⟩⟩,.string ⟨⟨n.s⟩⟩,.bool n.neg,.int .i64 n.e]
def Jly{enc:TypeId×Value->H}(fuel:Nat)(cs:List Value)(y:DataW H×List MemPlace)(h:DataW.trod enc Tryz.prog w 0 (fun _=>true) true fuel 36 cs=some y)(_:∀n∈y.1.weights Tryz.prog 36,n<=reachBytes) :
  ∃x:Node,eC x/\cs=x.vals:=by
 obtain⟨xs,n,_,rfl,hl,CY,hf⟩:=DataW.trod_struct underlying36 h;rw[ú]at hl
 match xs,CY,cs,hl with
 |[y0,y1,y2,y3,y4,y5],_,[a0,a1,a2,a3,a4,a5],_ =>
  have g0:=hf 0 _ rfl;have g1:=hf 1 _ rfl;have g2:=hf 2 _ rfl;have g3:=hf 3 _ rfl;have g4:=hf 4 _ rfl;have g5:=hf 5 _ rfl;simp only[fy,tr,tu,OB,cg,XQ,QN,List.getElem?_cons_zero,List.getElem?_cons_succ]at g0 g1 g2 g3 g4 g5;obtain⟨x0,e0,rfl,_⟩:=DataW.trod_int underlying3 g0;obtain⟨x1,e1,rfl,_⟩:=DataW.trod_int underlying3 g1;obtain⟨x2,e2,rfl,z2⟩:=DataW.trod_string underlying9 g2;obtain⟨x3,e3,rfl,z3⟩:=DataW.trod_string underlying9 g3;obtain⟨x4,e4,rfl⟩:=DataW.trod_bool underlying4 g4;obtain⟨x5,e5,rfl,z5⟩:=DataW.trod_int underlying3 g5;cases e0;cases e1;cases e2;cases e3;cases e4;cases e5;have hm:maxLen=9223372036854775807:=de;have k1:IntKind.i64.min = -9223372036854775808:=de;have k2:IntKind.i64.max=9223372036854775807:=de;simp only[Lit.wf,OS,AF,k1,k2]at z5;have s2:=T8 x2;have s3:=T8 x3;refine⟨⟨x0,x1,x2.data.toList,x3.data.toList,x4,x5⟩,⟨?_,?_,z5.1,z5.2⟩,?_⟩
  ·show x3.data.toList.length<=_;omega
  ·show x2.data.toList.length<=_;omega
  ·simp only[Node.vals,Jc3]
def Ji6(w:World)(Im:Nat->Prop)(x:Node)(j:Nat)(p:PV)(h:x.cells[j]?=some p):BW w Im (x.vals.getD j undef) p:=by
 match j,h with
 |0,h=>cases h;exact BW.int _ _
 |1,h=>cases h;exact BW.int _ _
 |2,h=>cases h;exact BW.str _
 |3,h=>cases h;exact BW.str _
 |4,h=>cases h;exact BW.bool _
 |5,h=>cases h;exact BW.int _ _
 |j+6,h=>simp[Node.cells]at h
def Vt{enc:TypeId×Value->H}(GZ:Cell.okWide Tryz.prog w .any b 25 v){fuel:Nat}{x:DataW H×List MemPlace}(h:DataW.trod enc Tryz.prog w 0 (fun _=>true) true fuel 25 [v]=some x)(hz:∀n∈x.1.weights Tryz.prog 25,n<=reachBytes) :
  ∃p:List Node,QE p/\BW w (Ja w) v (.sl (BP p)):=by
 obtain⟨p,h1,h2,h3⟩:=Xx Node.vals Node.cells eC underlying25 ú tw (fun _=>rfl) (fun _=>rfl) (fun x p hp=>by simp[Node.cells]at hp;rcases hp with rfl|rfl|rfl|rfl|rfl|rfl<;>rfl) (Ji6 w) Jly GZ h hz;exact⟨p,⟨h1,h2⟩,h3⟩
def Jkh{r:Reach}{e:TypeId}(ht:P.underlying t=some (.slice e))(h:Cell.okWide P W r b t v):v.cells.toList=[v]:=by
 simp only[Cell.okWide,Cell.ok,ht]at h;cases v<;>first|rfl|(simp at h;done)
def J0{ds:List (DataW H)}(hz:(DataW.weightsEach P ts ds).all (· <= reachBytes)=true){d:DataW H}(h1:ts[j]?=some t)(h2:ds[j]?=some d):∀n∈d.weights P t,n<=reachBytes:=fun n hn=>by
 simpa using SQ.1 hz n (DataW.weights_mem_each h1 h2 n hn)
def N3{enc:TypeId×Value->H}{d:DataW H}{q:List MemPlace}{ds:List (DataW H)}(GZ:Value.okWide Tryz.prog w .any b 25 v)(h:DataW.Trod enc Tryz.prog w 0 (fun _=>true) true 25 v d q)(hz:(DataW.weightsEach Tryz.prog ts ds).all (· <= reachBytes)=true)(h1:ts[j]?=some 25)(h2:ds[j]?=some d):∃p:List Node,QE p/\BW w (Ja w) v (.sl (BP p)):=by
 simp only[Value.okWide,underlying25]at GZ;obtain⟨fuel,h⟩:=h;rw[Jkh underlying25 GZ]at h;exact Vt GZ h (J0 hz h1 h2)
def Jo3:Tryz.prog.cellsOf 33=1:=kr
def J34(h:P.funcs.any Func.goes=false)(f:FuncId):P.goes f=false:=by
 unfold Program.goes;rw[h,Bool.and_false,Bool.or_false,List.any_eq_false];intro g _ hg;cases hf:P.funcs[g]? with
 |none=>rw[hf]at hg;cases hg
 |some fn =>
  rw[hf]at hg;rw[Array.any_eq_false]at h;obtain⟨i,rfl⟩:=Rw.1 hf;exact h g i hg
def goesBy_none(h:P.funcs.any Func.goes=false)(c:OpenClaim):false=c.goesBy P:=by
 unfold OpenClaim.goesBy Program.goesAt Program.goesFrom;have h1:(P.funcNamed c.func).any P.goes=false:=by
  cases P.funcNamed c.func with
  |none=>rfl
  |some f=>exact J34 h f
 rw[h1,Bool.false_or];split
 ·rfl
 ·symm;rw[List.any_eq_false];intro g _ hg;rw[J34 h g]at hg;cases hg
def noGoes:Tryz.pinned.checked.prog.funcs.any Func.goes=false:=kr
end Go.LX
namespace Go.LX
variable (s l:List UInt8){u:List UInt8}
def RU:List UInt8:=s.dropWhile (· == 48)
def I7:List UInt8:=(s.reverse.dropWhile (· == 48)).reverse
def uA{c:UInt8}:c.toNat=48↔c=48:=by
 constructor
 ·intro h;exact UInt8.toNat_inj.1 (by simpa using h)
 ·intro h;subst h;rfl
def uB(c:UInt8)(l:List UInt8):BS (c::l) 0=c.toNat:=by simp[BS]
def uC(c:UInt8):BS (l++[c]) l.length=c.toNat:=by simp[BS,GU]
def J78(h:BS u 0≠48):RU u=u:=by
 cases u with
 |nil=>rfl
 |cons c l =>
  rw[uB]at h;have:c≠48:=fun hc=>h (uA.2 hc)
  simp[RU,List.dropWhile_cons,this]
def J95(u:List UInt8):(RU u).length<=u.length:=by
 exact(List.dropWhile_sublist _).length_le
def û(h:0<u.length):∃l c,u=l++[c]:=by
 have DA:u≠[]:=by intro hu;subst hu;simp at h
 exact⟨u.dropLast,u.getLast DA,(nG DA).symm⟩
def oB(c:UInt8):I7 (l++[c])=if c=48 then I7 l else l++[c]:=by
 simp only[I7,List.reverse_append,List.reverse_cons,List.reverse_nil,List.nil_append,PQ,List.dropWhile_cons];by_cases h:c=48
 ·simp[h]
 ·simp[h]
def J8b(h0:0<u.length)(h:BS u (u.length-1)=48):I7 (u.take (u.length-1))=I7 u:=by
 obtain⟨l,c,rfl⟩:=û h0;have e:(l++[c]).length-1=l.length:=sm;rw[e]at h⊢;rw[uC,uA]at h;rw[oB,AB h];simp
def J79(h0:0<u.length)(h:BS u (u.length-1)≠48):I7 u=u:=by
 obtain⟨l,c,rfl⟩:=û h0;have e:(l++[c]).length-1=l.length:=sm;rw[e,uC]at h;rw[oB,AA (fun hc=>h (uA.2 hc))]
def ü(u:List UInt8):(I7 u).length<=u.length:=by
 have:=(List.dropWhile_sublist (l:=u.reverse) (fun x=>x==48)).length_le;simpa[I7]using this
def Kbv{n i:Nat}(h:i<n):BS (u.take n) i=BS u i:=by
 simp[BS,GU,IQ,h]
def J2r:∀(n:Nat) (u:List UInt8),u.length=n->0<u.length->BS u 0≠48->0<(I7 u).length
 |0,u,hn,h0,_=>by omega
 |n+1,u,hn,h0,h=>by
  by_cases hl:BS u (u.length-1)=48
  ·have SA:1<u.length:=by
    by_cases h1:u.length=1
    ·rw[h1]at hl;exact absurd hl h
    ·omega
   rw[<-J8b h0 hl];exact J2r n _ (by simp;omega) (by simp;omega) (by rw[Kbv omg];exact h)
  ·rw[J79 h0 hl];exact h0
end Go.LX
namespace Go.LX
open Go Go.RowKit Go.Proofs Go.Proofs.Tryz Go.Lib
variable {s:ByteArray}{pos:Nat}{l:List UInt8}
def uD(c:UInt8):Bool:=decide (48<=c.toNat)&&decide (c.toNat<=57)
def MT(s:List UInt8):Bool:=s.all uD
def FR(r:Nat):Bool:=decide (48<=r)&&decide (r<=57)
def J2n{n b0 b1 b2 b3:Nat}(h:128<=b0):128<=(decodeN n b0 b1 b2 b3).1:=by
 unfold decodeN
 repeat' split
 all_goals first|omega|(simp_all;done)|(simp_all;omega)
def J72(h:FR (Utf8.decode s pos).1=true):FR (s.data.toList.getD pos 0).toNat=true/\(Utf8.decode s pos).2=1:=by
 rw[decode_N]at h⊢;by_cases hb:(s.data.toList.getD pos 0).toNat<128
 ·rw[decodeN_ascii _ _ _ _ _ hb]at h⊢;exact⟨h,rfl⟩
 ·have:=J2n (n:=s.data.toList.length-pos) (b1:=(s.data.toList.getD (pos+1) 0).toNat) (b2:=(s.data.toList.getD (pos+2) 0).toNat) (b3:=(s.data.toList.getD (pos+3) 0).toNat) (by omega:128<=(s.data.toList.getD pos 0).toNat);simp only[FR,OS,AF]at h;omega
def Kae(h:FR (s.data.toList.getD pos 0).toNat=true):Utf8.decode s pos=((s.data.toList.getD pos 0).toNat,1):=by
 rw[decode_N,decodeN_ascii];simp only[FR,OS,AF]at h;omega
def J6t{s:ByteArray}:∀(f pos:Nat),s.size<=pos+f->idxFuncFrom FR false s f pos = -1->∀j,pos<=j->j<s.size->FR (s.data.toList.getD j 0).toNat=true
 |0,pos,hf,_,j,h1,h2=>by omega
 |f+1,pos,hf,h,j,h1,h2=>by
  unfold idxFuncFrom at h;rw[AB omg]at h;split at h
  ·omega
  ·rename_i hp;have IA:FR (Utf8.decode s pos).1=true:=by simpa using hp
   obtain⟨g1,g2⟩:=J72 IA;by_cases hj:j=pos
   ·subst hj;exact g1
   ·rw[g2]at h;exact J6t f (pos+1) omg h j omg h2
def J8n{s:ByteArray}:∀(f pos k:Nat),idxFuncFrom FR false s f pos=(k:Int)->k<s.size/\FR (s.data.toList.getD k 0).toNat=false
 |0,pos,k,h=>by simp[idxFuncFrom]at h
 |f+1,pos,k,h=>by
  unfold idxFuncFrom at h;split at h
  ·rename_i BZ;split at h
   ·rename_i hp;have hk:pos=k:=omg;subst hk;refine⟨BZ,?_⟩;cases hb:FR (s.data.toList.getD pos 0).toNat with
    |false=>rfl
    |true =>
     rw[Kae hb]at hp;simp only at hp;rw[hb]at hp;cases hp
   ·exact J8n f _ k h
  ·omega
def J16(hl:l≠[])(h:FR (decodeLastL l).1=true):FR (l.getD (l.length-1) 0).toNat=true/\(decodeLastL l).2=1:=by
 unfold decodeLastL at h⊢;rw[AA hl]at h⊢;split
 ·rename_i hb;rw[AB hb]at h;exact⟨h,rfl⟩
 ·rename_i hb;rw[AA hb]at h;simp only at h;split at h
  ·rename_i hd;exfalso;have CY:0<l.length:=VN.2 hl;have bY:(decodeL (l.drop (lastStart l))).1<128:=by simp[FR]at h;omega
   generalize hq:l.drop (lastStart l)=q at bY hd;cases q with
   |nil =>
    have:=congrArg List.length hq;simp only[KO,KM]at this;rw[show(decodeL []).2=1 from by decide]at hd;omega
   |cons c r =>
    have hc:c.toNat<128:=by
     by_cases hc:c.toNat<128
     ·exact hc
     ·exfalso;simp only[decodeL]at bY;rw[decode_N]at bY;simp only[List.getD_cons_zero]at bY;have:=fun n b1 b2 b3=>J2n (n:=n) (b1:=b1) (b2:=b2) (b3:=b3) (by omega:128<=c.toNat)
      exact absurd bY (Nat.not_lt.2 (this _ _ _ _))
    rw[decodeL_ascii c r hc]at hd;simp only at hd;have n5:r=[]:=by
     have:=congrArg List.length hq;simp at this;exact KH omg
    subst n5;have e:l.getD (l.length-1) 0=c:=by
     have h1:l[lastStart l]?=some c:=by
      have:=congrArg (fun x=>x[0]?) hq;simpa using this
     have h2:l.length-1=lastStart l:=omg;rw[h2];simp[GU,h1]
    rw[e]at hb;exact hb hc
  ·exfalso;simp[FR,Utf8.runeError]at h
def J4u{s:ByteArray}:∀(f i:Nat),i<=f->i<=s.size->lastIdxFuncFrom FR false s f i = -1->∀j,j<i->FR (s.data.toList.getD j 0).toNat=true
 |0,i,hf,_,h,j,hj=>by omega
 |f+1,i,hf,hs,h,j,hj=>by
  unfold lastIdxFuncFrom at h;rw[AB omg]at h;split at h
  ·omega
  ·rename_i hp;have DI:s.data.toList.length=s.size:=sm;have hl:(s.data.toList.take i).length=i:=by rw[GF];omega
   have IA:FR (decodeLastL (s.data.toList.take i)).1=true:=by simpa using hp
   obtain⟨g1,g2⟩:=J16 (by intro hn;rw[hn]at hl;simp at hl;omega) IA;rw[hl]at g1;rw[g2]at h;by_cases HC:j=i-1
   ·subst HC;have:(s.data.toList.take i).getD (i-1) 0=s.data.toList.getD (i-1) 0:=by
     simp[GU,IQ,show i-1<i by omega]
    rw[<-this];exact g1
   ·exact J4u f (i-1) omg omg h j omg
def J0t:MT l=true ↔ ∀j,j<l.length->FR (l.getD j 0).toNat=true:=by
 simp only[MT,SQ];constructor
 ·intro h j hj;have:=h l[j] (UN hj);simpa[GU,hj,FR,uD]using this
 ·intro h x hx;obtain⟨j,hj,rfl⟩:=PN hx;simpa[GU,hj,FR,uD]using h j hj
def uE(s:ByteArray):s.data.toList.length=s.size:=sm
def J3u(s:ByteArray):((trimF FR s).data.toList == [])=MT s.data.toList:=by
 unfold trimF;by_cases hk:idxFunc FR false s = -1
 ·have h1:MT s.data.toList=true:=by
   rw[J0t];intro j hj;rw[uE]at hj;exact J6t s.size 0 omg hk j (EK _) hj
  rw[h1];unfold trimLeftF;rw[AB hk];unfold trimRightF;simp[ByteArray.data_extract]
 ·obtain⟨k,VS⟩:∃k:Nat,idxFunc FR false s=k:=by
   rcases idxFunc_range FR false s with h|⟨h,_⟩
   ·exact absurd h hk
   ·exact⟨_,(Int.toNat_of_nonneg h).symm⟩
  obtain⟨h1,h2⟩:=J8n _ _ _ VS;have h3:MT s.data.toList=false:=by
   cases hf:MT s.data.toList with
   |false=>rfl
   |true =>
    rw[J0t]at hf;rw[hf k (by rw[uE];exact h1)]at h2;cases h2
  rw[h3];have ht:trimLeftF FR s=s.extract k s.size:=by
   unfold trimLeftF;rw[AA hk,VS];simp
  rw[ht];generalize hte:s.extract k s.size=t;have Ux:t.data.toList=s.data.toList.drop k:=by
   rw[<-hte];simp[ByteArray.data_extract,Array.toList_extract];rw[DK sm]
  have XU:t.size=s.size-k:=by rw[<-uE,Ux,KO,uE]
  have h0:FR (t.data.toList.getD 0 0).toNat=false:=by
   rw[Ux];simpa[GU,cm]using h2
  have bZ:0<=lastIdxFunc FR false t:=by
   rcases lastIdxFuncFrom_range FR false t t.size t.size with h|⟨h,_⟩
   ·have:=J4u t.size t.size (CS _) (CS _) h 0 omg;rw[h0]at this;cases this
   ·exact h
  have IZ:1<=rightEndF FR t:=by
   unfold rightEndF;rw[AB bZ];unfold decodeGoB;by_cases hz:(lastIdxFunc FR false t).toNat=0
   ·rw[hz];have DI:(t.extract 0 t.size).size=t.size:=sm;rw[AA (by rw[DI];omega)];have:=decodeN_ge1;rw[decode_N];have:=this ((t.extract 0 t.size).data.toList.length-0) ((t.extract 0 t.size).data.toList.getD 0 0).toNat ((t.extract 0 t.size).data.toList.getD (0+1) 0).toNat ((t.extract 0 t.size).data.toList.getD (0+2) 0).toNat ((t.extract 0 t.size).data.toList.getD (0+3) 0).toNat;omega
   ·omega
  have:(trimRightF FR t).data.toList≠[]:=by
   intro hn;unfold trimRightF at hn;have e:(t.extract 0 (rightEndF FR t)).data.toList=t.data.toList.take (rightEndF FR t):=by simp[ByteArray.data_extract,Array.toList_extract]
   rw[e]at hn;have hl:=congrArg List.length hn;rw[GF,uE]at hl;simp only[KM]at hl;omega
  simpa using this
end Go.LX
namespace Go.LX

end Go.LX
namespace Go.LX
open Go Go.RowKit Go.Proofs Go.Proofs.Tryz
variable (n:Node)
abbrev Node.pv (n:Node):List PV:=n.cells
def SI:n.pv=[.int .i64 n.kind,.int .i64 n.many,.str n.name,.str n.s,.bool n.neg,.int .i64 n.e]:=(rfl)
def xt(many e:Int):Bool:=decide (-1000<=e)&&decide (e<=1000)&&decide (many+e<=1000)
def J36{m e:Int}:xt m e=false↔e < -1000\/1000<e\/1000<m+e:=by
 simp only[xt];by_cases h1:-1000<=e<;>by_cases h2:e<=1000<;>by_cases h3:m+e<=1000<;>simp[h1,h2,h3]<;>omega
def uF:Bool:=
 if ¬n.kind=3 then false else if ¬n.many=0 then false else if ¬n.name.length=0 then false else if MT n.s=false then false else if 100<(n.s.length:Int)then false else
 if n.e < -1000 then false else if 1000<n.e then false else if 1000<(n.s.length:Int)+n.e then false else
 if n.s.length=0 then(if n.neg=false then n.e==0 else false)else(if ¬(BS n.s 0:Int)=48 then((BS n.s (n.s.length-1):Int) != 48)else false)
def FT(a b:Int):Int:=if a<b then -1 else if b<a then 1 else 0
def GX(a b:List UInt8):Int:=if Op.bytesLess a b=true then -1 else if(Op.bytesLess a b||a==b)=false then 1 else 0
def VB:Node:=⟨0,0,[],[],false,0⟩
def LD(neg:Bool)(s:List UInt8)(e:Int):Node×Int:=
 if MT s=false then(VB,4)else
 if(RU s).length=0 then({ VB with kind:=3 },0)else
 if e < -100000000 then(VB,2)else if 100000000<e then(VB,2)else
 let t:=I7 (RU s);let e':=e+((RU s).length-t.length)
 if 100<(t.length:Int)then(VB,2)else if e' < -1000 then(VB,2)else if 1000<(t.length:Int)+e' then(VB,2)else
 ({ VB with kind:=3,s:=t,neg:=neg,e:=e' },0)
def oC(a b:Node):Int:=
 if a.s.length=0 then FT a.s.length b.s.length else if b.s.length=0 then FT a.s.length b.s.length else
 if ¬FT (a.s.length+a.e) (b.s.length+b.e)=0 then FT (a.s.length+a.e) (b.s.length+b.e)else GX a.s b.s
def eE(a b:Node):Int := if a.neg=true/\b.neg=false then -1 else if b.neg=true/\a.neg=false then 1 else if a.neg=true then oC b a else oC a b
structure Node.small (n:Node):Prop where
 s:n.s.length<=1000000
 e1:-1000000<=n.e
 e2:n.e<=1000000
def QY(p:Int):Int:=
 let i:=(n.s.length:Int)-1-(p-n.e)
 if i<0 then 0 else if(n.s.length:Int)<=i then 0 else((BS n.s i.toNat:Int)-48)%256
def ba(f g:Int->Int)(MU:Int):Nat->Int->Int|0,_=>0|n+1,p=>if f p<g p then -MU else if g p<f p then MU else ba f g MU n (p-1)
def Z7(a b:Node):Int:=
 let MU:=if a.neg=true then -1 else 1
 if a.neg != b.neg then MU else
 let top:=max ((a.s.length:Int)+a.e) (b.s.length+b.e)
 ba (QY a) (QY b) MU (top-min a.e b.e+1).toNat top
def ý:List UInt8:=if n.neg=true then [45]else []
def Kd4:List UInt8:=
 if n.s.length=0 then [48]else
 if 0<=n.e/\(n.s.length:Int)+n.e<=20 then ý n++n.s++Lib.repeatL [48] n.e.toNat else
 if n.e<0/\-20<=n.e then
  ý n++(Lib.repeatL [48] (1-n.e-n.s.length).toNat++n.s).take (((Lib.repeatL [48] (1-n.e-n.s.length).toNat++n.s).length:Int)+n.e).toNat++[46]++(Lib.repeatL [48] (1-n.e-n.s.length).toNat++n.s).drop (((Lib.repeatL [48] (1-n.e-n.s.length).toNat++n.s).length:Int)+n.e).toNat
 else ý n++n.s++[101]++Lib.itoa n.e
def val(l:List UInt8):Int:=l.foldl (fun n c=>n*10+((c.toNat:Int)-48)) 0
end Go.LX
namespace Go.Proofs
open Go.Shelf Go.LX Go.Proofs.Tryz
def NR:Go.Shelf.Ren:=⟨fun|237=>168|272=>197|238=>196|315=>233|273=>232|197=>199|271=>201|260=>234|120=>236|n=>n,fun|9=>9|40=>168|4=>4|3=>3|105=>196|21=>21|0=>0|5=>5|119=>161|46=>165|139=>164|138=>163|n=>n,fun|3=>0|4=>1|n=>n⟩
def J3t:Go.Proofs.Lays.n237 Tryz.prog NR:={
 mixed:=kr
 f120:=func236.trans AO
 f197:=func199.trans AO
 f237:=func168.trans AO
 f238:=func196.trans AO
 f260:=func234.trans AO
 f271:=func201.trans AO
 f272:=func197.trans AO
 f273:=func232.trans AO
 f315:=func233.trans AO
 t0:=underlying0
 a0:=isAgg0
 z0:=sizeOf0
 v0:=zeroValue0
 t3:=underlying3
 a3:=isAgg3
 z3:=sizeOf3
 v3:=zeroValue3
 t4:=underlying4
 a4:=isAgg4
 z4:=sizeOf4
 v4:=zeroValue4
 t5:=underlying5
 a5:=isAgg5
 z5:=sizeOf5
 v5:=zeroValue5
 t9:=underlying9
 a9:=isAgg9
 z9:=sizeOf9
 v9:=zeroValue9
 t21:=underlying21
 a21:=isAgg21
 z21:=sizeOf21
 v21:=zeroValue21
 t40:=underlying168
 a40:=isAgg168
 z40:=sizeOf168
 v40:=zeroValue168
 t46:=underlying165
 a46:=isAgg165
 z46:=sizeOf165
 v46:=zeroValue165
 t105:=underlying196
 a105:=isAgg196
 z105:=sizeOf196
 v105:=zeroValue196
 t119:=underlying161
 a119:=isAgg161
 z119:=sizeOf161
 t138:=underlying163
 a138:=isAgg163
 z138:=sizeOf163
 v138:=zeroValue163
 t139:=underlying164
 a139:=isAgg164
 z139:=sizeOf164
 v139:=zeroValue164
 g3:=kr
 g4:=by kernel_rfl }
open Go.RowKit Go.Lib in
def Tryz.strings_TrimFunc_grows(g:Nat)(lb:Array Value)(eg:∀args w,(callFunc g args).run Tryz.prog w=.ok (.enter g args) w)(p:Nat->Bool)(s:ByteArray)(w:World)(hs:s.size<=9223372036854775807)(hT:Lib.Utf8Tabs 0 1 w)(hp:PredGrows Tryz.prog g lb p w) :
  Calls Tryz.prog 168 #[.string s,.func (.func g) #[] lb] w fun e w'=>e=.returned (.string (Lib.trimF p s))/\Below w.heap.size w w':=Any.strings_TrimFunc_grows J3t g lb eg p s w hs hT hp
end Go.Proofs
set_option maxRecDepth 100000
set_option maxHeartbeats 2000000
namespace Go.LX
open Go Go.RowKit Go.Proofs Go.Proofs.Tryz
variable (s:List UInt8){c:UInt8}(a:Int){n:Node}
section
attribute [local irreducible] Al Bi CL
def J3w:MT s=Pk s:=rfl
def Kb5(m e:Int)(eF:0<=m)(ZY:m<=1000000):CA cx 140 [.p (.int .i64 m),.p (.int .i64 e)] [] (.p (.bool (xt m e))) []:=by
 (refine CB func140 ?_)
 (repeat'(first|(split)|fail))<;>simp(disch:=omega) [xt,Aa, *]<;>omega
def J77(c:Nat):CA cx 169 [.p (.int .i32 c)] [] (.p (.bool (decide (48<=c)&&decide (c<=57)))) []:=by
 (refine CB func169 ?_)
 (repeat'(first|(split)|fail))<;>(rw[KA];first|omega|(simp[-List.length_eq_zero_iff,Ac, *];done)|(simp[-List.length_eq_zero_iff,Ac, *];omega))
def J8z:CA cx 153 [.p (.int .i64 a)] [] (.p (.bool false)) []:=by
 (refine CK func153 ?_;simp only[go_sem,simprocAttr])
def J7o(a:List UInt8):CA cx 155 [.p (.str a)] [] (.p (.bool false)) []:=by
 (refine CK func155 ?_;simp only[go_sem,simprocAttr])
def l3(a b:Int):CA cx 115 [.p (.int .i64 a),.p (.int .i64 b)] [] (.p (.int .i64 (FT a b))) []:=by
 (refine CB func115 ?_);(repeat'(first|(apply BY<;>intro h)|refine CI (J8z _) ?_|fail))
 all_goals simp[FT, *]
def þ(a b:List UInt8):CA cx 117 [.p (.str a),.p (.str b)] [] (.p (.int .i64 (GX a b))) []:=by
 (refine CB func117 ?_);(repeat'(first|(apply BY<;>intro h)|refine CI (J7o _) ?_|fail))
 all_goals simp_all[GX]
def l4(x:ByteArray):(⟨⟨x.data.toList⟩⟩:ByteArray)=x:=by rcases x with⟨⟨l⟩⟩;rfl
def Kab(hs:s.length<=9223372036854775807):CA cx 168 [.p (.str s),.fn 169 []] [] (.p (.str (Lib.trimF FR ⟨⟨s⟩⟩).data.toList)) []:=by
 have he:Enters cx.P 169:=enters_of func169 kr rfl;refine fX (v:=.string (Lib.trimF FR ⟨⟨s⟩⟩)) (enters_of func168 kr rfl) rfl (fun β w Im=>?_) fun β Im w vs hg hf=>?_
 ·have:=BW.str (w:=w) (Im:=Im) (Lib.trimF FR ⟨⟨s⟩⟩).data.toList;rw[l4]at this;exact this
 ·obtain⟨v,u,rfl,h1,h2⟩:=bN hf;cases Ks h1;cases Khf h2;refine Tryz.strings_TrimFunc_grows 169 #[] he FR ⟨⟨s⟩⟩ w hs (fa hg).tabs fun W x hx hb=>?_
  have hi:∀b,Im b->b<W.heap.size:=fun b HN=>NB (hf.im b HN) hb.size
  exact(J77 x).calls_below (w:=W) (Im:=Im) (cx.mono ⟨fun _ h=>h,fun b HN=>hb.block b (hf.im b HN)⟩ hg) hi (vs:=[.int .i32 x]) rfl
   (fun i v a hv ha=>by cases i with|zero=>simp at hv ha;subst hv;subst ha;exact BW.int _ _|succ i=>simp at hv) (fun β w' CX u hu=>Na hu)
def J6s(hs:s.length<=9223372036854775807):CA cx 137 [.p (.str s)] [] (.p (.bool (MT s))) []:=by
 (refine CB func137 ?_);(repeat'(first|refine CI (Kab s hs) ?_|fail));exact J3u ⟨⟨s⟩⟩
def Kfq(a b:Node)(ha:a.small)(hb:b.small):CA cx 154 [.p (.agg a.pv),.p (.agg b.pv)] [] (.p (.int .i64 (oC a b))) []:=by
 obtain⟨a1,a2,a3⟩:=ha;obtain⟨b1,b2,b3⟩:=hb;(refine CK func154 ?_;simp only[go_sem,simprocAttr,SI]);simp(disch:=omega)only [Aa];(repeat'(first|(apply BY<;>intro h)|(first|refine CI (l3 _ _) ?_|refine CI (þ _ _) ?_)|fail))
 all_goals simp_all[oC]
def Kfw(a b:Node)(ha:a.small)(hb:b.small):CA cx 116 [.p (.agg a.pv),.p (.agg b.pv)] [] (.p (.int .i64 (eE a b))) []:=by
 (refine CK func116 ?_;simp only[go_sem,simprocAttr,SI]);(repeat'(first|(apply BY<;>intro h)|(first|refine CI (Kfq a b ha hb) ?_|refine CI (Kfq b a hb ha) ?_)|fail))
 all_goals simp_all[eE]
def xu(n:Node)(p:Int)(hn:n.small)(h1:-10000000<=p)(h2:p<=10000000):CA cx 156 [.p (.agg n.pv),.p (.int .i64 p)] [] (.p (.int .i64 (QY n p))) []:=by
 obtain⟨a1,a2,a3⟩:=hn;(refine CK func156 ?_;simp only[go_sem,simprocAttr,SI]);simp(disch:=omega)only [Aa];(repeat'(first|(apply BY<;>intro h)|refine EA ?_|fail))
 all_goals((try simp only[Be]at *)<;>(try rw[Aa omg omg]))
 all_goals simp[QY, *]
def Kd9(a b:Node)(ha:a.small)(hb:b.small):CA cx 121 [.p (.agg a.pv),.p (.agg b.pv)] [] (.p (.int .i64 (Z7 a b))) []:=by
 obtain⟨a1,a2,a3⟩:=ha;obtain⟨b1,b2,b3⟩:=hb;(refine CK func121 ?_;simp only[go_sem,simprocAttr,SI]);simp(disch:=omega)only [Aa];(repeat'(apply BY<;>intro h))
 ·simp_all[Z7]
 ·refine CL.loop (fun p:Int=>⟨Ba 56 [(2,.ptr 2 0 0),(3,.ptr 3 0 0),(5,.p (.int .i64 (-1))),(7,.p (.int .i64 p))],[(2,.var 36 (a.pv.map .p)),(3,.var 36 (b.pv.map .p))]⟩)
   (fun p=>min a.e b.e-1<=p/\p<=max ((a.s.length:Int)+a.e) (b.s.length+b.e)/\Z7 a b=ba (QY a) (QY b) (if a.neg=true then -1 else 1) (p-min a.e b.e+1).toNat p)
   (fun p=>(p-min a.e b.e+1).toNat) (max ((a.s.length:Int)+a.e) (b.s.length+b.e)) (UE (by simp only[Ap,Ar,Ao,Aj,Af,Nat.reduceEqDiff,reduceIte,Nat.reduceLT,Nat.reduceLeDiff];simp[Ai,Au]) (by simp[Az,A3,Aw,Am,Ai,SI]) (by simp[Ay])) ⟨omg,omg,by simp_all[Z7]⟩ ?_
  rintro p ⟨g1,g2,g3⟩;have key:min a.e b.e<=p->Z7 a b=if QY a p<QY b p then -(if a.neg=true then -1 else 1)else if QY b p<QY a p then(if a.neg=true then -1 else 1)else ba (QY a) (QY b) (if a.neg=true then -1 else 1) (p-1-min a.e b.e+1).toNat (p-1):=by
   intro h;rw[g3,show(p-min a.e b.e+1).toNat=(p-1-min a.e b.e+1).toNat+1 by omega,ba]
  (refine CC ?_;simp only[go_sem,simprocAttr,SI]);(repeat'(first|(apply BY<;>intro h)|((first|refine EG ?_|refine DS (xu a p ⟨a1,a2,a3⟩ omg omg) ?_|refine DS (xu b p ⟨b1,b2,b3⟩ omg omg) ?_);simp only[go_sem,simprocAttr])|fail))
  all_goals(try simp(disch:=omega)only [Aa,Qs,Ab,wP,Mf,w6,w7,w8,w9]at *)
  ·(have hk:=key AN;clear key g3;rw[hk];clear hk;simp_all<;>omega)
  ·(have hk:=key AN;clear key g3;rw[hk];clear hk;simp_all<;>omega)
  ·exact⟨p-1,⟨omg,omg,by(have hk:=key AN;clear key g3;rw[hk];clear hk;simp_all<;>omega)⟩,omg,(UE (by simp only[Ap,Ar,Ao,Aj,Af,Nat.reduceEqDiff,reduceIte,Nat.reduceLT,Nat.reduceLeDiff];simp[Ai,Au]) (by simp[Az,A3,Aw,Am,Ai,SI]) (by simp[Ay]))⟩
  ·rw[g3,show(p-min a.e b.e+1).toNat=0 by omega];rfl
 ·simp_all[Z7]
 ·refine CL.loop (fun p:Int=>⟨Ba 56 [(2,.ptr 2 0 0),(3,.ptr 3 0 0),(5,.p (.int .i64 1)),(7,.p (.int .i64 p))],[(2,.var 36 (a.pv.map .p)),(3,.var 36 (b.pv.map .p))]⟩)
   (fun p=>min a.e b.e-1<=p/\p<=max ((a.s.length:Int)+a.e) (b.s.length+b.e)/\Z7 a b=ba (QY a) (QY b) (if a.neg=true then -1 else 1) (p-min a.e b.e+1).toNat p)
   (fun p=>(p-min a.e b.e+1).toNat) (max ((a.s.length:Int)+a.e) (b.s.length+b.e)) (UE (by simp only[Ap,Ar,Ao,Aj,Af,Nat.reduceEqDiff,reduceIte,Nat.reduceLT,Nat.reduceLeDiff];simp[Ai,Au]) (by simp[Az,A3,Aw,Am,Ai,SI]) (by simp[Ay])) ⟨omg,omg,by simp_all[Z7]⟩ ?_
  rintro p ⟨g1,g2,g3⟩;have key:min a.e b.e<=p->Z7 a b=if QY a p<QY b p then -(if a.neg=true then -1 else 1)else if QY b p<QY a p then(if a.neg=true then -1 else 1)else ba (QY a) (QY b) (if a.neg=true then -1 else 1) (p-1-min a.e b.e+1).toNat (p-1):=by
   intro h;rw[g3,show(p-min a.e b.e+1).toNat=(p-1-min a.e b.e+1).toNat+1 by omega,ba]
  (refine CC ?_;simp only[go_sem,simprocAttr,SI]);(repeat'(first|(apply BY<;>intro h)|((first|refine EG ?_|refine DS (xu a p ⟨a1,a2,a3⟩ omg omg) ?_|refine DS (xu b p ⟨b1,b2,b3⟩ omg omg) ?_);simp only[go_sem,simprocAttr])|fail))
  all_goals(try simp(disch:=omega)only [Aa,Qs,Ab,wP,Mf,w6,w7,w8,w9]at *)
  ·(have hk:=key AN;clear key g3;rw[hk];clear hk;simp_all<;>omega)
  ·(have hk:=key AN;clear key g3;rw[hk];clear hk;simp_all<;>omega)
  ·exact⟨p-1,⟨omg,omg,by(have hk:=key AN;clear key g3;rw[hk];clear hk;simp_all<;>omega)⟩,omg,(UE (by simp only[Ap,Ar,Ao,Aj,Af,Nat.reduceEqDiff,reduceIte,Nat.reduceLT,Nat.reduceLeDiff];simp[Ai,Au]) (by simp[Az,A3,Aw,Am,Ai,SI]) (by simp[Ay]))⟩
  ·rw[g3,show(p-min a.e b.e+1).toNat=0 by omega];rfl
end
def JN:Nat:=s.foldl (fun n c=>n*10+(c.toNat-48)) 0
def VC(n:Nat)(s:List UInt8):Nat:=s.foldl (fun n c=>n*10+(c.toNat-48)) n
def xv:∀(s:List UInt8) (n:Nat),VC n s=n*10^s.length+JN s
 |[],n=>by simp[VC,JN]
 |c::s,n=>by
  have h1:=xv s (n*10+(c.toNat-48));have h2:=xv s (0*10+(c.toNat-48));have e:JN (c::s)=VC (0*10+(c.toNat-48)) s:=rfl;have e':VC n (c::s)=VC (n*10+(c.toNat-48)) s:=rfl;rw[e,e',h1,h2,DH,Nat.pow_succ];have:(n*10+(c.toNat-48))*10^s.length=n*(10^s.length*10)+(c.toNat-48)*10^s.length:=by
   rw[ME,Qm,UA 10]
  rw[this];simp;omega
def oD(c:UInt8)(s:List UInt8):JN (c::s)=(c.toNat-48)*10^s.length+JN s:=by
 have e:JN (c::s)=VC (0*10+(c.toNat-48)) s:=rfl;rw[e,xv];simp
def ÿ(s t:List UInt8):JN (s++t)=JN s*10^t.length+JN t:=by
 have:JN (s++t)=VC (JN s) t:=by simp[JN,VC,List.foldl_append]
 rw[this,xv]
def oE{s:List UInt8}:MT (c::s)=true↔(48<=c.toNat/\c.toNat<=57)/\MT s=true:=by
 simp[MT,uD]
def uG{s t:List UInt8}:MT (s++t)=true↔MT s=true/\MT t=true:=by
 simp[MT,List.all_append]
def l5:∀{s:List UInt8},MT s=true->JN s<10^s.length
 |[],_=>by simp[JN]
 |c::s,h=>by
  rw[oE]at h;have:=l5 h.2;rw[oD,DH,Nat.pow_succ];have h9:(c.toNat-48)<=9:=omg;have:=M' (10^s.length) h9;omega
def l6{s:List UInt8}(h:MT (c::s)=true)(hc:c.toNat≠48):10^s.length<=JN (c::s):=by
 rw[oE]at h;rw[oD];have:1<=c.toNat-48:=omg;have:=M' (10^s.length) this;omega
def J81{s:List UInt8}(h0:0<s.length)(hf:MT s=true)(hl:BS s (s.length-1)≠48):0<JN s/\JN s%10≠0:=by
 obtain⟨l,c,rfl⟩:=û h0;rw[uG]at hf;have hc:=(oE.1 hf.2).1;have e:(l++[c]).length-1=l.length:=sm;rw[e,uC]at hl;rw[ÿ];have:JN [c]=c.toNat-48:=by simp[JN]
 rw[this];simp only[DH,KM,MF,Nat.pow_one];omega
structure EO (n:Node):Prop where
 kind:n.kind=3
 many:n.many=0
 name:n.name=[]
 figs:MT n.s=true
 len:n.s.length<=100
 e1:-1000<=n.e
 e2:n.e<=1000
 top:(n.s.length:Int)+n.e<=1000
 zero:n.s.length=0->n.neg=false/\n.e=0
 head:0<n.s.length->BS n.s 0≠48
 last:0<n.s.length->BS n.s (n.s.length-1)≠48
def EO.small{n:Node}(h:EO n):n.small:=⟨by have:=h.len;omega,by have:=h.e1;omega,by have:=h.e2;omega⟩
def OM(n:Node):Nat:=JN n.s*10^(n.e+1000).toNat
def sv(n:Node):Int:=if n.neg=true then -(OM n:Int)else OM n
def oF(h:EO n):OM n<10^(n.s.length+n.e+1000).toNat:=by
 have e:(n.s.length+n.e+1000).toNat=n.s.length+(n.e+1000).toNat:=by have:=h.e1;omega
 rw[e,fF];exact Nat.mul_lt_mul_of_pos_right (l5 h.figs) (YN de)
def uH(h:EO n)(h0:0<n.s.length):10^(n.s.length+n.e+999).toNat<=OM n:=by
 have e:(n.s.length+n.e+999).toNat=(n.s.length-1)+(n.e+1000).toNat:=by have:=h.e1;omega
 rw[e,fF];refine M' _ ?_;have hh:=h.head h0;have hf:=h.figs;cases hs:n.s with
 |nil=>rw[hs]at h0;simp at h0
 |cons c s =>
  rw[hs]at hh hf;rw[uB]at hh;simpa using l6 hf hh
def cM(h:EO n)(h0:0<n.s.length):0<OM n:=NB (YN de) (uH h h0)
def uI(h0:n.s.length=0):OM n=0:=by
 have:n.s=[]:=KH h0;simp[OM,this,JN]
def J71:∀(M:Nat) (x y:List UInt8),MT x=true->MT y=true->x.length<=M->y.length<=M->(0<y.length->BS y (y.length-1)≠48)->Op.bytesLess x y=true->JN x*10^(M-x.length)<JN y*10^(M-y.length)
 |M,x,[],_,_,_,_,_,h=>by cases x<;>simp[Op.bytesLess]at h
 |M,[],d::y,_,hy,_,_,hl,_=>by
  have:=(J81 sm hy (hl sm)).1;simp only[JN,List.foldl_nil,og];exact Nat.mul_pos this (YN de)
 |M,c::x,d::y,hx,hy,h1,h2,hl,h=>by
  rw[oE]at hx hy;simp only[DH]at h1 h2;obtain⟨m,rfl⟩:∃m,M=m+1:=⟨M-1,omg⟩
  rw[oD,oD,DH,DH,Nat.add_sub_add_right,Nat.add_sub_add_right,ME,ME,Qm,Qm,<-fF,<-fF,
   show x.length+(m-x.length)=m by omega,show y.length+(m-y.length)=m by omega]
  simp only[Op.bytesLess,WG,AF,OS,AK]at h;have bx:JN x*10^(m-x.length)<10^m:=by
   have:=Nat.mul_lt_mul_of_pos_right (l5 hx.2) (YN (n:=m-x.length) (show 0<10 by decide))
   rwa[<-fF,show x.length+(m-x.length)=m by omega]at this
  rcases h with h|⟨h,h'⟩
  ·have hcd:c.toNat<d.toNat:=h;have:(c.toNat-48+1)<=d.toNat-48:=omg;have:=M' (10^m) this;rw[ME]at this;omega
  ·subst h;have DB:0<y.length->BS y (y.length-1)≠48:=fun hp=>by
    have:=hl sm;cases y with
    |nil=>simp at hp
    |cons a l=>simpa[BS]using this
   have:=J71 m x y hx.2 hy.2 omg omg DB h';omega
def J0r:∀(x y:List UInt8),Op.bytesLess x y=true\/x=y\/Op.bytesLess y x=true
 |[],[]=>.inr (.inl rfl)
 |[],_::_=>.inl rfl
 |_::_,[]=>.inr (.inr rfl)
 |a::x,b::y=>by
  simp only[Op.bytesLess,WG,AF,OS,AK,gS];rcases nP a.toNat b.toNat with h|h|h
  ·exact .inl (.inl h)
  ·have:a=b:=UInt8.toNat_inj.1 h;subst this;rcases J0r x y with h|h|h
   ·exact .inl (.inr ⟨rfl,h⟩)
   ·exact .inr (.inl ⟨rfl,h⟩)
   ·exact .inr (.inr (.inr ⟨rfl,h⟩))
  ·exact .inr (.inr (.inl h))
def Ā:∀(x:List UInt8),Op.bytesLess x x=false
 |[]=>rfl
 |a::x=>by simp[Op.bytesLess,Ā x]
def Kcl:FT a a=0:=by simp[FT]
def eG{a b:Int}(h:a<b):FT a b = -1:=by simp[FT,h]
def eH{a b:Int}(h:b<a):FT a b=1:=by simp[FT,h];omega
def J3r{a b:Node}(ha:EO a)(hb:EO b):oC a b=FT (OM a) (OM b):=by
 unfold oC;by_cases a0:a.s.length=0
 ·rw[AB a0,uI a0];by_cases b0:b.s.length=0
  ·rw[uI b0,a0,b0]
  ·have:=cM hb omg;rw[eG omg,eG omg]
 ·rw[AA a0];have pa:=cM ha omg;by_cases b0:b.s.length=0
  ·rw[AB b0,uI b0,eH omg,eH omg]
  ·rw[AA b0];have la:=oF ha;have lb:=oF hb;have ga:=uH ha omg;have gb:=uH hb omg;have ea:=ha.e1;have eb:=hb.e1;rcases Int.lt_trichotomy (a.s.length+a.e) (b.s.length+b.e)with h|h|h
   ·rw[eG h,AB de];have:10^(a.s.length+a.e+1000).toNat<=10^(b.s.length+b.e+999).toNat:=cj de omg;rw[eG omg]
   ·rw[h,Kcl,AA de];let M:=max a.s.length b.s.length;let E:=min a.e b.e;have key:∀{x y:Node},EO x->EO y->x.s.length+x.e=y.s.length+y.e->0<y.s.length->Op.bytesLess x.s y.s=true->OM x<OM y:=by
     intro x y hx hy QC h0 hl;have:=J71 (max x.s.length y.s.length) x.s y.s hx.figs hy.figs omg omg hy.last hl;unfold OM;have e1:=hx.e1;have e2:=hy.e1;have q1:(x.e+1000).toNat=(max x.s.length y.s.length-x.s.length)+(min x.e y.e+1000).toNat:=omg;have q2:(y.e+1000).toNat=(max x.s.length y.s.length-y.s.length)+(min x.e y.e+1000).toNat:=omg;rw[q1,q2,fF,fF,<-Qm,<-Qm];exact Nat.mul_lt_mul_of_pos_right this (YN de)
    unfold GX;rcases J0r a.s b.s with g|g|g
    ·rw[AB g,eG (by have:=key ha hb h omg g;omega)]
    ·have e:a.e=b.e:=by rw[g]at h;omega
     rw[g,Ā];simp[OM,g,e,FT]
    ·have n1:Op.bytesLess a.s b.s=false:=by
      cases hh:Op.bytesLess a.s b.s with
      |false=>rfl
      |true =>
       have:=key ha hb h omg hh;have:=key hb ha h.symm omg g;omega
     have n2:(a.s==b.s)=false:=by
      rw[AL];intro hh;rw[hh,Ā]at g;cases g
     rw[n1,n2,eH (by have:=key hb ha h.symm omg g;omega)];simp
   ·rw[eH h,AB de];have:10^(b.s.length+b.e+1000).toNat<=10^(a.s.length+a.e+999).toNat:=cj de omg;rw[eH omg]
def EO.neg_len(h:EO n)(hn:n.neg=true):0<n.s.length:=by
 by_cases h0:n.s.length=0
 ·rw[(h.zero h0).1]at hn;cases hn
 ·omega
def J33{a b:Node}(ha:EO a)(hb:EO b):eE a b=FT (sv a) (sv b):=by
 unfold eE sv;cases na:a.neg<;>cases nb:b.neg<;>simp only[VM,false_and,and_false,and_self,and_true,↓reduceIte,Bool.true_eq_false]
 ·exact J3r ha hb
 ·have:=cM hb (hb.neg_len nb);rw[eH omg]
 ·have:=cM ha (ha.neg_len na);rw[eG omg]
 ·rw[J3r hb ha];unfold FT;split<;>split<;>(first|rfl|omega|skip)
  all_goals((split<;>first|rfl|omega|skip)<;>(split<;>first|rfl|omega))
end Go.LX
