/- Filters, the program: sorted. -/
import Derived.Test.YtaghbedfogiopaaGreatDoorTxN
set_option linter.all false
set_option maxRecDepth 100000
set_option maxHeartbeats 2000000
namespace Go.LX
open Go Go.RowKit Go.Proofs Go.Proofs.Tryz
variable (v:BM)(op:Int){l:List KT}{x:CD}
section
attribute [local irreducible] Al Bi CL
def J93{aC:Bool}{s:List UInt8}{v:BM}(hk:v.kind=5):SL aC s v=match KV (Je s).1 (CV v)with
  |.error e=>.error e
  |.ok ks=>.ok (if aC=true then CG ((Pc ks).map fun g=>CG (FV (CV v) g))else CG (FV (CV v) (IJ ks))):=by unfold SL;rw[AB hk]<;>rfl
def J43(op m:Int)(nm s:List UInt8)(n:Int)(c:Node)(v:BM)(LJ:op=12\/op=13)(hs:s.length<=1000000)(ok:EZ v)(hv:(v.enc []).length<=600000000000):CA cx 43 [.p (.agg [.int .i64 op,.int .i64 m,.str nm,.str s,.int .i64 n,.int .i64 c.kind,.int .i64 c.many,.str c.name,.str c.s,.bool c.neg,.int .i64 c.e]),.p (.sl (BP (v.enc [])))] [] (BV (SL (decide (op=12)) s v)) []:=by
 have DI:=QH v;have HE:=ui ok;have HI:=SN (CV v);by_cases hk:v.kind=5
 ·have hP:=vR v omg;obtain⟨r,DD⟩:=eZ v;rw[hk]at DD;have HK:=yd s hs;obtain⟨D',ZQ⟩:=mN s;have hF:=fun t (ht:t∈CV v)=>ľ (Je s).1 t omg ZQ (HE t ht) (by have:=WA ht;omega)
  have DV:∀t∈CV v,(t.enc []).length<=600000000000:=fun t ht=>by have:=WA ht;omega
  have hFl:∀(i:Nat) (t:BM),(CV v)[i]?=some t->CA cx 20 [.p (.sl (Bb (Je s).1)),.p (.sl (BP (t.enc [])))] [] (BV (KU (Je s).1 t)) []:=fun i t h=>hF t (D4 h)
  have P':∀ks,KV (Je s).1 (CV v)=.ok ks->oT ks:=fun ks Xb=>by
   obtain⟨WB,hkl2,GS⟩:=yX (ui ok) Xb;have GS:=GS 600000000000 fun t ht=>DV t ht
   exact⟨WB,omg,fun t ht=>by have:=GS t ht;omega⟩
  have mq:=J93 (aC:=decide (op=12)) (s:=s) hk;generalize KZ:BP (v.enc [])=V at *
  generalize CV v=l at *
  generalize xk:(Je s).1=P at *
  clear hF;(refine CK func43 ?_;simp only[go_sem,simprocAttr,DD]);(repeat'(first|((refine BU hP ?_);simp only[go_sem,simprocAttr,FZ])|fail));refine HD (dI _ (i:=7) (d:=42) 25 1 (.inl de) rfl) ?_;simp only[St.nilOwn,St.nilReg,go_sem,simprocAttr,DD,FZ];refine CL.loop (fun x:Nat×List BM=>⟨Ba 67 [(1,.p (.sl V)),(2,.ptr 2 0 0),(6,.p (.sl (CQ l))),(7,.own 42 0 x.1),(22,.p (.sl (CQ l))),(23,.p (.int .i64 l.length)),(24,.p (.int .i64 x.1))],[(42,.row 25 1 (CQ x.2)),(2,.var 38 [.p (.int .i64 op),.p (.int .i64 m),.p (.str nm),.p (.str s),.p (.int .i64 n),.p (.int .i64 c.kind),.p (.int .i64 c.many),.p (.str c.name),.p (.str c.s),.p (.bool c.neg),.p (.int .i64 c.e)])]⟩) (fun x=>x.1<=l.length/\x.2.length=x.1/\KV P l=VI x.2 (KV P (l.drop x.1))) (fun x=>l.length-x.1) (0,[]) CH ⟨EK _,rfl,by rw[OB];cases KV P l<;>rfl⟩ ?_;rintro⟨i,ks⟩ ⟨h1,h2,h3⟩;simp only at h1 h2 h3;by_cases BZ:i<l.length
  ·have c1:((i:Int)<(l.length:Int))=True:=AE omg;obtain⟨t,ht⟩:∃t,l[i]?=some t:=⟨_,C' BZ⟩
   have IG:=RW ht;have hF:=hFl i t ht;have hd:l.drop i=t::l.drop (i+1):=by
    obtain⟨a,b⟩:=DX.1 ht;rw[Mx a,b]
   rw[hd]at h3;cases hf:KU P t with
   |error e =>
    have h5:=eQ hf;subst h5;rw[hf,BV]at hF;rw[KV,hf]at h3;simp only[VI]at h3;rw[mq,h3,BV];(refine CC ?_;simp only[go_sem,simprocAttr,c1,IG]);(repeat'(first|((first|refine BU HK ?_|refine BU hF ?_);simp only[go_sem,simprocAttr])|fail))
    all_goals rfl
   |ok u =>
    rw[hf,BV]at hF;rw[J1o hf]at h3;have ha:CQ ks++[[.sl (BP (u.enc []))]]=CQ (ks++[u]):=(V' ks [u]).symm;have JB:(CQ ks).length=i:=by rw[FZ,h2]
    (refine CC ?_;simp only[go_sem,simprocAttr,c1,IG,DM (i:=i) omg]);(repeat'(first|(refine And.intro (by first|(simp;done)|(simp;omega)) ?_)|refine EA ?_|((first|refine BU HK ?_|refine BU hF ?_);simp only[go_sem,simprocAttr,ha,JB,DM (i:=i) omg])|fail))
    all_goals exact⟨(i+1,ks++[u]),⟨by simp only;omega,by simp only[DC,WD];omega,h3⟩,by simp only;omega,CH⟩
  ·obtain rfl:i=l.length:=omg;have c1:((l.length:Int)<(l.length:Int))=False:=AD omg;rw[JD (CS _),KV,VI,ID]at h3;have yw:=P' ks h3;have WB:=yw.1;have QG:(CQ ks).take l.length=CQ ks:=DK (by rw[FZ];omega);have hle1:(l.length<=(CQ ks).length)=True:=AE (by rw[FZ];omega);have EF:=oO ks;rcases LJ with rfl|rfl
   ·have hG:=Kbn ks yw;have į:=Į (l:=l) WB h2;have pP:∀g∈Pc ks,(∀i∈g,i<l.length)/\g.length<=l.length/\ER (FV l g)<=2*ER l:=fun g hg=>by
     have RL:=yM (ub WB);have FU:∀i∈g,i∈IJ ks:=fun i hi=>by rw[<-RL];exact List.mem_flatten.2 ⟨g,hg,hi⟩
     refine⟨fun i hi=>by have:=eK.1 (FU i hi);omega,?_,?_⟩
     ·have h1:=List.length_flatten (L:=N1 (Ju ks (IJ ks)));rw[RL,bd]at h1;have h2:=oP (FB.2 ⟨g,hg,rfl⟩:g.length∈(N1 (Ju ks (IJ ks))).map List.length);omega
     ·have h2:=WA (FB.2 ⟨g,hg,rfl⟩:CG (FV l g)∈(Pc ks).map fun g=>CG (FV l g));rw[ZP]at h2;omega
    have SH:(Pc ks).length<=2*ER l:=by
     have:=SN ((Pc ks).map fun g=>CG (FV l g));rw[HM]at this;omega
    have hL:=bo ((Pc ks).map fun g=>CG (FV l g)) omg;rw[mq,h3,BV];simp only[decide_true,if_true];generalize Pc ks=G at *
    (refine CC ?_;simp only[go_sem,simprocAttr,FZ,c1,QG,h2,CS]);(repeat'(first|((refine BU hG ?_);simp only[go_sem,simprocAttr,mW])|fail));refine HD (dI _ (i:=12) (d:=63) 25 1 (.inl de) rfl) ?_;simp only[St.nilOwn,St.nilReg,go_sem,simprocAttr,DD,FZ,c1,QG,hle1,h2,CS,if_true,if_false,mW];refine CL.loop (fun k:Nat=>⟨Ba 67 [(6,.p (.sl (CQ l))),(12,.own 63 0 k),(52,.p (.sl (N' G))),(53,.p (.int .i64 G.length)),(54,.p (.int .i64 k))],[(63,.row 25 1 (CQ ((G.take k).map fun g=>CG (FV l g))))]⟩) (fun k=>k<=G.length) (fun k=>G.length-k) 0 CH (EK _) ?_;rintro k IE;by_cases BZ:¬k<G.length
    ·obtain rfl:k=G.length:=omg;have c3:((G.length:Int)<(G.length:Int))=False:=AD omg;have ht4:G.take G.length=G:=DK (CS _);have ht5:(CQ (G.map fun g=>CG (FV l g))).take G.length=CQ (G.map fun g=>CG (FV l g)):=DK sm;have JB:(CQ (G.map fun g=>CG (FV l g))).length=G.length:=sm
     (refine CC ?_;simp only[go_sem,simprocAttr,CS,c3,ht4,ht5,JB]);(repeat'(first|((refine BU hL ?_);simp only[go_sem,simprocAttr])|fail))
    ·have BZ:=JK.1 BZ;have c3:((k:Int)<(G.length:Int))=True:=AE omg;obtain⟨g,hg⟩:∃g,G[k]?=some g:=⟨_,C' BZ⟩
     have İ:=J20 hg;obtain⟨m1,m2,m3⟩:=pP g (D4 hg);have mX:=J4b l g m1 omg omg;have mY:(CQ ((G.take k).map fun g=>CG (FV l g))).length=k:=by rw[FZ,HM,GF];omega
     have DR:CQ ((G.take (k+1)).map fun g=>CG (FV l g))=CQ ((G.take k).map fun g=>CG (FV l g))++[[.sl (BP ((CG (FV l g)).enc []))]]:=by
      rw[NA,hg,Option.toList_some,Ry,V'];rfl
     (refine CC ?_;simp only[go_sem,simprocAttr,c3,İ,DM (i:=k) omg]);(repeat'(first|(refine And.intro (by first|(simp;done)|(simp;omega)) ?_)|refine EA ?_|((refine BU mX ?_);simp only[go_sem,simprocAttr,CS,mY,DM (i:=k) omg])|fail));exact⟨k+1,omg,omg,by rw[DR];exact CH⟩
   ·have hS:=Kaz ks yw;have mX:=J4b l (IJ ks) (fun i hi=>by have:=eK.1 hi;omega) (by rw[bd];omega) (by rw[yV h2];omega);rw[mq,h3,BV];(refine CC ?_;simp only[go_sem,simprocAttr,FZ,c1,QG,h2,CS]);(repeat'(first|((first|refine BU hS ?_|refine BU mX ?_);simp only[go_sem,simprocAttr])|fail))
 ·rw[J7u hk,BV];obtain⟨k,s',g,e,BL⟩:=v;have c1:(k=5)=False:=AD hk;(refine CK func43 ?_;simp only[go_sem,simprocAttr,Cc,c1,AJ])
  all_goals rfl
end
def nmT(s:List UInt8):List UInt8:=if JW s then s else LV s
def vW(c:Node):List UInt8:=if c.kind=0 then [110,117,108,108]else if c.kind=1 then [102,97,108,115,101]else if c.kind=2 then [116,114,117,101]else if c.kind=3 then Kd4 c else LV c.s
def vX(n:Int):List UInt8:=if n=0 then [61,61]else if n=1 then [33,61]else if n=2 then [60]else if n=3 then [60,61]else if n=4 then [62]else [62,61]
def vY:List UInt8:=if op=5 then [109,97,112]else if op=6 then [109,97,112,95,118,97,108,117,101,115]else if op=7 then [115,101,108,101,99,116]else if op=12 then [103,114,111,117,112,95,98,121]else if op=13 then [115,111,114,116,95,98,121]else if op=15 then [100,101,108]else []
def mw(k:Int)(x:List UInt8):List UInt8:=if k=4\/k=17\/k=18 then 40::(x++[41])else x
def Kfv(zE:List UInt8):List (List UInt8)->List UInt8|[]=>[]|[x]=>x|x::y::l=>x++zE++Kfv zE (y::l)
abbrev oV:=List UInt8×Int×List UInt8
def Ÿ(p:oV):List UInt8:=if op=8 then nmT p.1++[58,32]++mw p.2.1 p.2.2 else mw p.2.1 p.2.2
def zF(l:List oV)(zE:List UInt8):List UInt8:=Kfv zE (l.map (Ÿ op))
def Kdn:List oV->List UInt8|[]=>[]|p::_=>p.2.2
def my(s:List UInt8)(n:Int)(c:Node)(l:List oV):List UInt8:=
 if op=0 then [46]
 else if op=1 then 46::nmT s
 else if op=2 then [46,91]++Lib.itoa n++[93]
 else if op=3 then [46,91]++Lib.itoa n++[58,93]
 else if op=4 then(match l with
  |[p,q]=>mw p.2.1 p.2.2++[32,124,32]++q.2.2
  |_=>[])
 else if op=8 then 123::(zF op l [44,32]++[125])
 else if op=9 then 91::(zF op l [44,32]++[93])
 else if op=10 then [116,111,95,101,110,116,114,105,101,115]
 else if op=11 then [102,114,111,109,95,101,110,116,114,105,101,115]
 else if op=14 then [114,101,118,101,114,115,101]
 else if op=16 then s++[32]++vX n++[32]++vW c
 else if op=17 then zF op l [32,97,110,100,32]
 else if op=18 then zF op l [32,111,114,32]
 else if op=19 then 40::(Kdn l++[32,124,32,110,111,116,41])
 else vY op++[40]++(if l=[]then s else Kdn l)++[41]
mutual
def vZ:RT->List UInt8|.mk k s n c BL=>my k s n c (Kfc BL)
def Kfc:RF->List oV|.nil=>[]|.cons nm t r=>(nm,t.kind,vZ t)::Kfc r
end
def sumT(l:List (List UInt8)):Nat:=(l.map List.length).sum
def va(n:Nat):(Lib.repeatL [48] n).length=n:=by rw[Lib.repeatL_length];simp
def sumP(l:List oV):Nat:=(l.map fun p=>p.2.2.length).sum
def two(a b:RT):RT:=.mk 4 [] 0 TR (.cons [] a (.cons [] b .nil))
section
attribute [local irreducible] Al Bi CL
def Ke0(x:CD):IM x Es=.ok Es:=by unfold IM;exact AB rfl
def Kfj(hp:x.part=false):IM x (nd 6 l)=.ok ((Ch x.name l).getD Es):=by
 obtain⟨b,nm,n⟩:=x;simp only at hp;subst hp;unfold nd;rw[uZ,Hd]
def Kff(hp:x.part=false):gG (nd 6 l) x=nd 6 (A8 x.name l):=by
 unfold nd;rw[gG,AA (by rw[hp];decide),Hd];rfl
def Kdv{p:List CD}{t:BM}:FN (x::p) t=if t.kind=0 then .ok t else match KS t x with
  |.error e=>if e=6 then .ok t else .error 5
  |.ok u=>if p=[]then .ok (gG t x)else match FN p u with
   |.error e=>.error e
   |.ok w=>GL [x] t w:=by rw[FN];rfl
def Td:RT:=.mk 1 [97] 0 TR .nil
def QM:RT:=.mk 16 [46,97] 5 ⟨3,0,[],[49],false,0⟩ .nil
def zG:EL Td v=IM ⟨false,[97],0⟩ v:=by unfold Td;rw[uo];rfl
def Ź(hg:GT v)(hv:(v.enc []).length<=1000):CA cx 12 [.p (.sl (B9 (Td.enc []))),.p (.sl (BP (v.enc [])))] [] (BV (EL Td v)) []:=by
 have hT:=yz [] 1 [97] 0 TR .nil de;have hF:=u7 ⟨false,[97],0⟩ v de hg.1 omg;have DD:(B9 ((RT.mk 1 [97] 0 TR .nil).enc []))[0]?=some [.int .i64 1,.int .i64 0,.str [],.str [97],.int .i64 0,.int .i64 0,.int .i64 0,.str [],.str [],.bool false,.int .i64 0]:=rfl;rw[zG];unfold Td;rw[LF]at hF⊢;generalize B9 ((RT.mk 1 [97] 0 TR .nil).enc [])=DZ at *
 (refine CK func12 ?_;simp only[go_sem,simprocAttr,DD]);(repeat'(first|((first|refine BU hT ?_|refine BU hF ?_);simp only[go_sem,simprocAttr])|fail))
def mz(hg:GT v)(hv:(v.enc []).length<=1000):CA cx 18 [.p (.sl (B9 (QM.enc []))),.p (.sl (BP (v.enc [])))] [] (.tup [.bool (HZ (IN QM v)),.int .i64 (Ht (IN QM v))]) []:=by
 have b9:VE ⟨3,0,[],[49],false,0⟩:=by decide +kernel
 have hN:=Ř b9;obtain⟨D',ZQ⟩:=mN [46,97];have hP:=yd [46,97] de;have hF:=ľ (Je [46,97]).1 v omg ZQ hg.1 omg;have hR:IN QM v=match KU (Je [46,97]).1 v with
  |.error e=>.error e
  |.ok x=>.ok (eN 5 (DT x (SK ⟨3,0,[],[49],false,0⟩))):=by
  unfold QM;rw[oM];unfold gH;rw[AB rfl];cases KU (Je [46,97]).1 v<;>rfl
 have DD:(B9 (QM.enc []))[0]?=some [.int .i64 16,.int .i64 0,.str [],.str [46,97],.int .i64 5,.int .i64 3,.int .i64 0,.str [],.str [49],.bool false,.int .i64 0]:=rfl;rw[hR];cases VL:KU (Je [46,97]).1 v with
 |error e =>
  rw[VL,BV]at hF;have:=eQ VL;subst this;simp only[HZ,Ht];generalize B9 (QM.enc [])=DZ at *
  generalize(Je [46,97]).1=P at *
  (refine CK func18 ?_;simp only[go_sem,simprocAttr,DD]);(repeat'(first|((first|refine BU hP ?_|refine BU hF ?_);simp only[go_sem,simprocAttr])|fail))
  all_goals rfl
 |ok x =>
  rw[VL,BV]at hF;have hC:=x9 _ x (SK ⟨3,0,[],[49],false,0⟩) (CS _) (uw hg.1 VL) (yH b9) (by have:=uY VL;omega) (by rw[ř];omega);have hS:=Ka3 5 (DT x (SK ⟨3,0,[],[49],false,0⟩)) omg omg;rw[hN]at hC;simp only[HZ,Ht];generalize B9 (QM.enc [])=DZ at *
  generalize(Je [46,97]).1=P at *
  (refine CK func18 ?_;simp only[go_sem,simprocAttr,DD]);(repeat'(first|((first|refine EG ?_|refine BU hP ?_|refine BU hF ?_|refine DS hC ?_|refine DS hS ?_);simp only[go_sem,simprocAttr])|fail))
structure YJ (v:List CW):Prop where
 len:v.length<=140737488355328
 row:∀n∈v,eU n
structure br (v:List CW):Prop extends YJ v where
 reach:v.length*120<=140737488351232
def J8a{v:List CW}{m:Nat}(h:aF v m=true):∃t:RT,UI t/\¬KG t.kind/\v=t.enc []/\(t.enc []).length<=m/\VK t:=by
 unfold aF at h;rw[OS]at h;obtain⟨t,h1,h2,rfl⟩:=ĥ.1 h.2;have h3:=h.1;unfold ug at h3;simp only[OS,AF,SQ]at h3;refine⟨t,h1,h2,rfl,h3.1,fun r hr=>?_⟩;have h4:=h3.2 r hr;simp only[Jx,OS,AF]at h4;exact⟨omg,omg⟩
def Kbt(v:List CW)(u:List Node)(hv:YJ v)(hu:QE u):CA cx 10 [.p (.sl (B9 v)),.p (.sl (BP u))] [] (.p (.bool (aF v 40&&TO u 40))) []:=by
 have h1:=Kg2 v 40 omg (by have:=hv.len;omega) hv.row;have h2:=Ln u 40 omg (by have:=hu.len;omega) hu.node;cases b1:aF v 40 with
 |false =>
  rw[b1]at h1;rw[Bool.false_and];refine CB func10 ?_;(repeat'(first|((refine BU h1 ?_);simp only[go_sem,simprocAttr])|fail))
 |true =>
  rw[b1]at h1;rw[Bool.true_and];refine CB func10 ?_;(repeat'(first|((first|refine BU h1 ?_|refine BU h2 ?_);simp only[go_sem,simprocAttr])|fail))
def Kec{w l:Nat}(h:Rq w l):∀k,Rq w (l+k)
 |0=>h
 |k+1=>J7x (Kec h k)
def nA{w l:Nat}(h:Rq w l)(hl:l<=41):w<=10790653185:=by
 have h2:=Kec h (41-l);rw[show l+(41-l)=41 by omega]at h2;unfold Rq at h2;simp only[Nat.reducePow,Nat.reduceAdd]at h2;omega
def Kdr{n w l:Nat}(h:Rq w l)(hl:l<=41)(hn:n<=40):n*w<=431626127400:=by
 have h1:=nA h hl;have h2:=Nat.mul_le_mul hn h1;omega
def JJ:BM:=.mk 3 [49] false 0 .nil
def Mn:BM:=nd 6 [([97],JJ)]
def Kgl:EZ JJ:=by
 unfold JJ;rw[Lu];exact⟨by decide,Sb 3,I6⟩
def Ka9:GT JJ:=⟨Kgl,by
 unfold JJ GC;intro n hn;rw[A6,Bl]at hn;simp only[DN,Ebj,or_false]at hn;subst hn;exact⟨by decide,by decide,by decide,by decide⟩⟩
def ź:GT Mn:=oR (List.pairwise_singleton _ _) fun p hp=>by
 simp only[DN,Ebj,or_false]at hp;subst hp;exact⟨(by decide:valid [97]=true),(by decide:(1:Nat)<=1000000),Ka9⟩
def zH:CA cx 11 [] [] (.p (.bool true)) []:=by
 have hO:=Zc [([97],JJ)] de (by intro p hp;simp only[DN,Ebj,or_false]at hp;subst hp;exact(by decide:(1:Nat)<=1000000));have GZ:M3 [([97],JJ)]=true:=by
  unfold M3;rw[AF];refine⟨fun p hp=>?_,by simp⟩;simp only[DN,Ebj,or_false]at hp;subst hp;exact(by decide:valid [97]=true)
 rw[RS,AB GZ,show Lp [([97],JJ)]=[([97],JJ)]from rfl,show BM.mk 6 [] false 0 (A1 [([97],JJ)])=Mn from rfl,show Bd [([97],JJ)]=[[.str [97]]]from rfl,show A4 [([97],JJ)]=[[.sl (BP (JJ.enc []))]]from rfl]at hO;have e1:=Ź Mn ź de;have e2:=Ź Es gK de;have e3:=Ź JJ Ka9 de;have x1:EL Td Mn=.ok JJ:=by rw[zG];unfold Mn;rw[Kfj rfl];rfl
 have x2:EL Td Es=.ok Es:=by rw[zG];exact Ke0 _
 have x3:EL Td JJ=.error 5:=by rw[zG];exact yI de de
 rw[x1,BV]at e1;rw[x2,BV]at e2;rw[x3,BV]at e3;have hH:=mz Mn ź de;have hB:HZ (IN QM Mn)=true:=by decide +kernel
 have hC:Ht (IN QM Mn)=0:=by decide +kernel
 rw[hB,hC]at hH;have hD:=Ū [⟨false,[97],0⟩] Mn de (fun x hx=>by
  simp only[DN,Ebj,or_false]at hx;subst hx;exact⟨rfl,(by decide:valid [97]=true)⟩) ź de
 have x4:FN [⟨false,[97],0⟩] Mn=.ok (nd 6 []):=by
  rw[Kdv,AA (show ¬Mn.kind=0 from(by decide:¬(6:Int)=0)),show KS Mn ⟨false,[97],0⟩=.ok JJ from by unfold Mn;rw[Vv rfl];rfl];simp only;rw[AB trivial];unfold Mn;rw[Kff rfl];rfl
 rw[x4,BV]at hD;have hS:=E2 (JJ.enc []) (JJ.enc []) de de;rw[AG rfl]at hS;have r1:B9 (Td.enc [])=[[.int .i64 1,.int .i64 0,.str [],.str [97],.int .i64 0,.int .i64 0,.int .i64 0,.str [],.str [],.bool false,.int .i64 0]]:=rfl;have r2:B9 (QM.enc [])=[[.int .i64 16,.int .i64 0,.str [],.str [46,97],.int .i64 5,.int .i64 3,.int .i64 0,.str [],.str [49],.bool false,.int .i64 0]]:=rfl;have r3:BP (JJ.enc [])=[[.int .i64 3,.int .i64 0,.str [],.str [49],.bool false,.int .i64 0]]:=rfl;have r4:BP (Mn.enc [])=[[.int .i64 6,.int .i64 1,.str [],.str [],.bool false,.int .i64 0],[.int .i64 3,.int .i64 0,.str [97],.str [49],.bool false,.int .i64 0]]:=rfl;have r5:BP (Es.enc [])=[[.int .i64 0,.int .i64 0,.str [],.str [],.bool false,.int .i64 0]]:=rfl;have r6:BP ((nd 6 []).enc [])=[[.int .i64 6,.int .i64 0,.str [],.str [],.bool false,.int .i64 0]]:=rfl;have r7:Bb [⟨false,[97],0⟩]=[[.bool false,.str [97],.int .i64 0]]:=rfl;rw[r3,r4]at hO e1;rw[r1]at e1 e2 e3;rw[r5]at e2;rw[r3]at e3 hS;rw[r2,r4]at hH;rw[r7,r4,r6]at hD;refine CB func11 ?_;(repeat'(first|((first|refine BU hO ?_|refine BU e1 ?_|refine BU e2 ?_|refine BU e3 ?_|refine BU hH ?_|refine BU hD ?_|refine BU hS ?_);simp only[go_sem,simprocAttr])|fail))
end
end Go.LX
namespace Go.LX
open Go Go.Proofs Go.Proofs.Tryz Go.RowKit Go.ChangeShapes Go.WideShapes Go.ChangeAt Go.Lib
open Go.Proofs.YtaghbedfogiopaaGreatDoor
variable {H:Type}{w:World}{b j:Nat}{v:Value}{q:List MemPlace}{ts:List TypeId}
def cTm:Tryz.prog.cellsOf 38=11:=kr
def bTm:0<Tryz.prog.bytesOf 38:=by decide +kernel
def CW.vals(r:CW):List Value:=[.int .i64 r.kind,.int .i64 r.many,.string ⟨⟨r.name⟩⟩,.string ⟨⟨r.s⟩⟩,.int .i64 r.n,.int .i64 r.c.kind,.int .i64 r.c.many,.string ⟨⟨r.c.name⟩⟩,.string ⟨⟨r.c.s⟩⟩,.bool r.c.neg,.int .i64 r.c.e]
def nB{enc:TypeId×Value->H}(fuel:Nat)(cs:List Value)(y:DataW H×List MemPlace)(h:DataW.trod enc Tryz.prog w 0 (fun _=>true) true fuel 38 cs=some y)(hz:∀n∈y.1.weights Tryz.prog 38,n<=reachBytes) :
  ∃x:CW,eU x/\cs=x.vals:=by
 obtain⟨xs,n,_,rfl,hl,CY,hf⟩:=DataW.trod_struct underlying38 h;rw[cTm]at hl
 match xs,CY,cs,hl with
 |[y0,y1,y2,y3,y4,y5],_,[a0,a1,a2,a3,a4,a5,a6,a7,a8,a9,a10],_ =>
  have g0:=hf 0 _ rfl;have g1:=hf 1 _ rfl;have g2:=hf 2 _ rfl;have g3:=hf 3 _ rfl;have g4:=hf 4 _ rfl;have g5:=hf 5 _ rfl;simp only[fy,tr,tu,ú,OB,cg,XQ,QN,List.getElem?_cons_zero,List.getElem?_cons_succ]at g0 g1 g2 g3 g4 g5;obtain⟨x0,e0,rfl,_⟩:=DataW.trod_int underlying3 g0;obtain⟨x1,e1,rfl,_⟩:=DataW.trod_int underlying3 g1;obtain⟨x2,e2,rfl,z2⟩:=DataW.trod_string underlying9 g2;obtain⟨x3,e3,rfl,z3⟩:=DataW.trod_string underlying9 g3;obtain⟨x4,e4,rfl,_⟩:=DataW.trod_int underlying3 g4;obtain⟨c,hc,e5⟩:=Jly _ _ _ g5 (fun n hn=>hz n (by simp[DataW.weights,DataW.weightsEach,underlying38,hn]));cases e0;cases e1;cases e2;cases e3;cases e4;cases e5;have hm:maxLen=9223372036854775807:=de;have s2:=T8 x2;have s3:=T8 x3;refine⟨⟨x0,x1,x2.data.toList,x3.data.toList,x4,c⟩,⟨?_,?_,hc.s,hc.e0,hc.e1⟩,?_⟩
  ·show x3.data.toList.length<=_;omega
  ·show x2.data.toList.length<=_;omega
  ·simp only[CW.vals,Jc3]
def Kgb(w:World)(Im:Nat->Prop)(x:CW)(j:Nat)(p:PV)(h:x.cells[j]?=some p):BW w Im (x.vals.getD j undef) p:=by
 match j,h with
 |0,h=>cases h;exact BW.int _ _
 |1,h=>cases h;exact BW.int _ _
 |2,h=>cases h;exact BW.str _
 |3,h=>cases h;exact BW.str _
 |4,h=>cases h;exact BW.int _ _
 |5,h=>cases h;exact BW.int _ _
 |6,h=>cases h;exact BW.int _ _
 |7,h=>cases h;exact BW.str _
 |8,h=>cases h;exact BW.str _
 |9,h=>cases h;exact BW.bool _
 |10,h=>cases h;exact BW.int _ _
 |j+11,h=>simp[CW.cells]at h
def Ż:Tryz.prog.bytesOf 38=120:=by decide +kernel
def nC{enc:TypeId×Value->H}(GZ:Cell.okWide Tryz.prog w .any b 23 v){fuel:Nat}{x:DataW H×List MemPlace}(h:DataW.trod enc Tryz.prog w 0 (fun _=>true) true fuel 23 [v]=some x)(hz:∀n∈x.1.weights Tryz.prog 23,n<=reachBytes) :
  ∃p:List CW,br p/\BW w (Ja w) v (.sl (B9 p)):=by
 obtain⟨p,h1,h2,h3⟩:=Kc8 CW.vals CW.cells eU underlying23 cTm bTm (fun _=>rfl) (fun _=>rfl) (fun x p hp=>by simp[CW.cells]at hp;rcases hp with rfl|rfl|rfl|rfl|rfl|rfl|rfl|rfl|rfl|rfl|rfl<;>rfl) (Kgb w) nB GZ h hz;rw[Ż]at h1;have h1:p.length*120<=140737488351232:=h1;exact⟨p,⟨⟨omg,h2⟩,h1⟩,h3⟩
def nD{enc:TypeId×Value->H}{d:DataW H}{ds:List (DataW H)}(GZ:Value.okWide Tryz.prog w .any b 23 v)(h:DataW.Trod enc Tryz.prog w 0 (fun _=>true) true 23 v d q)(hz:(DataW.weightsEach Tryz.prog ts ds).all (· <= reachBytes)=true)(h1:ts[j]?=some 23)(h2:ds[j]?=some d):∃p:List CW,br p/\BW w (Ja w) v (.sl (B9 p)):=by
 simp only[Value.okWide,underlying23]at GZ;obtain⟨fuel,h⟩:=h;rw[Jkh underlying23 GZ]at h;exact nC GZ h (J0 hz h1 h2)
def vb{enc:TypeId×Value->H}{d:DataW H}{ds:List (DataW H)}(GZ:Value.okWide Tryz.prog w .any b 23 v)(h:DataW.Trod enc Tryz.prog w 0 (fun _=>true) true 23 v d q)(hz:(DataW.weightsEach Tryz.prog ts ds).all (· <= reachBytes)=true)(h1:ts[j]?=some 23)(h2:ds[j]?=some d):∃p:List CW,YJ p/\BW w (Ja w) v (.sl (B9 p)):=by
 obtain⟨p,h1,h2⟩:=nD GZ h hz h1 h2;exact⟨p,h1.toYJ,h2⟩
def vc{W:World}(h:laidMetH Tryz.prog Rows.evalTellsRow.laid W):Is W (Ja W):=Jdp h
end Go.LX
namespace Go.LX
open Go Go.RowKit Go.Proofs Go.Proofs.Tryz
attribute [local irreducible] Al CL Bi
variable (f:RT)(kl:List KT){i:Nat}(l:List IK){p:IK}
def oW(w:Nat):Prop:=∀v:BM,EZ v->GC v->(v.enc []).length*w<=450000000000->CA cx 12 [.p (.sl (B9 (f.enc []))),.p (.sl (BP (v.enc [])))] [] (BV (EL f v)) []
def QZ(f:BM->Except Nat BM):Nat->List BM->List (Nat×BM)
 |_,[]=>[]
 |i,t::l=>match f t with
  |.error e=>if e=5 then []else QZ f (i+1) l
  |.ok u=>(i,u)::QZ f (i+1) l
def XP(f:BM->Except Nat BM):List BM->Int
 |[]=>0
 |t::l=>match f t with
  |.error e=>if e=5 then 5 else XP f l
  |.ok _=>XP f l
def J6z{f:BM->Except Nat BM}:∀{l:List BM} {i:Nat},match IP f i l with
  |.ok us=>QZ f i l=us/\XP f l=0
  |.error _=>XP f l=5
 |[],i=>by rw[IP];exact⟨rfl,rfl⟩
 |t::l,i=>by
  have ih:=J6z (f:=f) (l:=l) (i:=i+1);rw[IP,QZ,XP];cases f t with
  |error e =>
   simp only;by_cases e5:e=5
   ·rw[AB e5,AB e5,AB e5]
   ·rw[AA e5,AA e5,AA e5];exact ih
  |ok u =>
   simp only;cases hp:IP f (i+1) l with
   |ok us=>rw[hp]at ih;exact⟨by rw[ih.1],ih.2⟩
   |error e=>rw[hp]at ih;exact ih
def J37{f:BM->Except Nat BM}:∀{l:List BM} {i:Nat},(QZ f i l).length<=l.length
 |[],i=>CS _
 |t::l,i=>by
  have ih:=J37 (f:=f) (l:=l) (i:=i+1);rw[QZ];cases f t with
  |error e =>
   simp only;split
   ·exact EK _
   ·rw[DH];omega
  |ok u=>simp only[DH];omega
def J8t{kl:List KT}{us:List (Nat×BM)}{q:KT}{u:BM}(hq:kl[i]?=some q):Bd (LH (kl.map (·.1)) us)++[[.str q.1]]=Bd (LH (kl.map (·.1)) (us++[(i,u)])):=by
 unfold LH;rw[Ry,T6];simp[Bd,GU,hq]
def Kg9(us:List (Nat×BM))(i:Nat)(q:KT)(u:BM)(hq:kl[i]?=some q)(VR:us.length<=600000000000):CA cx 88 [.p (.int .i64 i),.p (.sl (BP (u.enc []))),.ptr 1000 0 0,.ptr 1001 0 0,.ptr 1002 0 0] [(1000,.var 53 [.own 500003 0 us.length]),(1001,.var 61 [.p (.sl (Bd kl))]),(1002,.var 61 [.own 500004 0 us.length]),(500003,.row 25 1 (CQ (us.map (·.2)))),(500004,.row 9 1 (Bd (LH (kl.map (·.1)) us)))] (.tup []) [(1000,.var 53 [.own 500003 0 (us.length+1)]),(1001,.var 61 [.p (.sl (Bd kl))]),(1002,.var 61 [.own 500004 0 (us.length+1)]),(500003,.row 25 1 (CQ ((us++[(i,u)]).map (·.2)))),(500004,.row 9 1 (Bd (LH (kl.map (·.1)) (us++[(i,u)]))))]:=by
 have JY:(Bd kl)[i]?=some [.str q.1]:=by simp[Bd,hq]
 have ha:=J8t (us:=us) (u:=u) hq;have hb:CQ (us.map (·.2))++[[.sl (BP (u.enc []))]]=CQ ((us++[(i,u)]).map (·.2)):=by rw[Ry,V'];rfl
 have h1:(CQ (us.map (·.2))).length=us.length:=sm;have h2:(Bd (LH (kl.map (·.1)) us)).length=us.length:=by rw[A9];unfold LH;simp
 obtain⟨a,r,DV⟩:∃a r,kl=a::r:=by
  cases kl with
  |nil=>simp at hq
  |cons a r=>exact⟨a,r,rfl⟩
 have DA:Bd kl=[.str a.1]::Bd r:=by rw[DV];rfl
 generalize Bd kl=ns at *
 subst DA;generalize CQ ((us++[(i,u)]).map (·.2))=t1 at *
 generalize Bd (LH (kl.map (·.1)) (us++[(i,u)]))=t2 at *
 generalize Bd (LH (kl.map (·.1)) us)=t3 at *
 generalize CQ (us.map (·.2))=t4 at *
 (refine TK false [(10,500003),(19,500004)] func88 ?_;simp only[go_sem,simprocAttr,hb,h1]);(repeat'(first|(refine And.intro (by first|(simp;done)|(simp;omega)) ?_)|refine EA ?_|fail));refine tD (qi 5 8 8) [2] (.node 0 (.node 1 (.node 3 (.node 4 (.node 5 (.node 6 (.node 7 .leaf .nil) .nil) .nil) .nil) .nil) .nil) (.node 1 (.node 0 (.node 3 (.node 4 (.node 5 (.node 6 (.node 7 .leaf .nil) .nil) .nil) .nil) .nil) (.node 3 (.node 0 (.node 4 (.node 5 (.node 6 (.node 7 .leaf .nil) .nil) .nil) .nil) (.node 4 (.node 0 (.node 5 (.node 6 (.node 7 .leaf .nil) .nil) .nil) (.node 5 (.node 0 (.node 6 (.node 7 .leaf .nil) .nil) .nil) .nil)) .nil)) .nil)) .nil)) 7 hm rfl kr kr ?_;simp only[go_sem,simprocAttr,JY,ha,h2];(repeat'(first|(omega)|(simp;done)|(refine And.intro ?_ ?_)|fail))
 all_goals omega
def Kf9(us:List (Nat×BM))(i:Nat)(u:BM)(VR:us.length<=600000000000):CA cx 88 [.p (.int .i64 i),.p (.sl (BP (u.enc []))),.ptr 1000 0 0,.ptr 1001 0 0,.ptr 1002 0 0] [(1000,.var 53 [.own 500003 0 us.length]),(1001,.var 61 [.p .snil]),(1002,.var 61 [.p .snil]),(500003,.row 25 1 (CQ (us.map (·.2))))] (.tup []) [(1000,.var 53 [.own 500003 0 (us.length+1)]),(1001,.var 61 [.p .snil]),(1002,.var 61 [.p .snil]),(500003,.row 25 1 (CQ ((us++[(i,u)]).map (·.2))))]:=by
 have hb:CQ (us.map (·.2))++[[.sl (BP (u.enc []))]]=CQ ((us++[(i,u)]).map (·.2)):=by rw[Ry,V'];rfl
 have h1:(CQ (us.map (·.2))).length=us.length:=sm;generalize CQ ((us++[(i,u)]).map (·.2))=t1 at *
 generalize CQ (us.map (·.2))=t4 at *
 (refine TK false [(10,500003)] func88 ?_;simp only[go_sem,simprocAttr,hb,h1]);(repeat'(first|(refine And.intro (by first|(simp;done)|(simp;omega)) ?_)|refine EA ?_|fail))
 all_goals omega
def zI{f:BM->Except Nat BM}{l:List BM}{t:BM}(h:l[i]?=some t):l.drop i=t::l.drop (i+1):=by
 obtain⟨a,b⟩:=DX.1 h;rw[Mx a,b]
def Kd1(f:RT)(w:Nat)(hE:oW f w)(he:∀v e,EL f v=.error e->e=5\/e=6)(l:List BM)(hl:∀t∈l,EZ t/\GC t/\(t.enc []).length*w<=450000000000)(GB:l.length<=450000000000)(DV:l.length<=kl.length):CA cx 87 [.p (.sl (B9 (f.enc []))),.p (.sl (CQ l)),.fn 88 [1000,1001,1002]] [(1000,.var 53 [.own 500003 0 0]),(1001,.var 61 [.p (.sl (Bd kl))]),(1002,.var 61 [.own 500004 0 0]),(500003,.row 25 1 (CQ ((([]:List (Nat×BM))).map (·.2)))),(500004,.row 9 1 (Bd (LH (kl.map (·.1)) (([]:List (Nat×BM))))))] (.p (.int .i64 (XP (EL f) l))) [(1000,.var 53 [.own 500003 0 (QZ (EL f) 0 l).length]),(1001,.var 61 [.p (.sl (Bd kl))]),(1002,.var 61 [.own 500004 0 (QZ (EL f) 0 l).length]),(500003,.row 25 1 (CQ ((QZ (EL f) 0 l).map (·.2)))),(500004,.row 9 1 (Bd (LH (kl.map (·.1)) (QZ (EL f) 0 l))))]:=by
 (refine CK func87 ?_;simp only[go_sem,simprocAttr,FZ]);refine CL.loop (fun x:Nat×List (Nat×BM)=>⟨Ba 35 [(0,.p (.sl (B9 (f.enc [])))),(2,.fn 88 [1000,1001,1002]),(11,.p (.sl (CQ l))),(12,.p (.int .i64 l.length)),(13,.p (.int .i64 x.1))],[(1000,.var 53 [.own 500003 0 x.2.length]),(1001,.var 61 [.p (.sl (Bd kl))]),(1002,.var 61 [.own 500004 0 x.2.length]),(500003,.row 25 1 (CQ ((x.2).map (·.2)))),(500004,.row 9 1 (Bd (LH (kl.map (·.1)) (x.2))))]⟩) (fun x=>x.1<=l.length/\x.2.length<=x.1/\x.2++QZ (EL f) x.1 (l.drop x.1)=QZ (EL f) 0 l/\XP (EL f) (l.drop x.1)=XP (EL f) l) (fun x=>l.length-x.1) (0,[]) CH ⟨EK _,CS _,rfl,rfl⟩ ?_;rintro⟨i,us⟩ ⟨h1,h2,h3,h4⟩;simp only at h1 h2 h3 h4;by_cases BZ:i<l.length
 ·have c1:((i:Int)<(l.length:Int))=True:=AE omg;obtain⟨t,ht⟩:∃t,l[i]?=some t:=⟨_,C' BZ⟩
  obtain⟨g1,g2,g3⟩:=hl t (D4 ht);have hF:=hE t g1 g2 g3;have IG:=RW ht;rw[zI (f:=EL f) ht,QZ]at h3;rw[zI (f:=EL f) ht,XP]at h4;cases hf:EL f t with
  |error e =>
   rw[hf,BV]at hF;rw[hf]at h3 h4;simp only at h3 h4;rcases he t e hf with rfl|rfl
   ·rw[AB rfl,ID]at h3;rw[AB rfl]at h4;rw[<-h3,<-h4];(refine CC ?_;simp only[go_sem,simprocAttr,c1,IG]);(repeat'(first|((refine BU hF ?_);simp only[go_sem,simprocAttr])|fail))
    all_goals rfl
   ·rw[AA de]at h3 h4;(refine CC ?_;simp only[go_sem,simprocAttr,c1,IG,DM (i:=i) omg]);(repeat'(first|((refine BU hF ?_);simp only[go_sem,simprocAttr,DM (i:=i) omg])|fail))
    all_goals exact⟨(i+1,us),⟨by simp only;omega,by simp only;omega,h3,h4⟩,by simp only;omega,CH⟩
  |ok u =>
   rw[hf,BV]at hF;rw[hf]at h3 h4;simp only at h3 h4;obtain⟨q,hq⟩:∃q,kl[i]?=some q:=⟨_,C' omg⟩
   have hC:=Kg9 kl us i q u hq omg;have hn:us.length+1=(us++[(i,u)]).length:=sm;rw[hn]at hC;(refine CC ?_;simp only[go_sem,simprocAttr,c1,IG,DM (i:=i) omg]);(repeat'(first|((first|refine BU hF ?_|refine BU hC ?_);simp only[go_sem,simprocAttr,DM (i:=i) omg])|fail))
   all_goals exact⟨(i+1,us++[(i,u)]),⟨by simp only;omega,by simp only;rw[<-hn];omega,by simp only;rw[KJ];exact h3,h4⟩,by simp only;omega,CH⟩
 ·obtain rfl:i=l.length:=omg;have c1:((l.length:Int)<(l.length:Int))=False:=AD omg;rw[JD (CS _),QZ,ID]at h3;rw[JD (CS _),XP]at h4;rw[<-h3,<-h4];(refine CC ?_;simp only[go_sem,simprocAttr,c1])
  all_goals rfl
def Kew(w:Nat)(hE:oW f w)(he:∀v e,EL f v=.error e->e=5\/e=6)(l:List BM)(hl:∀t∈l,EZ t/\GC t/\(t.enc []).length*w<=450000000000)(GB:l.length<=450000000000):CA cx 87 [.p (.sl (B9 (f.enc []))),.p (.sl (CQ l)),.fn 88 [1000,1001,1002]] [(1000,.var 53 [.own 500003 0 0]),(1001,.var 61 [.p .snil]),(1002,.var 61 [.p .snil]),(500003,.row 25 1 (CQ ((([]:List (Nat×BM))).map (·.2))))] (.p (.int .i64 (XP (EL f) l))) [(1000,.var 53 [.own 500003 0 (QZ (EL f) 0 l).length]),(1001,.var 61 [.p .snil]),(1002,.var 61 [.p .snil]),(500003,.row 25 1 (CQ ((QZ (EL f) 0 l).map (·.2))))]:=by
 (refine CK func87 ?_;simp only[go_sem,simprocAttr,FZ]);refine CL.loop (fun x:Nat×List (Nat×BM)=>⟨Ba 35 [(0,.p (.sl (B9 (f.enc [])))),(2,.fn 88 [1000,1001,1002]),(11,.p (.sl (CQ l))),(12,.p (.int .i64 l.length)),(13,.p (.int .i64 x.1))],[(1000,.var 53 [.own 500003 0 x.2.length]),(1001,.var 61 [.p .snil]),(1002,.var 61 [.p .snil]),(500003,.row 25 1 (CQ ((x.2).map (·.2))))]⟩) (fun x=>x.1<=l.length/\x.2.length<=x.1/\x.2++QZ (EL f) x.1 (l.drop x.1)=QZ (EL f) 0 l/\XP (EL f) (l.drop x.1)=XP (EL f) l) (fun x=>l.length-x.1) (0,[]) CH ⟨EK _,CS _,rfl,rfl⟩ ?_;rintro⟨i,us⟩ ⟨h1,h2,h3,h4⟩;simp only at h1 h2 h3 h4;by_cases BZ:i<l.length
 ·have c1:((i:Int)<(l.length:Int))=True:=AE omg;obtain⟨t,ht⟩:∃t,l[i]?=some t:=⟨_,C' BZ⟩
  obtain⟨g1,g2,g3⟩:=hl t (D4 ht);have hF:=hE t g1 g2 g3;have IG:=RW ht;rw[zI (f:=EL f) ht,QZ]at h3;rw[zI (f:=EL f) ht,XP]at h4;cases hf:EL f t with
  |error e =>
   rw[hf,BV]at hF;rw[hf]at h3 h4;simp only at h3 h4;rcases he t e hf with rfl|rfl
   ·rw[AB rfl,ID]at h3;rw[AB rfl]at h4;rw[<-h3,<-h4];(refine CC ?_;simp only[go_sem,simprocAttr,c1,IG]);(repeat'(first|((refine BU hF ?_);simp only[go_sem,simprocAttr])|fail))
    all_goals rfl
   ·rw[AA de]at h3 h4;(refine CC ?_;simp only[go_sem,simprocAttr,c1,IG,DM (i:=i) omg]);(repeat'(first|((refine BU hF ?_);simp only[go_sem,simprocAttr,DM (i:=i) omg])|fail))
    all_goals exact⟨(i+1,us),⟨by simp only;omega,by simp only;omega,h3,h4⟩,by simp only;omega,CH⟩
  |ok u =>
   rw[hf,BV]at hF;rw[hf]at h3 h4;simp only at h3 h4;have hC:=Kf9 us i u omg;have hn:us.length+1=(us++[(i,u)]).length:=sm;rw[hn]at hC;(refine CC ?_;simp only[go_sem,simprocAttr,c1,IG,DM (i:=i) omg]);(repeat'(first|((first|refine BU hF ?_|refine BU hC ?_);simp only[go_sem,simprocAttr,DM (i:=i) omg])|fail))
   all_goals exact⟨(i+1,us++[(i,u)]),⟨by simp only;omega,by simp only;rw[<-hn];omega,by simp only;rw[KJ];exact h3,h4⟩,by simp only;omega,CH⟩
 ·obtain rfl:i=l.length:=omg;have c1:((l.length:Int)<(l.length:Int))=False:=AD omg;rw[JD (CS _),QZ,ID]at h3;rw[JD (CS _),XP]at h4;rw[<-h3,<-h4];(refine CC ?_;simp only[go_sem,simprocAttr,c1])
  all_goals rfl
def J5a(w:Nat)(hE:oW f w)(hw:1<=w)(he:∀v e,EL f v=.error e->e=5\/e=6)(hs:∀t u,GT t->(t.enc []).length*w<=450000000000->EL f t=.ok u->(u.enc []).length<=w*(t.enc []).length)(FL:Bool)(v:BM)(hg:GT v)(hv:(v.enc []).length*w<=450000000000):CA cx 38 [.p (.sl (B9 (f.enc []))),.p (.sl (BP (v.enc []))),.p (.bool FL)] [] (BV (VH (EL f) FL v)) []:=by
 have aj:(v.enc []).length<=(v.enc []).length*w:=gQ _ hw;have DI:=QH v;have HI:=SN (CV v);have hP:=vR v omg;have OA:=cV hg;have ny:w*ER (CV v)<=450000000000:=by
  have:=ZT w (show ER (CV v)<=(v.enc []).length by omega);rw[UA w (v.enc []).length]at this;omega
 have nE:∀t∈CV v,EZ t/\GC t/\(t.enc []).length*w<=450000000000:=fun t ht=>⟨(OA t ht).1,(OA t ht).2,by
  have:=M' w (WA ht);rw[UA (ER (CV v)) w]at this;omega⟩
 have TT:=yi (EL f) (CV v) 0;have F':=fun us=>yl (f:=EL f) (w:=w) (l:=CV v) (i:=0) (us:=us) (fun t ht u hu=>hs t u (OA t ht) (nE t ht).2.2 hu)
 have Ux:=J37 (f:=EL f) (l:=CV v) (i:=0);have WC:=J6z (f:=EL f) (l:=CV v) (i:=0);obtain⟨k,s,g,e,BL⟩:=v;have ES:=Cc [] k s g e BL;have DV:=LU BL;have h9:((BM.mk k s g e BL).enc []).length=BL.enc.length+1:=by rw[A6,DH]
 have cW:CV (.mk k s g e BL)=BL.list.map (·.2):=rfl;have mo:(CV (.mk k s g e BL)).length=BL.list.length:=by rw[cW,HM]
 by_cases mh:k=5\/k=6
 ·have c5:(k<5)=False:=AD omg;have Ŕ:VH (EL f) FL (.mk k s g e BL)=if FL=true/\k=6 then(match MY (EL f) BL.list with
   |.error e=>.error e
   |.ok l=>.ok (nd 6 l))else match MX (EL f) (CV (.mk k s g e BL))with
   |.error e=>.error e
   |.ok l=>.ok (CG l):=by unfold VH;exact AB mh
  have TV:=Ń (EL f) (BL.list.map (·.1)) BL.list 0 sm;rw[<-cW]at TV;rw[Ŕ];rcases mh with rfl|rfl
  ·have hN:=J1s 5 s g e BL de;have hG:=Kew f w hE he (CV (.mk 5 s g e BL)) nE omg;cases PZ:IP (EL f) 0 (CV (.mk 5 s g e BL))with
   |error er =>
    rw[PZ]at WC TT TV;simp only at WC TT TV;have h5:=vA PZ;subst h5;rw[TT,TV];simp only[ite_self];rw[BV];rw[WC]at hG;generalize BP ((BM.mk 5 s g e BL).enc [])=V at *
    generalize QZ (EL f) 0 (CV (.mk 5 s g e BL))=us at *
    generalize CV (.mk 5 s g e BL)=KK at *
    (refine ku false [] func38 ?_)
    (refine CL.seq ?_);refine HO ?_
    (refine CL.seq ?_);(refine CC ?_;simp only[go_sem,simprocAttr,ES])
    (refine CL.seq ?_);refine HO ?_
    (repeat'(first|((refine BU hN ?_);simp only[go_sem,simprocAttr])|fail))
    (refine CL.seq ?_);refine HO ?_
    (refine CL.seq ?_);refine HO ?_
    refine HD (ZE _ (b:=10) (j:=0) (d:=500) 25 1 (.inl de) (T':=53) (cs:=[.p .snil]) rfl rfl) ?_;simp only[St.nilCell,St.nilReg,Ms,go_sem,simprocAttr,ES];refine HD (s':=⟨Ba 44 [(0,.p (.sl (B9 (f.enc [])))),(1,.p (.sl V)),(2,.p (.bool FL)),(8,.ptr 8 0 0),(9,.ptr 9 0 0),(10,.ptr 10 0 0)],[(10,.var 53 [.own 500 0 0]),(8,.var 61 [.p .snil]),(9,.var 61 [.p .snil]),(500,.row 25 1 [])]⟩) CH ?_;refine HO ?_;(repeat'(first|((first|refine BU hP ?_|refine BU hG ?_);simp only[go_sem,simprocAttr])|fail))
    all_goals rfl
   |ok us =>
    rw[PZ]at WC TT;simp only at WC TT;rw[AA sm,TT,BV];rw[WC.1,WC.2]at hG;rw[WC.1]at Ux;have bW:=F' us PZ;have hL:=bo (us.map (·.2)) omg;have JI:(CQ (us.map (·.2))).take us.length=CQ (us.map (·.2)):=DK sm;have DO:(us.length<=(CQ (us.map (·.2))).length)=True:=AE sm;generalize BP ((BM.mk 5 s g e BL).enc [])=V at *
    generalize CV (.mk 5 s g e BL)=KK at *
    generalize CQ (us.map (·.2))=TU at *
    (refine ku false [] func38 ?_)
    (refine CL.seq ?_);refine HO ?_
    (refine CL.seq ?_);(refine CC ?_;simp only[go_sem,simprocAttr,ES])
    (refine CL.seq ?_);refine HO ?_
    (repeat'(first|((refine BU hN ?_);simp only[go_sem,simprocAttr])|fail))
    (refine CL.seq ?_);refine HO ?_
    (refine CL.seq ?_);refine HO ?_
    refine HD (ZE _ (b:=10) (j:=0) (d:=500) 25 1 (.inl de) (T':=53) (cs:=[.p .snil]) rfl rfl) ?_;simp only[St.nilCell,St.nilReg,Ms,go_sem,simprocAttr,ES,JI,DO,if_true];refine HD (s':=⟨Ba 44 [(0,.p (.sl (B9 (f.enc [])))),(1,.p (.sl V)),(2,.p (.bool FL)),(8,.ptr 8 0 0),(9,.ptr 9 0 0),(10,.ptr 10 0 0)],[(10,.var 53 [.own 500 0 0]),(8,.var 61 [.p .snil]),(9,.var 61 [.p .snil]),(500,.row 25 1 [])]⟩) CH ?_;refine HO ?_;(repeat'(first|(apply BY<;>intro h)|((first|refine BU hP ?_|refine BU hG ?_|refine BU hL ?_);simp only[go_sem,simprocAttr,ES,JI,DO])|fail))
    all_goals rfl
  ·have hN:=J46 s g e BL omg;have hG:=Kd1 BL.list f w hE he (CV (.mk 6 s g e BL)) nE omg omg;cases PZ:IP (EL f) 0 (CV (.mk 6 s g e BL))with
   |error er =>
    rw[PZ]at WC TT TV;simp only at WC TT TV;have h5:=vA PZ;subst h5;rw[TT,TV];simp only[ite_self];rw[BV];rw[WC]at hG;generalize BP ((BM.mk 6 s g e BL).enc [])=V at *
    generalize QZ (EL f) 0 (CV (.mk 6 s g e BL))=us at *
    generalize CV (.mk 6 s g e BL)=KK at *
    (refine ku false [] func38 ?_)
    (refine CL.seq ?_);refine HO ?_
    (refine CL.seq ?_);(refine CC ?_;simp only[go_sem,simprocAttr,ES])
    (refine CL.seq ?_);refine HO ?_
    (repeat'(first|((refine BU hN ?_);simp only[go_sem,simprocAttr])|fail))
    (refine CL.seq ?_);refine HO ?_
    (refine CL.seq ?_);refine HO ?_
    refine HD (ZE _ (b:=10) (j:=0) (d:=500) 25 1 (.inl de) (T':=53) (cs:=[.p .snil]) rfl rfl) ?_;simp only[St.nilCell,St.nilReg,Ms,go_sem,simprocAttr,ES];refine HD (ZE _ (b:=9) (j:=0) (d:=501) 9 1 (.inl de) (T':=61) (cs:=[.p .snil]) rfl rfl) ?_;simp only[St.nilCell,St.nilReg,Ms,go_sem,simprocAttr,ES];refine HD (s':=⟨Ba 44 [(0,.p (.sl (B9 (f.enc [])))),(1,.p (.sl V)),(2,.p (.bool FL)),(8,.ptr 8 0 0),(9,.ptr 9 0 0),(10,.ptr 10 0 0)],[(10,.var 53 [.own 500 0 0]),(8,.var 61 [.p (.sl (Bd BL.list))]),(9,.var 61 [.own 501 0 0]),(500,.row 25 1 []),(501,.row 9 1 [])]⟩) CH ?_;refine HO ?_;(repeat'(first|((first|refine BU hP ?_|refine BU hG ?_);simp only[go_sem,simprocAttr])|fail))
    all_goals rfl
   |ok us =>
    rw[PZ]at WC TT TV;simp only at WC TT TV;rw[WC.1,WC.2]at hG;rw[WC.1]at Ux;have bW:=F' us PZ;have hL:=bo (us.map (·.2)) omg;have BZ:=vB PZ;have MQ:∀p∈us,p.1<BL.list.length:=fun p hp=>by
     have:=(BZ p hp).2;rw[mo]at this;omega
    have hr:EJ BL.list:=(Lu.1 hg.1).2.1.2.2 rfl;have OY:=J1x hr (ym PZ) MQ;have LC:=J4m MQ;have oA:∀p∈LH (BL.list.map (·.1)) us,valid p.1=true/\p.1.length<=1000000:=fun p hp=>by
     obtain⟨r,hr,e⟩:=LC p hp;rw[e];exact⟨(aG hg hr).1,(aG hg hr).2.1⟩
    have hO:=ů (LH (BL.list.map (·.1)) us) (by rw[ej,yn];omega) oA OY.nodup;rw[Jwx OY,eY,yn]at hO;have IB:(LH (BL.list.map (·.1)) us).length=us.length:=by unfold LH;simp
    have JI:(CQ (us.map (·.2))).take us.length=CQ (us.map (·.2)):=DK sm;have DO:(us.length<=(CQ (us.map (·.2))).length)=True:=AE sm;have nF:(Bd (LH (BL.list.map (·.1)) us)).take us.length=Bd (LH (BL.list.map (·.1)) us):=DK (by rw[A9,IB];exact CS _);have hle3:(us.length<=(Bd (LH (BL.list.map (·.1)) us)).length)=True:=AE (by rw[A9,IB];exact CS _);rw[show(us.map fun p=>((BL.list.map (·.1)).getD p.1 [],p.2))=LH (BL.list.map (·.1)) us from rfl]at TV;generalize BP ((BM.mk 6 s g e BL).enc [])=V at *
    generalize CV (.mk 6 s g e BL)=KK at *
    generalize CQ (us.map (·.2))=TU at *
    generalize Bd (LH (BL.list.map (·.1)) us)=NU at *
    cases FL with
    |true =>
     rw[AB ⟨rfl,rfl⟩,TV,BV];(refine ku false [] func38 ?_)
     (refine CL.seq ?_);refine HO ?_
     (refine CL.seq ?_);(refine CC ?_;simp only[go_sem,simprocAttr,ES])
     (refine CL.seq ?_);refine HO ?_
     (repeat'(first|((refine BU hN ?_);simp only[go_sem,simprocAttr])|fail))
     (refine CL.seq ?_);refine HO ?_
     (refine CL.seq ?_);refine HO ?_
     refine HD (ZE _ (b:=10) (j:=0) (d:=500) 25 1 (.inl de) (T':=53) (cs:=[.p .snil]) rfl rfl) ?_;simp only[St.nilCell,St.nilReg,Ms,go_sem,simprocAttr,ES,JI,DO,nF,hle3,if_true];refine HD (ZE _ (b:=9) (j:=0) (d:=501) 9 1 (.inl de) (T':=61) (cs:=[.p .snil]) rfl rfl) ?_;simp only[St.nilCell,St.nilReg,Ms,go_sem,simprocAttr,ES,JI,DO,nF,hle3,if_true];refine HD (s':=⟨Ba 44 [(0,.p (.sl (B9 (f.enc [])))),(1,.p (.sl V)),(2,.p (.bool true)),(8,.ptr 8 0 0),(9,.ptr 9 0 0),(10,.ptr 10 0 0)],[(10,.var 53 [.own 500 0 0]),(8,.var 61 [.p (.sl (Bd BL.list))]),(9,.var 61 [.own 501 0 0]),(500,.row 25 1 []),(501,.row 9 1 [])]⟩) CH ?_;refine HO ?_;(repeat'(first|((first|refine BU hP ?_|refine BU hG ?_|refine BU hO ?_);simp only[go_sem,simprocAttr,ES,JI,DO,nF,hle3])|fail))
     all_goals rfl
    |false =>
     rw[AA sm,TT,BV];(refine ku false [] func38 ?_)
     (refine CL.seq ?_);refine HO ?_
     (refine CL.seq ?_);(refine CC ?_;simp only[go_sem,simprocAttr,ES])
     (refine CL.seq ?_);refine HO ?_
     (repeat'(first|((refine BU hN ?_);simp only[go_sem,simprocAttr])|fail))
     (refine CL.seq ?_);refine HO ?_
     (refine CL.seq ?_);refine HO ?_
     refine HD (ZE _ (b:=10) (j:=0) (d:=500) 25 1 (.inl de) (T':=53) (cs:=[.p .snil]) rfl rfl) ?_;simp only[St.nilCell,St.nilReg,Ms,go_sem,simprocAttr,ES,JI,DO,nF,hle3,if_true];refine HD (ZE _ (b:=9) (j:=0) (d:=501) 9 1 (.inl de) (T':=61) (cs:=[.p .snil]) rfl rfl) ?_;simp only[St.nilCell,St.nilReg,Ms,go_sem,simprocAttr,ES,JI,DO,nF,hle3,if_true];refine HD (s':=⟨Ba 44 [(0,.p (.sl (B9 (f.enc [])))),(1,.p (.sl V)),(2,.p (.bool false)),(8,.ptr 8 0 0),(9,.ptr 9 0 0),(10,.ptr 10 0 0)],[(10,.var 53 [.own 500 0 0]),(8,.var 61 [.p (.sl (Bd BL.list))]),(9,.var 61 [.own 501 0 0]),(500,.row 25 1 []),(501,.row 9 1 [])]⟩) CH ?_;refine HO ?_;(repeat'(first|((first|refine BU hP ?_|refine BU hG ?_|refine BU hL ?_);simp only[go_sem,simprocAttr,JI,DO])|fail))
     all_goals rfl
 ·have HE:=ya hg.1;have c5:(k<5)=True:=AE omg;rw[show VH (EL f) FL (.mk k s g e BL)=.error 5 from AA mh,BV];generalize BP ((BM.mk k s g e BL).enc [])=V at *
  (refine CK func38 ?_;simp only[go_sem,simprocAttr,ES,c5])
  all_goals rfl
def bu(i:Nat):Nat:=1+((l.take i).flatMap fun q=>q.2.enc q.1).length
def J7t:bu l 0=1:=rfl
def J7m{l:List IK}(h:l[i]?=some p):bu l (i+1)=bu l i+(p.2.enc []).length:=by
 unfold bu;rw[YI h,nO,DC,nL,List.flatMap_nil,ID,eL p.2 p.1];omega
def Kc5(i:Nat):bu l i<=1+(l.flatMap fun q=>q.2.enc q.1).length:=by
 unfold bu
 conv=>rhs;rw[<-PO i l,nO,DC]
 omega
def Kel{op:Int}{s:List UInt8}{n:Int}{c:Node}{BL:RF}(h:BL.list[i]?=some p):∃r:CW,(B9 ((RT.mk op s n c BL).enc []))[bu BL.list i]?=some [.int .i64 r.kind,.int .i64 r.many,.str p.1,.str r.s,.int .i64 r.n,.int .i64 r.c.kind,.int .i64 r.c.many,.str r.c.name,.str r.c.s,.bool r.c.neg,.int .i64 r.c.e]:=by
 obtain⟨nm,k',s',g',e',BT⟩:=p;refine⟨⟨k',BT.len,nm,s',g',e'⟩,yG (n:=⟨k',BT.len,nm,s',g',e'⟩) ?_⟩;rw[GM];unfold bu;rw[YM 1,List.getElem?_cons_succ];have e1:BL.enc=BL.list.flatMap fun q=>q.2.enc q.1:=by rw[<-aB,gJ]
 have e2:BL.list=BL.list.take i++(nm,.mk k' s' g' e' BT)::BL.list.drop (i+1):=by
  obtain⟨a,b⟩:=DX.1 h
  conv=>lhs;rw[<-PO i BL.list,Mx a,b]
 rw[e1]
 conv=>lhs;arg 1;rw[e2,nO,nL]
 rw[Mr (CS _),gV,GM];rfl
def Kft(op:Int)(s:List UInt8)(n:Int)(c:Node)(BL:RF)(LJ:op=8\/op=9)(hq:aD op BL.list)(hl:BL.enc.length<=150000000000)(IB:∀p∈BL.list,p.1.length<=1000000)(hE:∀p∈BL.list,oW p.2 (FA p.2))(he:∀p∈BL.list,∀v e,EL p.2 v=.error e->e=5\/e=6)(hs:∀p∈BL.list,∀t u,GT t->(t.enc []).length*FA p.2<=450000000000->EL p.2 t=.ok u->(u.enc []).length<=FA p.2*(t.enc []).length)(v:BM)(hg:GT v)(hv:(v.enc []).length*(1+(BL.list.map fun p=>FA p.2).sum)<=450000000000) :
  CA cx 40 [.p (.sl (B9 ((RT.mk op s n c BL).enc []))),.p (.sl (BP (v.enc [])))] [] (BV (OO (decide (op=8)) (BL.list.map (·.1)) (FW BL) v)) []:=by
 have DV:=XJ BL;have GB:=UG BL;have hP:=yz [] op s n c BL omg;have DD:(B9 ((RT.mk op s n c BL).enc []))[0]?=some [.int .i64 op,.int .i64 BL.len,.str [],.str s,.int .i64 n,.int .i64 c.kind,.int .i64 c.many,.str c.name,.str c.s,.bool c.neg,.int .i64 c.e]:=by rw[GM];rfl
 have NF:=fun i p h=>Kel (op:=op) (s:=s) (n:=n) (c:=c) (BL:=BL) (i:=i) (p:=p) h
 have PZ:(BL.list.flatMap fun q=>q.2.enc q.1).length=BL.enc.length:=by rw[<-aB,gJ]
 have vd:=fun i=>Kc5 BL.list i
 rw[PZ]at vd;have OI:∀p∈BL.list,(v.enc []).length*FA p.2<=450000000000:=fun p hp=>by
  have h1:=oP (FB.2 ⟨p,hp,rfl⟩:FA p.2∈BL.list.map fun p=>FA p.2);have:=ZT (v.enc []).length (show FA p.2<=1+(BL.list.map fun p=>FA p.2).sum by omega);omega
 have XO:∀us:List BM,ER us<=(BL.list.map fun p=>FA p.2).sum*(v.enc []).length->ER us<=450000000000:=fun us h=>by
  rw[Nat.mul_add,UA (v.enc []).length (List.sum _)]at hv;omega
 generalize hrr:B9 ((RT.mk op s n c BL).enc [])=DZ at *
 have YY:∀obj:Bool,(obj=true↔op=8)->CA cx 40 [.p (.sl DZ),.p (.sl (BP (v.enc [])))] [] (BV (OO obj (BL.list.map (·.1)) (FW BL) v)) []:=by
  intro obj TW;refine CB func40 ?_;(repeat'(first|((refine BU hP ?_);simp only[go_sem,simprocAttr,XK])|fail));refine HD (dI _ (i:=6) (d:=53) 9 1 (.inl de) rfl) ?_;simp only[St.nilOwn,St.nilReg,go_sem,simprocAttr,XK];refine HD (dI _ (i:=7) (d:=45) 25 1 (.inl de) rfl) ?_;simp only[St.nilOwn,St.nilReg,go_sem,simprocAttr,XK];refine CL.loop (fun x:Nat×List BM=>⟨Ba 71 [(0,.p (.sl DZ)),(1,.p (.sl (BP (v.enc [])))),(6,.own 53 0 x.1),(7,.own 45 0 x.2.length),(8,.p (.int .i64 (bu BL.list x.1))),(14,.p (.sl (NS BL.list))),(15,.p (.int .i64 BL.list.length)),(16,.p (.int .i64 x.1))],[(45,.row 25 1 (CQ x.2)),(53,.row 9 1 (DP ((BL.list.take x.1).map (·.1))))]⟩) (fun x=>x.1<=BL.list.length/\x.2.length<=x.1/\(obj=true->x.2.length=x.1)/\ER x.2<=((BL.list.take x.1).map fun p=>FA p.2).sum*(v.enc []).length/\N4 obj v (FW BL)=Rv x.2 (N4 obj v ((FW BL).drop x.1))) (fun x=>BL.list.length-x.1) (0,[]) (by simp only[J7t];exact CH) ⟨EK _,CS _,fun _=>rfl,EK _,by rw[OB];cases N4 obj v (FW BL)<;>rfl⟩ ?_;rintro⟨i,us⟩ ⟨h1,h2,h3,h4,h5⟩;simp only at h1 h2 h3 h4 h5;by_cases BZ:i<BL.list.length
  ·have c1:((i:Int)<(BL.list.length:Int))=True:=AE omg;obtain⟨p,hp⟩:∃p,BL.list[i]?=some p:=⟨_,C' BZ⟩
   have KX:=D4 hp;have RQ:=cR hp;have hF:=hE p KX v hg.1 hg.2 (OI p KX);obtain⟨r,Kb⟩:=NF i p hp;have F':=J7m hp;have hpb:=vd (i+1);have w2:IntKind.i64.wrap ((bu BL.list i:Int)+((p.2.enc []).length:Int))=((bu BL.list (i+1):Nat):Int):=by rw[Aa omg omg];omega
   have ve:(DP ((BL.list.take i).map (·.1))).length=i:=by rw[ZR,HM,GF];omega
   have hna:DP ((BL.list.take (i+1)).map (·.1))=DP ((BL.list.take i).map (·.1))++[[.str p.1]]:=by rw[YI hp,Ry];simp[DP]
   have hd:(FW BL).drop i=EL p.2::(FW BL).drop (i+1):=by
    have hi:(FW BL)[i]?=some (EL p.2):=by rw[XM];simp[hp]
    obtain⟨a,b⟩:=DX.1 hi;rw[Mx a,b]
   rw[hd]at h5;have PH:((BL.list.take (i+1)).map fun p=>FA p.2).sum=((BL.list.take i).map fun p=>FA p.2).sum+FA p.2:=by
    rw[YI hp,Ry,List.sum_append];simp
   cases hf:EL p.2 v with
   |error er =>
    rw[hf,BV]at hF;rcases he p KX v er hf with rfl|rfl
    ·rw[yp hf (.inl rfl)]at h5;rw[show OO obj (BL.list.map (·.1)) (FW BL) v=.error 5 by unfold OO;rw[h5],BV];(refine CC ?_;simp only[go_sem,simprocAttr,c1,RQ]);(repeat'(first|((refine BU hF ?_);simp only[go_sem,simprocAttr])|fail))
     all_goals rfl
    ·cases obj with
     |true =>
      have o8:=TW.1 rfl;have e8:=AE o8;rw[yp hf (.inr rfl)]at h5;rw[show OO true (BL.list.map (·.1)) (FW BL) v=.error 6 by unfold OO;rw[h5],BV];(refine CC ?_;simp only[go_sem,simprocAttr,c1,RQ]);(repeat'(first|((refine BU hF ?_);simp only[go_sem,simprocAttr,DD,e8])|fail))
      all_goals rfl
     |false =>
      have o8:¬op=8:=fun h=>by have:=TW.2 h;cases this
      have e8:=AD o8;rw[J0o hf omg]at h5;have QK:ER us<=((BL.list.take (i+1)).map fun p=>FA p.2).sum*(v.enc []).length:=by rw[PH,ME];omega
      (refine CC ?_;simp only[go_sem,simprocAttr,c1,RQ,DM (i:=i) omg]);(repeat'(first|(refine And.intro (by first|(simp;done)|(simp;omega)) ?_)|refine EA ?_|((refine BU hF ?_);simp only[go_sem,simprocAttr,DD,Kb,e8,w2,ve,ON,DM (i:=i) omg])|fail))
      all_goals exact⟨(i+1,us),⟨by simp only;omega,by simp only;omega,QK,h5⟩,by simp only;omega,by rw[hna];exact CH⟩
   |ok u =>
    rw[hf,BV]at hF;rw[J0q hf]at h5;have bW:=hs p KX v u hg (OI p KX) hf;have QK:ER (us++[u])<=((BL.list.take (i+1)).map fun p=>FA p.2).sum*(v.enc []).length:=by
     rw[PH,ME,eX,SM,ĭ];omega
    have ha:CQ us++[[.sl (BP (u.enc []))]]=CQ (us++[u]):=(V' us [u]).symm;have hn:us.length+1=(us++[u]).length:=sm
    (refine CC ?_;simp only[go_sem,simprocAttr,c1,RQ,DM (i:=i) omg]);(repeat'(first|(refine And.intro (by first|(simp;done)|(simp;omega)) ?_)|refine EA ?_|((refine BU hF ?_);simp only[go_sem,simprocAttr,Kb,ha,w2,ve,ON,FZ,DM (i:=i) omg])|fail))
    all_goals exact⟨(i+1,us++[u]),⟨by simp only;omega,by simp only;rw[<-hn];omega,fun h=>by simp only;rw[<-hn,h3 h],QK,h5⟩,by simp only;omega,by simp only;rw[<-hn,hna];exact CH⟩
  ·obtain rfl:i=BL.list.length:=omg;have c1:((BL.list.length:Int)<(BL.list.length:Int))=False:=AD omg;have EF:(FW BL).length=BL.list.length:=by rw[XM,HM]
   rw[JD omg,N4,Rv,ID]at h5;rw[bz]at h4⊢;have bW:=XO us h4;have JI:(CQ us).take us.length=CQ us:=DK sm;have nF:(DP (BL.list.map (·.1))).take BL.list.length=DP (BL.list.map (·.1)):=DK (by rw[ZR,HM];exact CS _);have ZJ:(BL.list.length<=(DP (BL.list.map (·.1))).length)=True:=AE (by rw[ZR,HM];exact CS _);have yr:(us.length<=(CQ us).length)=True:=AE sm;cases obj with
   |true =>
    have o8:=TW.1 rfl;subst o8;have VR:=h3 rfl;rw[show OO true (BL.list.map (·.1)) (FW BL) v=.ok (nd 6 (Lp ((BL.list.map (·.1)).zip us)))by unfold OO;rw[h5];rfl,BV];have Q':=Ŗ (a:=BL.list.map (·.1)) (b:=us) (by rw[HM];exact VR.symm);have ZW:=ŗ (a:=BL.list.map (·.1)) (b:=us) (by rw[HM];exact VR.symm);have yq:∀q∈(BL.list.map (·.1)).zip us,∃p∈BL.list,q.1=p.1:=fun q hq=>by
     have:q.1∈((BL.list.map (·.1)).zip us).map (·.1):=FB.2 ⟨q,hq,rfl⟩;rw[Q']at this;obtain⟨p,hp,e⟩:=FB.1 this;exact⟨p,hp,e.symm⟩
    have hO:=ů ((BL.list.map (·.1)).zip us) (by rw[ej,ZW];omega) (fun q FJ=>by
     obtain⟨p,hp,e⟩:=yq q FJ;rw[e];exact⟨(hq.1 p hp).2.2 rfl,IB p hp⟩) (by rw[Q'];exact hq.2.2 rfl)
    rw[xi,Q',eY,ZW]at hO;generalize nd 6 (Lp ((BL.list.map (·.1)).zip us))=en at *
    (refine CC ?_;simp only[go_sem,simprocAttr,c1,DD,JI,nF,ZJ,yr]);(repeat'(first|((refine BU hO ?_);simp only[go_sem,simprocAttr])|fail))
   |false =>
    have o9:op=9:=by
     rcases LJ with h|h
     ·have:=TW.2 h;cases this
     ·exact h
    subst o9;have hL:=bo us omg;rw[show OO false (BL.list.map (·.1)) (FW BL) v=.ok (CG us)by unfold OO;rw[h5];rfl,BV];(refine CC ?_;simp only[go_sem,simprocAttr,c1,DD,JI,yr]);(repeat'(first|((refine BU hL ?_);simp only[go_sem,simprocAttr])|fail))
 exact YY (decide (op=8)) decide_eq_true_iff
def Kao:∀(n:Nat) (f:RT),(f.enc []).length<=n->UI f->¬KG f.kind->VK f->(f.enc []).length<=150000000000->oW f (FA f)
 |0,f,h,_,_,_,_=>by have:=TP f [];omega
 |n+1,.mk op s m c BL,hl,ok,LN,UK,GB=>by
  intro v Tg X' hv;obtain⟨h1,h2,h3⟩:=mR.1 ok;have LN:¬KG op:=LN;have hg:GT v:=⟨Tg,X'⟩
  rw[GM,DH]at hl GB;have IZ:=Et v [];have aj:(v.enc []).length<=(v.enc []).length*FA (.mk op s m c BL):=gQ _ (bn _);have XT:s.length<=1000000:=(UK ⟨op,BL.len,[],s,m,c⟩ (by rw[GM];exact DQ)).s;have DD:(B9 ((RT.mk op s m c BL).enc []))[0]?=some [.int .i64 op,.int .i64 BL.len,.str [],.str s,.int .i64 m,.int .i64 c.kind,.int .i64 c.many,.str c.name,.str c.s,.bool c.neg,.int .i64 c.e]:=by rw[GM];rfl
  have DV:=XJ BL;have ż:=UG BL;have hT:=yz [] op s m c BL omg;have CY:∀p∈BL.list,(p.2.enc []).length<=n/\(p.2.enc []).length<=150000000000:=fun p hp=>by
   have:=mi hp;rw[eL p.2 p.1]at this;omega
  have vf:∀p∈BL.list,op≠7->¬KG p.2.kind:=fun p hp o7 hc=>by
   rcases(h2.1 p hp).1.1 hc with hc|hc
   ·exact LN hc
   ·exact o7 hc
  have HH:∀p∈BL.list,op≠7->oW p.2 (FA p.2):=fun p hp o7=>Kao n p.2 (CY p hp).1 (bf.1 h3 p hp) (vf p hp o7) (aH UK hp).2 (CY p hp).2
  have IG:∀p∈BL.list,op≠7->fC p.2:=fun p hp o7=>yx _ p.2 (CS _) (bf.1 h3 p hp) (vf p hp o7) (aH UK hp).2
  have To:∀(p:IK) (v:BM) (e:Nat),EL p.2 v=.error e->e=5\/e=6:=fun p v e=>ť _ p.2 v e (CS _)
  rw[vH]at hv aj;rw[uo];by_cases o0:op=0
  ·subst o0;rw[show KW 0 s m (BL.list.map (·.1)) (FW BL) (IL BL) v=.ok v from rfl,BV];generalize B9 ((RT.mk 0 s m c BL).enc [])=DZ at *
   (refine CK func12 ?_;simp only[go_sem,simprocAttr,DD]);(repeat'(first|((refine BU hT ?_);simp only[go_sem,simprocAttr])|fail))
  by_cases o1:op=1
  ·subst o1;have GQ:Bc ⟨false,s,0⟩:=by
    have gY:valid s=true:=by simp[HU]at h1;exact h1.2.2.2
    unfold Bc;rw[AA (show ¬(false=true)by decide)];exact⟨rfl,gY⟩
   have hF:=u7 ⟨false,s,0⟩ v GQ Tg omg;rw[show KW 1 s m (BL.list.map (·.1)) (FW BL) (IL BL) v=IM ⟨false,s,0⟩ v from rfl];rw[LF]at hF⊢;generalize B9 ((RT.mk 1 s m c BL).enc [])=DZ at *
   (refine CK func12 ?_;simp only[go_sem,simprocAttr,DD]);(repeat'(first|((first|refine BU hT ?_|refine BU hF ?_);simp only[go_sem,simprocAttr])|fail))
  by_cases o2:op=2
  ·subst o2;have NI:0<=m:=by simp[HU]at h1;omega
   have eF:m<=1000000:=by simp[HU]at h1;omega
   have GQ:Bc ⟨true,[],m⟩:=by
    unfold Bc;rw[AB rfl];exact⟨rfl,NI,eF⟩
   have hF:=u7 ⟨true,[],m⟩ v GQ Tg omg;rw[show KW 2 s m (BL.list.map (·.1)) (FW BL) (IL BL) v=IM ⟨true,[],m⟩ v from rfl];rw[LF]at hF⊢;generalize B9 ((RT.mk 2 s m c BL).enc [])=DZ at *
   (refine CK func12 ?_;simp only[go_sem,simprocAttr,DD]);(repeat'(first|((first|refine BU hT ?_|refine BU hF ?_);simp only[go_sem,simprocAttr])|fail))
  by_cases o3:op=3
  ·subst o3;obtain⟨j,rfl,hj⟩:∃j:Nat,m=j/\j<=1000000:=by simp[HU]at h1;exact⟨m.toNat,omg,omg⟩
   have hF:=Kf8 j v omg Tg X' omg;rw[show KW 3 s j (BL.list.map (·.1)) (FW BL) (IL BL) v=V8 (j:Int).toNat v from rfl,Int.toNat_natCast];rw[LF]at hF⊢;generalize B9 ((RT.mk 3 s j c BL).enc [])=DZ at *
   (refine CK func12 ?_;simp only[go_sem,simprocAttr,DD]);(repeat'(first|((first|refine BU hT ?_|refine BU hF ?_);simp only[go_sem,simprocAttr])|fail))
  by_cases ep:op=10
  ·subst ep;have hv:(v.enc []).length*3<=450000000000:=hv;have hF:=J9j v Tg omg;rw[show KW 10 s m (BL.list.map (·.1)) (FW BL) (IL BL) v=Vi v from rfl];rw[LF]at hF⊢;generalize B9 ((RT.mk 10 s m c BL).enc [])=DZ at *
   (refine CK func12 ?_;simp only[go_sem,simprocAttr,DD]);(repeat'(first|((first|refine BU hT ?_|refine BU hF ?_);simp only[go_sem,simprocAttr])|fail))
  by_cases ey:op=11
  ·subst ey;have hv:(v.enc []).length*3<=450000000000:=hv;have hF:=J5s v Tg X' omg;rw[show KW 11 s m (BL.list.map (·.1)) (FW BL) (IL BL) v=Vw v from rfl];rw[LF]at hF⊢;generalize B9 ((RT.mk 11 s m c BL).enc [])=DZ at *
   (refine CK func12 ?_;simp only[go_sem,simprocAttr,DD]);(repeat'(first|((first|refine BU hT ?_|refine BU hF ?_);simp only[go_sem,simprocAttr])|fail))
  by_cases fA:op=14
  ·subst fA;have hF:=J60 v Tg X' omg;rw[show KW 14 s m (BL.list.map (·.1)) (FW BL) (IL BL) v=Lx v from rfl];rw[LF]at hF⊢;generalize B9 ((RT.mk 14 s m c BL).enc [])=DZ at *
   (refine CK func12 ?_;simp only[go_sem,simprocAttr,DD]);(repeat'(first|((first|refine BU hT ?_|refine BU hF ?_);simp only[go_sem,simprocAttr])|fail))
  by_cases ez:op=12
  ·subst ez;have hF:=J43 12 BL.len [] s m c v (.inl rfl) XT Tg omg;rw[show decide ((12:Int)=12)=true from rfl]at hF;rw[show KW 12 s m (BL.list.map (·.1)) (FW BL) (IL BL) v=SL true s v from rfl];rw[LF]at hF⊢;generalize B9 ((RT.mk 12 s m c BL).enc [])=DZ at *
   (refine CK func12 ?_;simp only[go_sem,simprocAttr,DD]);(repeat'(first|((first|refine BU hT ?_|refine BU hF ?_);simp only[go_sem,simprocAttr])|fail))
  by_cases Ž:op=13
  ·subst Ž;have hF:=J43 13 BL.len [] s m c v (.inr rfl) XT Tg omg;rw[show decide ((13:Int)=12)=false from rfl]at hF;rw[show KW 13 s m (BL.list.map (·.1)) (FW BL) (IL BL) v=SL false s v from rfl];rw[LF]at hF⊢;generalize B9 ((RT.mk 13 s m c BL).enc [])=DZ at *
   (refine CK func12 ?_;simp only[go_sem,simprocAttr,DD]);(repeat'(first|((first|refine BU hT ?_|refine BU hF ?_);simp only[go_sem,simprocAttr])|fail))
  by_cases fB:op=15
  ·subst fB;have hv:(v.enc []).length*3<=450000000000:=hv;obtain⟨D',ZQ⟩:=mN s;have HK:=yd s XT;have hF:=Ū (Je s).1 v omg ZQ hg omg;rw[show KW 15 s m (BL.list.map (·.1)) (FW BL) (IL BL) v=FN (Je s).1 v from rfl];rw[LF]at hF⊢;generalize B9 ((RT.mk 15 s m c BL).enc [])=DZ at *
   generalize(Je s).1=P at *
   (refine CK func12 ?_;simp only[go_sem,simprocAttr,DD]);(repeat'(first|((first|refine BU hT ?_|refine BU HK ?_|refine BU hF ?_);simp only[go_sem,simprocAttr])|fail))
  by_cases o8:op=8\/op=9
  ·have hF:=Kft op s m c BL o8 h2 omg (fun p hp=>(aH UK hp).1) (fun p hp=>HH p hp omg) (fun p hp=>To p) (fun p hp t u ht hb hu=>(IG p hp omg t u ht omg hu).2) v hg (by
    rcases o8 with rfl|rfl
    ·have hv:(v.enc []).length*(1+(J' BL).sum)<=450000000000:=hv;rw[bm]at hv;exact hv
    ·have hv:(v.enc []).length*(1+(J' BL).sum)<=450000000000:=hv;rw[bm]at hv;exact hv)
   rcases o8 with rfl|rfl
   ·rw[show KW 8 s m (BL.list.map (·.1)) (FW BL) (IL BL) v=OO (decide ((8:Int)=8)) (BL.list.map (·.1)) (FW BL) v from rfl];rw[LF]at hF⊢;generalize B9 ((RT.mk 8 s m c BL).enc [])=DZ at *
    (refine CK func12 ?_;simp only[go_sem,simprocAttr,DD]);(repeat'(first|((first|refine BU hT ?_|refine BU hF ?_);simp only[go_sem,simprocAttr])|fail))
   ·rw[show KW 9 s m (BL.list.map (·.1)) (FW BL) (IL BL) v=OO (decide ((9:Int)=8)) (BL.list.map (·.1)) (FW BL) v from rfl];rw[LF]at hF⊢;generalize B9 ((RT.mk 9 s m c BL).enc [])=DZ at *
    (refine CK func12 ?_;simp only[go_sem,simprocAttr,DD]);(repeat'(first|((first|refine BU hT ?_|refine BU hF ?_);simp only[go_sem,simprocAttr])|fail))
  have LJ:op=4\/op=5\/op=6\/op=7:=by
   unfold KG at LN;simp only[HU]at h1
   repeat' split at h1
   all_goals first|exact h1.elim|omega
  obtain⟨p0,r0,GS⟩:∃p0 r0,BL.list=p0::r0:=by
   have vK:1<=BL.len:=by rcases LJ with rfl|rfl|rfl|rfl<;>simp[HU]at h1<;>omega
   cases hk:BL.list with
   |nil=>rw[hk]at DV;simp only[KM]at DV;omega
   |cons a b=>exact⟨a,b,rfl⟩
  have NI:p0∈BL.list:=by rw[GS];exact DQ
  have g0:(NS BL.list)[0]?=some [.sl (B9 (p0.2.enc []))]:=cR (by rw[GS];rfl);rw[bm,GS]at hv;by_cases o5:op=5
  ·subst o5;have hv:(v.enc []).length*FA p0.2<=450000000000:=hv;have hF:=J5a p0.2 (FA p0.2) (HH p0 NI de) (bn _) (To p0) (fun t u ht hb hu=>(IG p0 NI de t u ht omg hu).2) false v hg hv;rw[show KW 5 s m (BL.list.map (·.1)) (FW BL) (IL BL) v=VH (EL p0.2) false v by rw[XM,GS];rfl];rw[LF]at hF⊢;generalize B9 ((RT.mk 5 s m c BL).enc [])=DZ at *
   (refine CK func12 ?_;simp only[go_sem,simprocAttr,DD]);(repeat'(first|((first|refine EG ?_|refine BU hT ?_|refine DS hF ?_);simp only[go_sem,simprocAttr,g0])|fail))
  by_cases o6:op=6
  ·subst o6;have hv:(v.enc []).length*FA p0.2<=450000000000:=hv;have hF:=J5a p0.2 (FA p0.2) (HH p0 NI de) (bn _) (To p0) (fun t u ht hb hu=>(IG p0 NI de t u ht omg hu).2) true v hg hv;rw[show KW 6 s m (BL.list.map (·.1)) (FW BL) (IL BL) v=VH (EL p0.2) true v by rw[XM,GS];rfl];rw[LF]at hF⊢;generalize B9 ((RT.mk 6 s m c BL).enc [])=DZ at *
   (refine CK func12 ?_;simp only[go_sem,simprocAttr,DD]);(repeat'(first|((first|refine EG ?_|refine BU hT ?_|refine DS hF ?_);simp only[go_sem,simprocAttr,g0])|fail))
  by_cases o7:op=7
  ·subst o7;have VQ:KG p0.2.kind:=(h2.1 p0 NI).1.2 (.inr rfl);have hv:(v.enc []).length*3<=450000000000:=hv;have hH:=J6x _ p0.2 (CS _) (bf.1 h3 p0 NI) VQ (aH UK NI).2 (CY p0 NI).2 v hg omg;have hF:=Ke9 p0.2 v hH;have hR:KW 7 s m (BL.list.map (·.1)) (FW BL) (IL BL) v=match IN p0.2 v with
    |.error e=>.error e
    |.ok b=>if b=true then .ok v else .error 6:=by
    rw[mS,GS];show(match IN p0.2 v with
     |.error e=>.error e
     |.ok b=>if b=true then .ok v else .error 6:Except Nat BM)=_
    cases IN p0.2 v<;>rfl
   rw[hR];generalize B9 ((RT.mk 7 s m c BL).enc [])=DZ at *
   rw[LF]at hF⊢;(refine CK func12 ?_;simp only[go_sem,simprocAttr,DD]);(repeat'(first|((first|refine BU hT ?_|refine BU hF ?_);simp only[go_sem,simprocAttr,g0])|fail))
   all_goals exact⟨rfl,rfl⟩
  ·obtain rfl:op=4:=omg;have vI:BL.len=2:=by simp[HU]at h1;omega
   cases r0 with
   |nil=>rw[GS]at DV;simp only[DH,KM]at DV;omega
   |cons p1 r1 =>
    have eF:p1∈BL.list:=by rw[GS];exact EW _ DQ
    have g1:(NS BL.list)[1]?=some [.sl (B9 (p1.2.enc []))]:=cR (by rw[GS];rfl);have hv:(v.enc []).length*(FA p0.2*FA p1.2)<=450000000000:=hv;have w1:=bn p1.2;have cC:(v.enc []).length*FA p0.2<=450000000000:=by
     have:=ZT (v.enc []).length (gQ (FA p0.2) w1);omega
    have I0:=HH p0 NI de v Tg X' cC;have hR:KW 4 s m (BL.list.map (·.1)) (FW BL) (IL BL) v=match EL p0.2 v with
     |.error e=>.error e
     |.ok x=>EL p1.2 x:=by
     rw[XM,GS];show(match EL p0.2 v with
      |.error e=>.error e
      |.ok x=>EL p1.2 x:Except Nat BM)=_
     cases EL p0.2 v<;>rfl
    rw[hR];cases hx:EL p0.2 v with
    |error e =>
     rw[hx,BV]at I0;simp only[BV];generalize B9 ((RT.mk 4 s m c BL).enc [])=DZ at *
     rcases To p0 v e hx with rfl|rfl
     ·(refine CK func12 ?_;simp only[go_sem,simprocAttr,DD]);(repeat'(first|((first|refine BU hT ?_|refine BU I0 ?_);simp only[go_sem,simprocAttr,g0])|fail))
      all_goals rfl
     ·(refine CK func12 ?_;simp only[go_sem,simprocAttr,DD]);(repeat'(first|((first|refine BU hT ?_|refine BU I0 ?_);simp only[go_sem,simprocAttr,g0])|fail))
      all_goals rfl
    |ok x =>
     have EH:=IG p0 NI de v x hg omg hx;have PB:(x.enc []).length*FA p1.2<=450000000000:=by
      have:=M' (FA p1.2) EH.2;rw[UA (FA p0.2),Qm]at this;omega
     have I1:=HH p1 eF de x EH.1.1 EH.1.2 PB;rw[hx,BV]at I0;simp only;rw[LF]at I1⊢;generalize B9 ((RT.mk 4 s m c BL).enc [])=DZ at *
     (refine CK func12 ?_;simp only[go_sem,simprocAttr,DD]);(repeat'(first|((first|refine BU hT ?_|refine BU I0 ?_|refine BU I1 ?_);simp only[go_sem,simprocAttr,g0,g1])|fail))
def J8i:∀(n:Nat) (f:RT),(f.enc []).length<=n->UI f->¬KG f.kind->VK f->(f.enc []).length<=150000000000->u9 f (FA f)
 |0,f,h,_,_,_,_=>by have:=TP f [];omega
 |n+1,.mk op s m c BL,hl,ok,LN,UK,GB=>by
  intro v Tg X' hv;obtain⟨h1,h2,h3⟩:=mR.1 ok;have LN:¬KG op:=LN;have hg:GT v:=⟨Tg,X'⟩
  rw[GM,DH]at hl GB;have IZ:=Et v [];have aj:(v.enc []).length<=(v.enc []).length*FA (.mk op s m c BL):=gQ _ (bn _);have XT:s.length<=1000000:=(UK ⟨op,BL.len,[],s,m,c⟩ (by rw[GM];exact DQ)).s;have DD:(B9 ((RT.mk op s m c BL).enc []))[0]?=some [.int .i64 op,.int .i64 BL.len,.str [],.str s,.int .i64 m,.int .i64 c.kind,.int .i64 c.many,.str c.name,.str c.s,.bool c.neg,.int .i64 c.e]:=by rw[GM];rfl
  have DV:=XJ BL;have ż:=UG BL;have hT:=ł [] op s m c BL omg;have CY:∀p∈BL.list,(p.2.enc []).length<=n/\(p.2.enc []).length<=150000000000:=fun p hp=>by
   have:=mi hp;rw[eL p.2 p.1]at this;omega
  have vf:∀p∈BL.list,op≠7->¬KG p.2.kind:=fun p hp o7 hc=>by
   rcases(h2.1 p hp).1.1 hc with hc|hc
   ·exact LN hc
   ·exact o7 hc
  have HH:∀p∈BL.list,op≠7->u9 p.2 (FA p.2):=fun p hp o7=>J8i n p.2 (CY p hp).1 (bf.1 h3 p hp) (vf p hp o7) (aH UK hp).2 (CY p hp).2
  have IG:∀p∈BL.list,op≠7->fC p.2:=fun p hp o7=>yx _ p.2 (CS _) (bf.1 h3 p hp) (vf p hp o7) (aH UK hp).2
  have To:∀(p:IK) (v:BM) (e:Nat),EL p.2 v=.error e->e=5\/e=6:=fun p v e=>ť _ p.2 v e (CS _)
  rw[vH]at hv aj;rw[uo];by_cases o0:op=0
  ·subst o0;rw[show KW 0 s m (BL.list.map (·.1)) (FW BL) (IL BL) v=.ok v from rfl,BV];generalize B9 ((RT.mk 0 s m c BL).enc [])=DZ at *
   (refine CK func13 ?_;simp only[go_sem,simprocAttr,DD])
   skip
  by_cases o1:op=1
  ·subst o1;have hF:=J4o v s 0 omg;rw[show KW 1 s m (BL.list.map (·.1)) (FW BL) (IL BL) v=IM ⟨false,s,0⟩ v from rfl];rw[LF]at hF⊢;generalize B9 ((RT.mk 1 s m c BL).enc [])=DZ at *
   (refine CK func13 ?_;simp only[go_sem,simprocAttr,DD]);(repeat'(first|((refine BU hF ?_);simp only[go_sem,simprocAttr])|fail))
  by_cases o2:op=2
  ·subst o2;have NI:0<=m:=by simp[HU]at h1;omega
   have hF:=J7s v [] m NI omg;rw[show KW 2 s m (BL.list.map (·.1)) (FW BL) (IL BL) v=IM ⟨true,[],m⟩ v from rfl];rw[LF]at hF⊢;generalize B9 ((RT.mk 2 s m c BL).enc [])=DZ at *
   (refine CK func13 ?_;simp only[go_sem,simprocAttr,DD]);(repeat'(first|((refine BU hF ?_);simp only[go_sem,simprocAttr])|fail))
  by_cases o3:op=3
  ·subst o3;obtain⟨j,rfl,hj⟩:∃j:Nat,m=j/\j<=1000000:=by simp[HU]at h1;exact⟨m.toNat,omg,omg⟩
   have hF:=Kf0 j v hj Tg X' omg;rw[show KW 3 s j (BL.list.map (·.1)) (FW BL) (IL BL) v=V8 (j:Int).toNat v from rfl,Int.toNat_natCast];rw[LF]at hF⊢;generalize B9 ((RT.mk 3 s j c BL).enc [])=DZ at *
   (refine CK func13 ?_;simp only[go_sem,simprocAttr,DD]);(repeat'(first|((refine BU hF ?_);simp only[go_sem,simprocAttr])|fail))
  by_cases ep:op=10
  ·subst ep;have hv:(v.enc []).length*3<=450000000000:=hv;have hF:=J30 v Tg omg;rw[show KW 10 s m (BL.list.map (·.1)) (FW BL) (IL BL) v=Vi v from rfl];rw[LF]at hF⊢;generalize B9 ((RT.mk 10 s m c BL).enc [])=DZ at *
   (refine CK func13 ?_;simp only[go_sem,simprocAttr,DD]);(repeat'(first|((refine BU hF ?_);simp only[go_sem,simprocAttr])|fail))
  by_cases ey:op=11
  ·subst ey;have hv:(v.enc []).length*3<=450000000000:=hv;have hF:=J02 v Tg X' omg;rw[show KW 11 s m (BL.list.map (·.1)) (FW BL) (IL BL) v=Vw v from rfl];rw[LF]at hF⊢;generalize B9 ((RT.mk 11 s m c BL).enc [])=DZ at *
   (refine CK func13 ?_;simp only[go_sem,simprocAttr,DD]);(repeat'(first|((refine BU hF ?_);simp only[go_sem,simprocAttr])|fail))
  by_cases fA:op=14
  ·subst fA;have hF:=J6i v Tg X' omg;rw[show KW 14 s m (BL.list.map (·.1)) (FW BL) (IL BL) v=Lx v from rfl];rw[LF]at hF⊢;generalize B9 ((RT.mk 14 s m c BL).enc [])=DZ at *
   (refine CK func13 ?_;simp only[go_sem,simprocAttr,DD]);(repeat'(first|((refine BU hF ?_);simp only[go_sem,simprocAttr])|fail))
  by_cases ez:op=12
  ·subst ez;have hF:=J1t 12 BL.len [] s m c v (.inl rfl) XT Tg omg;rw[show decide ((12:Int)=12)=true from rfl]at hF;rw[show KW 12 s m (BL.list.map (·.1)) (FW BL) (IL BL) v=SL true s v from rfl];rw[LF]at hF⊢;generalize B9 ((RT.mk 12 s m c BL).enc [])=DZ at *
   (refine CK func13 ?_;simp only[go_sem,simprocAttr,DD]);(repeat'(first|((refine BU hF ?_);simp only[go_sem,simprocAttr])|fail))
  by_cases Ž:op=13
  ·subst Ž;have hF:=J1t 13 BL.len [] s m c v (.inr rfl) XT Tg omg;rw[show decide ((13:Int)=12)=false from rfl]at hF;rw[show KW 13 s m (BL.list.map (·.1)) (FW BL) (IL BL) v=SL false s v from rfl];rw[LF]at hF⊢;generalize B9 ((RT.mk 13 s m c BL).enc [])=DZ at *
   (refine CK func13 ?_;simp only[go_sem,simprocAttr,DD]);(repeat'(first|((refine BU hF ?_);simp only[go_sem,simprocAttr])|fail))
  by_cases fB:op=15
  ·subst fB;have hv:(v.enc []).length*3<=450000000000:=hv;obtain⟨D',ZQ⟩:=mN s;have HK:=ě s XT;have hF:=J1w (Je s).1 v omg ZQ hg omg;rw[show KW 15 s m (BL.list.map (·.1)) (FW BL) (IL BL) v=FN (Je s).1 v from rfl];rw[LF]at hF⊢;generalize B9 ((RT.mk 15 s m c BL).enc [])=DZ at *
   generalize(Je s).1=P at *
   (refine CK func13 ?_;simp only[go_sem,simprocAttr,DD]);(repeat'(first|((first|refine BU HK ?_|refine BU hF ?_);simp only[go_sem,simprocAttr])|fail))
  by_cases o8:op=8\/op=9
  ·have hF:=Kdf op s m c BL o8 h2 omg (fun p hp=>(aH UK hp).1) (fun p hp=>HH p hp omg) (fun p hp=>To p) (fun p hp t u ht hb hu=>(IG p hp omg t u ht omg hu).2) v hg (by
    rcases o8 with rfl|rfl
    ·have hv:(v.enc []).length*(1+(J' BL).sum)<=450000000000:=hv;rw[bm]at hv;exact hv
    ·have hv:(v.enc []).length*(1+(J' BL).sum)<=450000000000:=hv;rw[bm]at hv;exact hv)
   rcases o8 with rfl|rfl
   ·rw[show KW 8 s m (BL.list.map (·.1)) (FW BL) (IL BL) v=OO (decide ((8:Int)=8)) (BL.list.map (·.1)) (FW BL) v from rfl];rw[LF]at hF⊢;generalize B9 ((RT.mk 8 s m c BL).enc [])=DZ at *
    (refine CK func13 ?_;simp only[go_sem,simprocAttr,DD]);(repeat'(first|((refine BU hF ?_);simp only[go_sem,simprocAttr])|fail))
   ·rw[show KW 9 s m (BL.list.map (·.1)) (FW BL) (IL BL) v=OO (decide ((9:Int)=8)) (BL.list.map (·.1)) (FW BL) v from rfl];rw[LF]at hF⊢;generalize B9 ((RT.mk 9 s m c BL).enc [])=DZ at *
    (refine CK func13 ?_;simp only[go_sem,simprocAttr,DD]);(repeat'(first|((refine BU hF ?_);simp only[go_sem,simprocAttr])|fail))
  have LJ:op=4\/op=5\/op=6\/op=7:=by
   unfold KG at LN;simp only[HU]at h1
   repeat' split at h1
   all_goals first|exact h1.elim|omega
  obtain⟨p0,r0,GS⟩:∃p0 r0,BL.list=p0::r0:=by
   have vK:1<=BL.len:=by rcases LJ with rfl|rfl|rfl|rfl<;>simp[HU]at h1<;>omega
   cases hk:BL.list with
   |nil=>rw[hk]at DV;simp only[KM]at DV;omega
   |cons a b=>exact⟨a,b,rfl⟩
  have NI:p0∈BL.list:=by rw[GS];exact DQ
  have g0:(NS BL.list)[0]?=some [.sl (B9 (p0.2.enc []))]:=cR (by rw[GS];rfl);rw[bm,GS]at hv;by_cases o5:op=5
  ·subst o5;have hv:(v.enc []).length*FA p0.2<=450000000000:=hv;have hF:=J1r p0.2 (FA p0.2) (HH p0 NI de) (bn _) (To p0) (fun t u ht hb hu=>(IG p0 NI de t u ht omg hu).2) false v hg hv;rw[show KW 5 s m (BL.list.map (·.1)) (FW BL) (IL BL) v=VH (EL p0.2) false v by rw[XM,GS];rfl];rw[LF]at hF⊢;generalize B9 ((RT.mk 5 s m c BL).enc [])=DZ at *
   (refine CK func13 ?_;simp only[go_sem,simprocAttr,DD]);(repeat'(first|((first|refine EG ?_|refine DS hT ?_|refine DS hF ?_);simp only[go_sem,simprocAttr,g0])|fail))
  by_cases o6:op=6
  ·subst o6;have hv:(v.enc []).length*FA p0.2<=450000000000:=hv;have hF:=J1r p0.2 (FA p0.2) (HH p0 NI de) (bn _) (To p0) (fun t u ht hb hu=>(IG p0 NI de t u ht omg hu).2) true v hg hv;rw[show KW 6 s m (BL.list.map (·.1)) (FW BL) (IL BL) v=VH (EL p0.2) true v by rw[XM,GS];rfl];rw[LF]at hF⊢;generalize B9 ((RT.mk 6 s m c BL).enc [])=DZ at *
   (refine CK func13 ?_;simp only[go_sem,simprocAttr,DD]);(repeat'(first|((first|refine EG ?_|refine DS hT ?_|refine DS hF ?_);simp only[go_sem,simprocAttr,g0])|fail))
  by_cases o7:op=7
  ·subst o7;have VQ:KG p0.2.kind:=(h2.1 p0 NI).1.2 (.inr rfl);have hv:(v.enc []).length*3<=450000000000:=hv;have hH:=J4i _ p0.2 (CS _) (bf.1 h3 p0 NI) VQ (aH UK NI).2 (CY p0 NI).2 v hg omg;have hR:KW 7 s m (BL.list.map (·.1)) (FW BL) (IL BL) v=match IN p0.2 v with
    |.error e=>.error e
    |.ok b=>if b=true then .ok v else .error 6:=by
    rw[mS,GS];show(match IN p0.2 v with
     |.error e=>.error e
     |.ok b=>if b=true then .ok v else .error 6:Except Nat BM)=_
    cases IN p0.2 v<;>rfl
   rw[hR];generalize B9 ((RT.mk 7 s m c BL).enc [])=DZ at *
   cases hh:IN p0.2 v with
   |error e =>
    have:=oS _ _ _ _ (CS _) hh;subst this;rw[hh]at hH;simp only[HZ,Ht]at hH;simp only[BV];(refine CK func13 ?_;simp only[go_sem,simprocAttr,DD]);(repeat'(first|((first|refine BU hT ?_|refine BU hH ?_);simp only[go_sem,simprocAttr,g0])|fail))
    all_goals rfl
   |ok b =>
    rw[hh]at hH;simp only[HZ,Ht]at hH;cases b with
    |true =>
     change CA cx _ _ _ (.tup [.sl (BP (v.enc [])),.int .i64 0]) _;(refine CK func13 ?_;simp only[go_sem,simprocAttr,DD]);(repeat'(first|((first|refine BU hT ?_|refine BU hH ?_);simp only[go_sem,simprocAttr,g0])|fail))
     all_goals rfl
    |false =>
     change CA cx _ _ _ (.tup [.snil,.int .i64 6]) _;(refine CK func13 ?_;simp only[go_sem,simprocAttr,DD]);(repeat'(first|((first|refine BU hT ?_|refine BU hH ?_);simp only[go_sem,simprocAttr,g0])|fail))
     all_goals rfl
  ·obtain rfl:op=4:=omg;have vI:BL.len=2:=by simp[HU]at h1;omega
   cases r0 with
   |nil=>rw[GS]at DV;simp only[DH,KM]at DV;omega
   |cons p1 r1 =>
    have eF:p1∈BL.list:=by rw[GS];exact EW _ DQ
    have g1:(NS BL.list)[1]?=some [.sl (B9 (p1.2.enc []))]:=cR (by rw[GS];rfl);have hv:(v.enc []).length*(FA p0.2*FA p1.2)<=450000000000:=hv;have w1:=bn p1.2;have cC:(v.enc []).length*FA p0.2<=450000000000:=by
     have:=ZT (v.enc []).length (gQ (FA p0.2) w1);omega
    have I0:=HH p0 NI de v Tg X' cC;have hR:KW 4 s m (BL.list.map (·.1)) (FW BL) (IL BL) v=match EL p0.2 v with
     |.error e=>.error e
     |.ok x=>EL p1.2 x:=by
     rw[XM,GS];show(match EL p0.2 v with
      |.error e=>.error e
      |.ok x=>EL p1.2 x:Except Nat BM)=_
     cases EL p0.2 v<;>rfl
    rw[hR];cases hx:EL p0.2 v with
    |error e =>
     rw[hx,BV]at I0;simp only[BV];generalize B9 ((RT.mk 4 s m c BL).enc [])=DZ at *
     rcases To p0 v e hx with rfl|rfl
     ·(refine CK func13 ?_;simp only[go_sem,simprocAttr,DD]);(repeat'(first|((first|refine BU hT ?_|refine BU I0 ?_);simp only[go_sem,simprocAttr,g0])|fail))
      all_goals rfl
     ·(refine CK func13 ?_;simp only[go_sem,simprocAttr,DD]);(repeat'(first|((first|refine BU hT ?_|refine BU I0 ?_);simp only[go_sem,simprocAttr,g0])|fail))
      all_goals rfl
    |ok x =>
     have EH:=IG p0 NI de v x hg omg hx;have PB:(x.enc []).length*FA p1.2<=450000000000:=by
      have:=M' (FA p1.2) EH.2;rw[UA (FA p0.2),Qm]at this;omega
     have I1:=HH p1 eF de x EH.1.1 EH.1.2 PB;rw[hx,BV]at I0;simp only;rw[LF]at I1⊢;generalize B9 ((RT.mk 4 s m c BL).enc [])=DZ at *
     (refine CK func13 ?_;simp only[go_sem,simprocAttr,DD]);(repeat'(first|((first|refine BU hT ?_|refine BU I0 ?_|refine BU I1 ?_);simp only[go_sem,simprocAttr,g0,g1])|fail))
def J8x(v:List CW)(u:List Node)(hv:YJ v)(hu:QE u):CA cx 3 [.p (.sl (B9 v)),.p (.sl (BP u))] [] (.p (.bool true)) []:=by
 have hG:=Kbt v u hv hu;cases b1:aF v 40 with
 |false =>
  rw[b1,Bool.false_and]at hG;refine CB func3 ?_;(repeat'(first|((first|refine BU hG ?_|refine BU zH ?_);simp only[go_sem,simprocAttr])|fail))
 |true =>
 cases b2:TO u 40 with
 |false =>
  rw[b1,b2]at hG;refine CB func3 ?_;(repeat'(first|((first|refine BU hG ?_|refine BU zH ?_);simp only[go_sem,simprocAttr])|fail))
 |true =>
 rw[b1,b2]at hG;obtain⟨f,ho,hc,rfl,hl,UK⟩:=J8a b1;obtain⟨x,hx,rfl,PU,ž⟩:=Fw hu b2;have EH:GT x:=⟨hx,ž⟩
 have hb:=Kdr (Kbc _ f (CS _) ho) omg PU;have hE:=Kao _ f (CS _) ho hc UK omg x hx ž omg;have hD:=J8i _ f (CS _) ho hc UK omg x hx ž omg;cases he:EL f x with
 |error e =>
  rw[he,BV]at hE hD;refine CB func3 ?_;(repeat'(first|((first|refine BU hG ?_|refine BU hE ?_|refine BU hD ?_|refine BU Jz ?_|refine BU zH ?_);simp only[go_sem,simprocAttr])|fail))
 |ok y =>
  rw[he,BV]at hE hD;obtain⟨UD,dG⟩:=yx _ f (CS _) ho hc UK x y EH omg he;rw[UA]at dG;have hS:=E2 (y.enc []) (y.enc []) omg omg;rw[AG rfl]at hS;refine CB func3 ?_;(repeat'(first|((first|refine BU hG ?_|refine BU hE ?_|refine BU hD ?_|refine BU hS ?_|refine BU zH ?_);simp only[go_sem,simprocAttr])|fail))
end Go.LX
