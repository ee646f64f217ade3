/- Numbers, the program: the number of Jqr; a whole number, as a value. -/
import Derived.Test.YtaghbedfogiopaaGreatDoorPxL
set_option linter.unusedSimpArgs false
set_option linter.unusedVariables false
set_option linter.unusedSectionVars false
set_option linter.unnecessarySimpa false
set_option maxRecDepth 100000
set_option maxHeartbeats 2000000
namespace Go.LX
open Go Go.RowKit Go.Proofs Go.Proofs.Tryz
attribute [local irreducible] Al SWP Bi
theorem Kaa (s:List UInt8):Det cx 138 [.p (.str s),.p (.str [48])] [] (.p (.str (Jr9 s))) []:=by
 refine Jr1 (v:=.string ⟨⟨Jr9 s⟩⟩) (enters_of func138 kr rfl) rfl (fun β w Im=>PRep.str _) fun β Im w vs hg hf=>?_
 obtain ⟨v,u,rfl,h1,h2⟩:=fit2 hf;cases Ks h1;cases Ks h2;refine (Tryz.strings_TrimLeft_one ⟨⟨s⟩⟩ 48 de w).mono fun e w' ⟨h,hw⟩=>⟨h,by subst hw;exact Below.refl _ _⟩
theorem J7y (s:List UInt8) (hs:s.length<=9223372036854775807):Det cx 139 [.p (.str s),.p (.str [48])] [] (.p (.str (Jqy s))) []:=by
 refine Jr1 (v:=.string ⟨⟨Jqy s⟩⟩) (enters_of func139 kr rfl) rfl (fun β w Im=>PRep.str _) fun β Im w vs hg hf=>?_
 obtain ⟨v,u,rfl,h1,h2⟩:=fit2 hf;cases Ks h1;cases Ks h2;refine (Tryz.strings_TrimRight_one ⟨⟨s⟩⟩ 48 de w hs).mono fun e w' ⟨h,hw⟩=>⟨h,by subst hw;exact Below.refl _ _⟩
theorem J4v (neg:Bool) (s:List UInt8) (e:Int) (hs:s.length<=1000000) :
  Det cx 90 [.p (.bool neg),.p (.str s),.p (.int .i64 e)] [] (.tup [.agg (make neg s e).1.pv,.int .i64 (make neg s e).2]) []:=by
 have hl:=J9r s;have hr:=Jx4 (Jr9 s);(refine bgo func90 ?_;simp only[go_sem,simprocAttr]);(repeat'(first|(apply iteI<;>intro h)|((first|(refine Jqa (J78 _ omg) ?_)|(refine Jqa (Kaa _) ?_)|(refine Jqa (J7y _ omg) ?_)|(refine Jqa (Kcv _ _ omg omg) ?_));simp only[go_sem,simprocAttr])|fail))
 all_goals (try simp (disch:=omega) only [Aa,Qs,Ab,Jlh,Mf,Ja0,Jcc,Ja7,Jak] at *)
 ·simp[make, *,Jt3,Jth]
 ·simp[make, *,Jt3,Jth]
 ·simp[make, *,Jt3,Jth]
 ·simp[make, *,Jt3,Jth]
 ·simp[make, *,Jt3,Jth]
 ·rw[J41] at h;by_cases c1:e+((Jr9 s).length - (Jqy (Jr9 s)).length) < -1000
  ·simp[make, *,Jt3,Jth]
  ·have c2:1000<((Jqy (Jr9 s)).length:Int)+(e+((Jr9 s).length - (Jqy (Jr9 s)).length)):=by omega
   simp[make, *,Jt3,Jth]
 ·rw[J41] at h;have c1:¬ e+((Jr9 s).length - (Jqy (Jr9 s)).length) < -1000:=by omega
  have c2:¬ 1000<((Jqy (Jr9 s)).length:Int)+(e+((Jr9 s).length - (Jqy (Jr9 s)).length)):=by omega
  simp[make, *,Jt3,Jth]
theorem J8y {i:Nat} (h:i<10 ^ 20):(make false (Lib.decDigits i) 0).2=0/\[(make false (Lib.decDigits i) 0).1.pv]=valL ((numV i).enc []):=by
 have hl:=Xk 19 i omg;have hfg:Jqr (Lib.decDigits i)=true:=by
  rw[J4a];unfold Pk;rw[Eby];intro c hc;have:=Jmj i c hc;unfold isDg at this;simp[Ja8,this.1,this.2]
 by_cases h0:i=0
 ·subst h0;have hd:Lib.decDigits 0=[48]:=by rw[Lib.decDigits];rfl
  have hs:(Jr9 (Lib.decDigits 0)).length=0:=by rw[hd];rfl
  have e0:valL ((numV 0).enc [])=[[.int .i64 3,.int .i64 0,.str [],.str [],.bool false,.int .i64 0]]:=by
   unfold numV;rw[if_pos rfl,A6,Bl];rfl
  rw[e0];unfold make;rw[if_neg (by rw[hfg];decide),if_pos hs];exact ⟨rfl,rfl⟩
 ·have hs:Jr9 (Lib.decDigits i)=Lib.decDigits i:=by
   refine J68 fun e=>?_
   cases hd:Lib.decDigits i with
   | nil=>exact absurd hd (U6 i)
   | cons c r =>
    rw[hd,Jy3] at e;exact h0 (Jg0 i c r hd e).2
  have hp:=Jv8 h0;have hsl:=Jx4 (Lib.decDigits i);have e0:valL ((numV i).enc [])=[[.int .i64 3,.int .i64 0,.str [],.str (Jqy (Lib.decDigits i)),.bool false,.int .i64 (((Lib.decDigits i).length - (Jqy (Lib.decDigits i)).length:Nat):Int)]]:=by
   unfold numV;rw[if_neg h0,A6,Bl];rfl
  have em:make false (Lib.decDigits i) 0=({ Jt3 with kind:=3,s:=Jqy (Lib.decDigits i),neg:=false,e:=(0:Int)+((Lib.decDigits i).length - (Jqy (Lib.decDigits i)).length) },0):=by
   unfold make;rw[if_neg (by rw[hfg];decide),hs,if_neg omg,if_neg omg,if_neg omg];simp only;rw[if_neg omg,if_neg omg,if_neg omg]
  rw[em,e0];refine ⟨rfl,?_⟩;have ee:(0:Int)+(((Lib.decDigits i).length:Int) - ((Jqy (Lib.decDigits i)).length:Int))=(((Lib.decDigits i).length - (Jqy (Lib.decDigits i)).length:Nat):Int):=by omega
  rw[ee];rfl
theorem J5c (s:List UInt8) (g:Bool) (e:Int) (kids:Forest) (hv:kids.enc.length<=1350000000000):Det cx 86 [.p (.sl (valL ((Tree.mk 6 s g e kids).enc [])))] [] (.p (.sl (Bd kids.list))) []:=J56 [] s g e kids omg
theorem J2j (k:Int) (s:List UInt8) (g:Bool) (e:Int) (kids:Forest) (hk:¬ k=6):Det cx 86 [.p (.sl (valL ((Tree.mk k s g e kids).enc [])))] [] (.p .snil) []:=by
 have e6:=eq_false hk;(refine bgo func86 ?_;simp only[go_sem,simprocAttr,Cc,e6])
 skip
theorem J80 (key x:Tree) (h1:(key.enc []).length<=600000000000) (h2:(x.enc []).length<=600000000000):Det cx 89 [.p (.sl [[.str [107,101,121]],[.str [118,97,108,117,101]]]),.p (.sl [[.sl (valL (key.enc []))],[.sl (valL (x.enc []))]])] [] (.tup [.sl (valL ((Jso key x).enc [])),.int .i64 0]) []:=by
 have hlen:(A1 [(sKey,key),(sVal,x)]).enc.length=(key.enc []).length+(x.enc []).length:=by
  rw[show A1 [(sKey,key),(sVal,x)]=.cons sKey key (.cons sVal x .nil) from rfl,A0,A0,Bl,Eac,Eac,G7 key,G7 x];rfl
 have hO:=J3r [(sKey,key),(sVal,x)] omg (by
   intro p hp;simp only[Eak,Ebg,or_false] at hp;rcases hp with rfl | rfl
   ·exact ⟨(by decide:valid sKey=true),(by decide:sKey.length<=1000000)⟩
   ·exact ⟨(by decide:valid sVal=true),(by decide:sVal.length<=1000000)⟩) (by simp[sKey,sVal])
 have his:Lp [(sKey,key),(sVal,x)]=[(sKey,key),(sVal,x)]:=by
  have hlt:Op.bytesLess sVal sKey=false:=by decide
  have hlt2:Op.bytesLess sKey sVal=true:=by decide
  simp[Lp,putL,hlt,hlt2]
 rw[his] at hO;exact hO
theorem J5b (u:Nat):Lib.itoa (u:Int)=Lib.decDigits u:=by unfold Lib.itoa;rw[if_neg omg];simp
theorem J95 (v:Tree) (ok:okT v) (hv:(v.enc []).length<=450000000000):Det cx 41 [.p (.sl (valL (v.enc [])))] [] (getR (toE v)) []:=by
 have hP:=Jwu v omg;have hsz:=Jq1 v;have hsl:=Jrh (Jqe v);obtain ⟨k,s,g,e,kids⟩:=v;have hgv:=Cc [] k s g e kids;have hkt:Jqe (.mk k s g e kids)=kids.list.map (·.2):=rfl;have hktl:(Jqe (.mk k s g e kids)).length=kids.list.length:=by rw[hkt,Ea1]
 have h9:((Tree.mk k s g e kids).enc []).length=kids.enc.length+1:=by rw[A6,Ead]
 have hkx:∀ {i:Nat} {p:KT},kids.list[i]? = some p->(Jqd (Jqe (.mk k s g e kids)))[i]? = some [.sl (valL (p.2.enc []))]:=fun {i p} h=>Jq5 (by rw[hkt,Eam,h];rfl)
 have hps:∀ p∈kids.list,(p.2.enc []).length<=450000000000:=fun p hp=>by
  have:=Jr0 (show p.2∈Jqe (.mk k s g e kids) from Eap.2 ⟨p,hp,rfl⟩);omega
 have hKL:(Jqd (Jqe (.mk k s g e kids))).length=kids.list.length:=by rw[Jqf,hktl]
 by_cases k6:k=6
 ·subst k6;have hN:=J5c s g e kids omg;have hsE:Jqn (Jr6 kids.list)<=1350000000000:=by have:=Jvu kids.list;rw[<- hkt] at this;omega
  have hL:=Jtp (Jr6 kids.list) hsE;rw[show toE (.mk 6 s g e kids)=.ok (listT (Jr6 kids.list)) from rfl,getR];have hel:(Jr6 kids.list).length=kids.list.length:=by unfold Jr6;simp
  have heg:∀ {i:Nat} {p:KT},kids.list[i]? = some p->(Jr6 kids.list)[i]? = some (Jso (strT p.1) p.2):=fun {i p} h=>by unfold Jr6;rw[Eam,h];rfl
  have hgn:∀ {i:Nat} {p:KT},kids.list[i]? = some p->(Bd kids.list)[i]? = some [.str p.1]:=fun {i p} h=>by simp[Bd,h]
  generalize Jqd (Jqe (.mk 6 s g e kids))=KL at *
  generalize valL ((Tree.mk 6 s g e kids).enc [])=V at *
  generalize Jr6 kids.list=E at *
  (refine bgo func41 ?_;simp only[go_sem,simprocAttr,hgv]);(repeat'(first|((first|refine Jqa hN ?_|refine Jqa hP ?_);simp only[go_sem,simprocAttr,hKL])|fail));refine Jqg (Jrw _ (i:=5) (d:=57) 25 1 (.inl de) rfl) ?_;simp only[St.nilOwn,St.nilReg,go_sem,simprocAttr,hgv,hKL];refine SWP.loop (fun i:Nat=>⟨Ba 61 [(0,.p (.sl V)),(4,.p (.sl (Bd kids.list))),(5,.own 57 0 i),(21,.p (.sl KL)),(22,.p (.int .i64 kids.list.length)),(23,.p (.int .i64 i))],[(57,.row 25 1 (Jqd (E.take i)))]⟩) (fun i=>i<=kids.list.length) (fun i=>kids.list.length - i) 0 Jqc (Eau _) ?_;rintro i hi;by_cases hlt:i<kids.list.length
  ·have c1:((i:Int)<(kids.list.length:Int))=True:=eq_true omg;obtain ⟨p,hp⟩:∃ p,kids.list[i]? = some p:=⟨_,Eaa hlt⟩
   have hpm:=Eag hp;have g1:=hkx hp;have g2:=hgn hp;have g3:=heg hp;have hI:=N0 (i:Int) omg omg;rw[J5b] at hI;obtain ⟨m0,m1⟩:=J8y (i:=i) omg;have hM:=J4v false (Lib.decDigits i) 0 (by have:=Xk 19 i omg;omega);rw[m0] at hM;have hT:=J5u p.1;have hEn:=J80 (strT p.1) p.2 (by rw[Jy8];omega) (by have:=hps p hpm;omega);have hln:(Jqd (E.take i)).length=i:=by rw[Jqf,Eay];omega
   have htk:Jqd (E.take (i+1))=Jqd (E.take i) ++ [[.sl (valL ((Jso (strT p.1) p.2).enc []))]]:=by rw[Jry g3,Jrl];rfl
   rw[Jth] at hM;(refine lws ?_;simp only[go_sem,simprocAttr,c1,g1,wj1 (i:=i) omg]);(repeat'(first|(refine And.intro (by first|(simp;done)|(simp;omega)) ?_)|refine Jqj ?_|((first|refine Jqa hI ?_|refine Jqa hM ?_|refine Jqa hT ?_|refine Jqa hEn ?_);simp only[go_sem,simprocAttr,hgv,g2,hln,wj1 (i:=i) omg])|fail))
   all_goals exact ⟨i+1,omg,omg,by rw[htk];exact Jqc⟩
  ·obtain rfl:i=kids.list.length:=by omega
   have c1:((kids.list.length:Int)<(kids.list.length:Int))=False:=eq_false omg;have ht1:E.take kids.list.length=E:=Eae omg;have ht2:(Jqd E).take kids.list.length=Jqd E:=Eae (by rw[Jqf];omega);have hle:(kids.list.length<=(Jqd E).length)=True:=eq_true (by rw[Jqf];omega);(refine lws ?_;simp only[go_sem,simprocAttr,c1,ht1,ht2,hle]);(repeat'(first|((refine Jqa hL ?_);simp only[go_sem,simprocAttr])|fail))
 ·by_cases k5:k=5
  ·subst k5;have hN:=J2j 5 s g e kids de;have hsE:Jqn (Jr3 0 kids.list)<=1350000000000:=by have:=Jwj kids.list 0;rw[<- hkt] at this;omega
   have hL:=Jtp (Jr3 0 kids.list) hsE;rw[show toE (.mk 5 s g e kids)=.ok (listT (Jr3 0 kids.list)) from rfl,getR];have hel:(Jr3 0 kids.list).length=kids.list.length:=J0a;have heg:∀ {i:Nat} {p:KT},kids.list[i]? = some p->(Jr3 0 kids.list)[i]? = some (Jso (numV i) p.2):=fun {i p} h=>by have:=Jzs (i:=0) h;rw[Ebo] at this;exact this
   generalize Jqd (Jqe (.mk 5 s g e kids))=KL at *
   generalize valL ((Tree.mk 5 s g e kids).enc [])=V at *
   generalize Jr3 0 kids.list=E at *
   (refine bgo func41 ?_;simp only[go_sem,simprocAttr,hgv]);(repeat'(first|((first|refine Jqa hN ?_|refine Jqa hP ?_);simp only[go_sem,simprocAttr,hKL])|fail));refine Jqg (Jrw _ (i:=5) (d:=57) 25 1 (.inl de) rfl) ?_;simp only[St.nilOwn,St.nilReg,go_sem,simprocAttr,hgv,hKL];refine SWP.loop (fun i:Nat=>⟨Ba 61 [(0,.p (.sl V)),(5,.own 57 0 i),(21,.p (.sl KL)),(22,.p (.int .i64 kids.list.length)),(23,.p (.int .i64 i))],[(57,.row 25 1 (Jqd (E.take i)))]⟩) (fun i=>i<=kids.list.length) (fun i=>kids.list.length - i) 0 Jqc (Eau _) ?_;rintro i hi;by_cases hlt:i<kids.list.length
   ·have c1:((i:Int)<(kids.list.length:Int))=True:=eq_true omg;obtain ⟨p,hp⟩:∃ p,kids.list[i]? = some p:=⟨_,Eaa hlt⟩
    have hpm:=Eag hp;have g1:=hkx hp;have g3:=heg hp;have hI:=N0 (i:Int) omg omg;rw[J5b] at hI;obtain ⟨m0,m1⟩:=J8y (i:=i) omg;have hM:=J4v false (Lib.decDigits i) 0 (by have:=Xk 19 i omg;omega);rw[m0] at hM;have hEn:=J80 (numV i) p.2 (by rw[J5s];omega) (by have:=hps p hpm;omega);rw[<- m1] at hEn;have hln:(Jqd (E.take i)).length=i:=by rw[Jqf,Eay];omega
    have htk:Jqd (E.take (i+1))=Jqd (E.take i) ++ [[.sl (valL ((Jso (numV i) p.2).enc []))]]:=by rw[Jry g3,Jrl];rfl
    rw[Jth] at hM hEn;(refine lws ?_;simp only[go_sem,simprocAttr,c1,g1,wj1 (i:=i) omg]);(repeat'(first|(refine And.intro (by first|(simp;done)|(simp;omega)) ?_)|refine Jqj ?_|((first|refine Jqa hI ?_|refine Jqa hM ?_|refine Jqa hEn ?_);simp only[go_sem,simprocAttr,hgv,hln,wj1 (i:=i) omg])|fail))
    all_goals exact ⟨i+1,omg,omg,by rw[htk];exact Jqc⟩
   ·obtain rfl:i=kids.list.length:=by omega
    have c1:((kids.list.length:Int)<(kids.list.length:Int))=False:=eq_false omg;have ht1:E.take kids.list.length=E:=Eae omg;have ht2:(Jqd E).take kids.list.length=Jqd E:=Eae (by rw[Jqf];omega);have hle:(kids.list.length<=(Jqd E).length)=True:=eq_true (by rw[Jqf];omega);(refine lws ?_;simp only[go_sem,simprocAttr,c1,ht1,ht2,hle]);(repeat'(first|((refine Jqa hL ?_);simp only[go_sem,simprocAttr])|fail))
  ·have hkk:=J1c ok;have c5:(k<5)=True:=eq_true omg;rw[show toE (.mk k s g e kids)=.error 5 by unfold toE;simp[Tree.kind,k5,k6],getR];generalize valL ((Tree.mk k s g e kids).enc [])=V at *
   (refine bgo func41 ?_;simp only[go_sem,simprocAttr,hgv,c5])
   all_goals rfl
def Jsh (ks:List Tree):List Nat->List Nat->List Nat
 | [],b=>b
 | x :: a,[]=>x :: a
 | x :: a,y :: b=>if cmpT (Jq3 ks y) (Jq3 ks x)<0 then y :: Jsh ks (x :: a) b else x :: Jsh ks a (y :: b)
termination_by a b=>a.length+b.length
theorem Jwg (ks:List Tree) (b:List Nat):Jsh ks [] b=b:=by rw[Jsh]
theorem Jv0 (ks:List Tree) (a:List Nat):Jsh ks a []=a:=by cases a<;>rw[Jsh]
theorem Jxd {ks:List Tree} {x y:Nat} {a b:List Nat} (h:cmpT (Jq3 ks y) (Jq3 ks x)<0):Jsh ks (x :: a) (y :: b)=y :: Jsh ks (x :: a) b:=by rw[Jsh,if_pos h]
theorem Jxn {ks:List Tree} {x y:Nat} {a b:List Nat} (h:¬ cmpT (Jq3 ks y) (Jq3 ks x)<0):Jsh ks (x :: a) (y :: b)=x :: Jsh ks a (y :: b):=by rw[Jsh,if_neg h]
theorem Jyb (ks:List Tree):∀ (n:Nat) (a b:List Nat),a.length+b.length<=n->(Jsh ks a b).length=a.length+b.length
 | _,[],b,_=>by rw[Jwg];simp
 | _,x :: a,[],_=>by rw[Jv0];simp
 | 0,x :: a,y :: b,h=>by simp at h
 | n+1,x :: a,y :: b,h=>by
  simp only[Ead] at h;by_cases c:cmpT (Jq3 ks y) (Jq3 ks x)<0
  ·rw[Jxd c,Ead,Jyb ks n (x :: a) b (by simp only[Ead];omega)];simp only[Ead];omega
  ·rw[Jxn c,Ead,Jyb ks n a (y :: b) (by simp only[Ead];omega)];simp only[Ead];omega
theorem Juo (ks:List Tree):∀ (n:Nat) (a b:List Nat),a.length+b.length<=n->∀ i,i∈Jsh ks a b ↔ i∈a\/i∈b
 | _,[],b,_,i=>by rw[Jwg];simp
 | _,x :: a,[],_,i=>by rw[Jv0];simp
 | 0,x :: a,y :: b,h,i=>by simp at h
 | n+1,x :: a,y :: b,h,i=>by
  simp only[Ead] at h;by_cases c:cmpT (Jq3 ks y) (Jq3 ks x)<0
  ·rw[Jxd c,Eak,Juo ks n (x :: a) b (by simp only[Ead];omega)];simp only[Eak];constructor
   ·rintro (h | (h | h) | h)
    ·exact .inr (.inl h)
    ·exact .inl (.inl h)
    ·exact .inl (.inr h)
    ·exact .inr (.inr h)
   ·rintro ((h | h)|(h | h))
    ·exact .inr (.inl (.inl h))
    ·exact .inr (.inl (.inr h))
    ·exact .inl h
    ·exact .inr (.inr h)
  ·rw[Jxn c,Eak,Juo ks n a (y :: b) (by simp only[Ead];omega)];simp only[Eak];constructor
   ·rintro (h | h | h)
    ·exact .inl (.inl h)
    ·exact .inl (.inr h)
    ·exact .inr h
   ·rintro ((h | h) | h)
    ·exact .inl h
    ·exact .inr (.inl h)
    ·exact .inr (.inr h)
theorem Jx6 {ks:List Tree} (ok:okK ks):∀ (n:Nat) (a b:List Nat),a.length+b.length<=n->a.Pairwise (fun x y=>ltB ks x y=true)->b.Pairwise (fun x y=>ltB ks x y=true)->(∀ x∈a,∀ y∈b,x<y)->(Jsh ks a b).Pairwise fun x y=>ltB ks x y=true
 | _,[],b,_,_,hb,_=>by rw[Jwg];exact hb
 | _,x :: a,[],_,ha,_,_=>by rw[Jv0];exact ha
 | 0,x :: a,y :: b,h,_,_,_=>by simp at h
 | n+1,x :: a,y :: b,h,ha,hb,hab=>by
  simp only[Ead] at h;obtain ⟨ha1,ha2⟩:=Ebf.1 ha;obtain ⟨hb1,hb2⟩:=Ebf.1 hb;have hxy:=hab x Eaf y Eaf;by_cases c:cmpT (Jq3 ks y) (Jq3 ks x)<0
  ·have hyx:ltB ks y x=true:=by unfold ltB;rw[decide_eq_true_eq];exact .inl c
   rw[Jxd c];refine Ebf.2 ⟨fun z hz=>?_,Jx6 ok n (x :: a) b (by simp only[Ead];omega) ha hb2 fun u hu v hv=>hab u hu v (Eai _ hv)⟩;rcases (Juo ks _ _ _ (Eah _) z).1 hz with hz | hz
   ·rcases Eak.1 hz with rfl | hz
    ·exact hyx
    ·exact Jxl ok hyx (ha1 z hz)
   ·exact hb1 z hz
  ·have hxy':ltB ks x y=true:=by
    unfold ltB;rw[decide_eq_true_eq];have hs:=J0g (Jtb ok y) (Jtb ok x);by_cases h0:cmpT (Jq3 ks x) (Jq3 ks y)=0
    ·exact .inr ⟨h0,hxy⟩
    ·exact .inl omg
   rw[Jxn c];refine Ebf.2 ⟨fun z hz=>?_,Jx6 ok n a (y :: b) (by simp only[Ead];omega) ha2 hb fun u hu v hv=>hab u (Eai _ hu) v hv⟩;rcases (Juo ks _ _ _ (Eah _) z).1 hz with hz | hz
   ·exact ha1 z hz
   ·rcases Eak.1 hz with rfl | hz
    ·exact hxy'
    ·exact Jxl ok hxy' (hb1 z hz)
def Jt8 (ks:List Tree):Nat->List Nat->List Nat
 | 0,l=>l
 | n+1,l=>if l.length<2 then l else Jsh ks (Jt8 ks n (l.take (l.length / 2))) (Jt8 ks n (l.drop (l.length / 2)))
theorem Jt0 {ks:List Tree} (ok:okK ks):∀ (n:Nat) (l:List Nat),l.length<=n->l.Pairwise (· < ·)->(∀ i,i∈Jt8 ks n l ↔ i∈l)/\(Jt8 ks n l).Pairwise (fun x y=>ltB ks x y=true)/\(Jt8 ks n l).length=l.length
 | 0,l,h,_=>by
  have:l=[]:=Ean omg;subst this;exact ⟨fun i=>Iff.rfl,.nil,rfl⟩
 | n+1,l,h,hp=>by
  rw[Jt8];by_cases h2:l.length<2
  ·rw[if_pos h2];refine ⟨fun i=>Iff.rfl,?_,rfl⟩
   match l,h2 with
   | [],_=>exact .nil
   | [x],_=>exact List.pairwise_singleton _ _
  ·rw[if_neg h2];have e:l.take (l.length / 2) ++ l.drop (l.length / 2)=l:=Ebk _ _;have hp':=hp;rw[<- e,Eci] at hp';obtain ⟨p1,p2,p3⟩:=hp';obtain ⟨a1,a2,a3⟩:=Jt0 ok n (l.take (l.length / 2)) (by rw[Eay];omega) p1;obtain ⟨b1,b2,b3⟩:=Jt0 ok n (l.drop (l.length / 2)) (by rw[Ea5];omega) p2;refine ⟨fun i=>?_,Jx6 ok _ _ _ (Eah _) a2 b2 fun x hx y hy=>p3 x ((a1 x).1 hx) y ((b1 y).1 hy),?_⟩
   ·rw[Juo ks _ _ _ (Eah _),a1,b1,<- Eax,e]
   ·rw[Jyb ks _ _ _ (Eah _),a3,b3,Eay,Ea5];omega
theorem Kdm {ks:List Tree} (ok:okK ks):Jt8 ks ks.length (List.range ks.length)=Jra ks:=by
 obtain ⟨h1,h2,_⟩:=Jt0 ok ks.length (List.range ks.length) sm List.pairwise_lt_range;exact J53 ok (fun i=>by rw[h1,List.mem_range]) h2
def J4h (ks:List Tree):Prop:=okK ks/\ks.length<=1500000000000/\∀ t∈ks,(t.enc []).length<=1500000000000
theorem Khi (ks:List Tree) (hk:J4h ks) (x y:Nat) (hx:x<ks.length) (hy:y<ks.length):Det cx 146 [.p (.int .i64 x),.p (.int .i64 y),.eptr [.sl (Jqd ks)]] [] (.p (.bool (decide (cmpT (Jq3 ks x) (Jq3 ks y)<0)))) []:=by
 obtain ⟨a,ha⟩:∃ a,ks[x]? = some a:=⟨_,Eaa hx⟩
 obtain ⟨b,hb⟩:∃ b,ks[y]? = some b:=⟨_,Eaa hy⟩
 have ga:=Jq5 ha;have gb:=Jq5 hb;have ma:=Eag ha;have mb:=Eag hb;have hC:=Ke2 _ a b (Eah _) (hk.1 a ma) (hk.1 b mb) (hk.2.2 a ma) (hk.2.2 b mb);rw[Jrq ha,Jrq hb];(refine bgo func146 ?_;simp only[go_sem,simprocAttr]);(repeat'(first|((first|refine Jqm ?_|refine Jqb hC ?_);simp only[go_sem,simprocAttr,ga,gb])|fail))
end Go.LX
namespace Go.LX
open Go Go.RowKit Go.Proofs
theorem J1q (s:St) (d:Nat) {T:TypeId} {ls:List L} {ps:List PV} (hr:Am d s.regs=some (.var T ls)) (hp:Bg L.pure? ls=some ps):s.Le (Dx d (some (.ar ps)) s):=by
 rintro Γ a w ⟨ms,hdef,β,Im,hx⟩;exact ⟨ms,hdef,β,_,hx.freezeZ d (.ar ps) ⟨_,_,hx.fit.regs d _ (Ax hr),hp⟩ _ (Ax hr)⟩
def farC:L->Bool
 | .p _=>true
 | .eptr _=>true
 | .fn _ []=>true
 | .tup _=>true
 | _=>false
section
variable {X:Cx} {ro:Option Nat} {ops:Array Oper}
def Ke5 (o:Oper):Bool:=o.guard.isNone && match o.op with
 | .move _=>true
 | .extract ..=>true
 | .call { callee:=.value _,args:=_,argTypes:=_ }=>true
 | _=>false
def Kg6 (s:St) (o:Oper):Prop:=∀ x∈o.op.operands.toList,farC (s.get x)=true/\(Ke5 o=true\/farL (s.get x)=true)
def lTakeC (X:Cx) (ds:List (Option Tmp)) (ops:List Oper) (E:St->Prop):List Nat->St->Prop
 | [],s=>E s
 | i :: I,s=>match ops[i]? with
  | some o=>Kg6 s o/\YS X ds s o fun l=>farC l=true/\lTakeC X ds ops E I (s.put o.dst l)
  | none=>False
def takeCB (ops:Array Oper) (k:Nat):List Nat->Array Bool->Bool
 | [],_=>true
 | i :: I,listed=>(Region.ready .any ops listed).contains i && (Region.free .any ops listed i && (decide (i<k) && ((match ops[i]? with | some o=>Jwf o || Ke5 o | none=>false) && ((List.range ops.size).all (fun j=>decide (j<k) || (ancB .any ops ops.size i j || match ops[j]? with | some o=>Jv5 o || Jwk o | none=>false)) && takeCB ops k I (listed.setIfInBounds i true)))))
end
section
variable {X:Cx} {ds:List (Option Tmp)} {t:List L} {r:Regs} {E:St->Prop} {dst:Option Tmp} {ty:TypeId} {ps:String} {af:Array Edge} {g:Option (Nat×Bool)}
def kfarC (dst:Option Tmp) (C:St->Prop) (s:St) (l:L):Prop:=farC l=true/\C (s.put dst l)
theorem far_of {l:L}:(farC l=true/\farL l=true)=(farL l=true):=by
 cases l<;>simp[farC,farL]
end
end Go.LX
namespace Go.LX
open Go Go.RowKit Go.Proofs Go.Proofs.Tryz
attribute [local irreducible] Al SWP Bi
theorem Kdd (ks:List Tree) (hk:J4h ks) (a b:List Nat) (ha:∀ i∈a,i<ks.length) (hb:∀ i∈b,i<ks.length) (hl:a.length+b.length<=1500000000000):Det cx 184 [.p (.sl (natL a)),.p (.sl (natL b)),.p (.clo 146 [.sl (Jqd ks)])] [] (.p (.sl (natL (Jsh ks a b)))) []:=by
 have wl:IntKind.i64.wrap ((a.length:Int)+(b.length:Int))=((a.length+b.length:Nat):Int):=by rw[Aa omg omg];omega
 have wl0:((0:Int)<=((a.length+b.length:Nat):Int))=True:=eq_true omg;(refine bgo func184 ?_;simp only[go_sem,simprocAttr,Jqx,wl,wl0]);(repeat'(first|refine Jqj ?_|fail));refine SWP.loop (fun x:List Nat×List Nat×List Nat=>⟨Ba 51 [(0,.p (.sl (natL x.2.1))),(1,.p (.sl (natL x.2.2))),(2,.p (.clo 146 [.sl (Jqd ks)])),(7,.own 13 0 x.1.length)],[(13,.row 3 1 (natL x.1))]⟩) (fun x=>Jsh ks a b=x.1 ++ Jsh ks x.2.1 x.2.2/\(∀ i∈x.2.1,i<ks.length)/\(∀ i∈x.2.2,i<ks.length)/\x.1.length+x.2.1.length+x.2.2.length<=a.length+b.length) (fun x=>x.2.1.length+x.2.2.length) ([],a,b) Jqc ⟨rfl,ha,hb,by simp⟩ ?_;rintro ⟨o,u,v⟩ ⟨h1,h2,h3,h4⟩;simp only at h1 h2 h3 h4;have hcon:∀ n:Nat,natL o ++ [[.int .i64 (n:Int)]]=natL (o ++ [n]):=fun n=>(Jvf o [n]).symm
 cases u with
 | nil =>
  rw[Jwg] at h1;rw[h1];have c1:((0:Int)<((0:Nat):Int))=False:=eq_false omg;have hc2:natL o ++ natL v=natL (o ++ v):=(Jvf o v).symm;have ht:(natL (o ++ v)).take (o.length+v.length)=natL (o ++ v):=Eae sm;have hln:(o.length+v.length<=(o ++ v).length)=True:=eq_true sm;have hel:=Jwd v;(refine lws ?_;simp only[go_sem,simprocAttr,Jqx,hc2,ht,hln,J28,Eaw,Ea8,Nat.add_zero]);(repeat'(first|(refine And.intro (by first|exact hel | (simp;done)|(simp at h4 ⊢;omega)) ?_)|fail))
  all_goals (simp at h4;omega)
 | cons x u =>
  have c1:((0:Int)<(((x :: u).length:Nat):Int))=True:=eq_true (by simp only[Ead];omega);have gx:(natL (x :: u))[0]? = some [.int .i64 (x:Int)]:=rfl;have dx:(natL (x :: u)).drop 1=natL u:=rfl;cases v with
  | nil =>
   rw[Jv0] at h1;rw[h1];have c2:((0:Int)<((0:Nat):Int))=False:=eq_false omg;have hc2:natL o ++ natL (x :: u)=natL (o ++ x :: u):=(Jvf o (x :: u)).symm;have ht:(natL (o ++ x :: u)).take (o.length+(u.length+1))=natL (o ++ x :: u):=Eae sm;have hln:(o.length+(u.length+1)<=(o ++ x :: u).length)=True:=eq_true sm;have hnt:(0<((u.length+1:Nat):Int))=True:=eq_true omg;have hel:=Jwd (x :: u);(refine lws ?_;simp only[go_sem,simprocAttr,Jqx,hc2,ht,hln,J28,Eaw,Ea8,Nat.add_zero]);(repeat'(first|(refine And.intro (by first|exact hel | (simp;done)|(simp at h4 ⊢;omega)) ?_)|(apply iteI<;>intro h)|(exfalso;omega)))
   all_goals (simp at h4;omega)
  | cons y v =>
   have c2:((0:Int)<(((y :: v).length:Nat):Int))=True:=eq_true (by simp only[Ead];omega);have gy:(natL (y :: v))[0]? = some [.int .i64 (y:Int)]:=rfl;have dy:(natL (y :: v)).drop 1=natL v:=rfl;have hL:=Khi ks hk y x (h3 y Eaf) (h2 x Eaf);have lx:(x :: u).length=u.length+1:=rfl;have ly:(y :: v).length=v.length+1:=rfl;rw[lx,ly] at h4;have tku:(natL u).take u.length=natL u:=Eae sm;have tkv:(natL v).take v.length=natL v:=Eae sm;by_cases c:cmpT (Jq3 ks y) (Jq3 ks x)<0
   ·rw[decide_eq_true c] at hL;rw[Jxd c] at h1;rw[lx] at c1;rw[ly] at c2;(refine lws ?_;simp only[go_sem,simprocAttr,Jqx,c1,c2,lx,ly]);(repeat'(first|((first|refine Jqm ?_|refine Jqb hL ?_);simp only[go_sem,simprocAttr,gx,gy])|fail));refine J1j (qj 0 4 6 8) [1,2,3,6,7] (.node 0 (.node 4 (.node 5 (.node 8 (.node 9 .leaf .nil) .nil) .nil) .nil) (.node 4 (.node 0 (.node 5 (.node 8 (.node 9 .leaf .nil) .nil) .nil) .nil) .nil)) 5 hm rfl kr kr ?_;simp only[go_sem,simprocAttr,Jqx,gy,dy,lx,ly];have hel:=Jwd (y :: v);have hcz:=hcon y;have hln:(o ++ [y]).length=o.length+1:=by simp
    (repeat'(first|(refine And.intro (by first|exact hel | (simp;done)|(simp;omega)) ?_)|fail))
    all_goals (repeat'(refine And.intro ?_ ?_))
    all_goals first|omega | exact hel | (simp;done)|(refine ⟨(o ++ [y],x :: u,v),⟨by rw[h1,Ea2];rfl,h2,fun i hi=>h3 i (Eai _ hi),by simp only[Eac,Ead,Ea8];omega⟩,by simp only[Ead];omega,St.Le.trans (B1 [(35,13)] _ sm) ?_⟩;simp only[go_sem,simprocAttr];rw[hln,hcz];exact Jqc)
   ·rw[decide_eq_false c] at hL;rw[Jxn c] at h1;rw[lx] at c1;rw[ly] at c2;(refine lws ?_;simp only[go_sem,simprocAttr,Jqx,c1,c2,lx,ly]);(repeat'(first|((first|refine Jqm ?_|refine Jqb hL ?_);simp only[go_sem,simprocAttr,gx,gy])|fail));refine J1j (qj 0 4 6 8) [1,2,3,6,7] (.node 0 (.node 4 (.node 5 (.node 8 (.node 9 .leaf .nil) .nil) .nil) .nil) (.node 4 (.node 0 (.node 5 (.node 8 (.node 9 .leaf .nil) .nil) .nil) .nil) .nil)) 5 hm rfl kr kr ?_;simp only[go_sem,simprocAttr,Jqx,gx,dx,lx,ly];have hel:=Jwd (x :: u);have hcz:=hcon x;have hln:(o ++ [x]).length=o.length+1:=by simp
    (repeat'(first|(refine And.intro (by first|exact hel | (simp;done)|(simp;omega)) ?_)|fail))
    all_goals (repeat'(refine And.intro ?_ ?_))
    all_goals first|omega | exact hel | (simp;done)|(refine ⟨(o ++ [x],u,y :: v),⟨by rw[h1,Ea2];rfl,fun i hi=>h2 i (Eai _ hi),h3,by simp only[Eac,Ead,Ea8];omega⟩,by simp only[Ead];omega,St.Le.trans (B1 [(43,13)] _ sm) ?_⟩;simp only[go_sem,simprocAttr];rw[hln,hcz];exact Jqc)
theorem Jyg (ks:List Tree) (hk:J4h ks):∀ (n:Nat) (l:List Nat),l.length<=n->(∀ i∈l,i<ks.length)->l.length<=1500000000000->l.Pairwise (· < ·)->Det cx 145 [.p (.sl (natL l)),.p (.clo 146 [.sl (Jqd ks)])] [] (.p (.sl (natL (Jt8 ks n l)))) []
 | 0,l,hn,_,_,_=>by
  have:l=[]:=Ean omg;subst this;rw[Jt8];(refine bgo func145 ?_;simp only[go_sem,simprocAttr,J28])
  skip
 | n+1,l,hn,hi,hl,hp=>by
  rw[Jt8];by_cases h2:l.length<2
  ·have c1:((l.length:Int)<2)=True:=eq_true omg;rw[if_pos h2];(refine bgo func145 ?_;simp only[go_sem,simprocAttr,c1,Jqx])
   skip
  ·have c1:((l.length:Int)<2)=False:=eq_false omg;rw[if_neg h2];have hd2:((l.length:Int)).tdiv 2=((l.length / 2:Nat):Int):=rfl;have hw:IntKind.i64.wrap ((l.length / 2:Nat):Int)=((l.length / 2:Nat):Int):=Aa omg omg;have e:l.take (l.length / 2) ++ l.drop (l.length / 2)=l:=Ebk _ _;have hp':=hp;rw[<- e,Eci] at hp';obtain ⟨p1,p2,_⟩:=hp';have i1:∀ i∈l.take (l.length / 2),i<ks.length:=fun i h=>hi i (Ebq h)
   have i2:∀ i∈l.drop (l.length / 2),i<ks.length:=fun i h=>hi i (Ea6 h)
   have l1:(l.take (l.length / 2)).length=l.length / 2:=by rw[Eay];omega
   have l2:(l.drop (l.length / 2)).length=l.length - l.length / 2:=Ea5 ..
   have A:=Jyg ks hk n (l.take (l.length / 2)) omg i1 omg p1;have B:=Jyg ks hk n (l.drop (l.length / 2)) omg i2 omg p2;obtain ⟨a1,_,a3⟩:=Jt0 hk.1 n (l.take (l.length / 2)) omg p1;obtain ⟨b1,_,b3⟩:=Jt0 hk.1 n (l.drop (l.length / 2)) omg p2;have M:=Kdd ks hk (Jt8 ks n (l.take (l.length / 2))) (Jt8 ks n (l.drop (l.length / 2))) (fun i h=>i1 i ((a1 i).1 h)) (fun i h=>i2 i ((b1 i).1 h)) (by rw[a3,b3,l1,l2];omega);have t1:natL (l.take (l.length / 2))=(natL l).take (l.length / 2):=by simp[natL,Ec3]
   have t2:natL (l.drop (l.length / 2))=(natL l).drop (l.length / 2):=by simp[natL,Ec2]
   rw[t1] at A;rw[t2] at B;have tk:((natL l).drop (l.length / 2)).take (l.length - l.length / 2)=(natL l).drop (l.length / 2):=Eae sm;have q1:(l.length / 2<=l.length)=True:=eq_true omg;have hel:=Jwd l;(refine bgo func145 ?_;simp only[go_sem,simprocAttr,c1,Jqx,hd2,hw]);(repeat'(first|(refine And.intro (by first|exact hel | omega) ?_)|((first|refine Jqm ?_|refine Jqb A ?_|refine Jqb B ?_|refine Jqb M ?_);simp only[go_sem,simprocAttr,Jqx])|fail))
theorem Kam {n i:Nat} (h:i<n):(natL (List.range i ++ List.replicate (n - i) 0)).set i [.int .i64 (i:Int)]=natL (List.range (i+1) ++ List.replicate (n - (i+1)) 0):=by
 have e:n - i=(n - (i+1))+1:=by omega
 have e2:i=(List.range i).length:=by simp
 unfold natL;rw[e,Edm];rw[List.replicate_succ];simp only[Ebm,Eaq]
 conv=>lhs;arg 2;rw[e2]
 rw[List.set_append_right _ _ sm];simp
theorem Kbp (ks:List Tree) (hk:J4h ks):Det cx 95 [.p (.sl (Jqd ks))] [] (.p (.sl (natL (Jra ks)))) []:=by
 have hS:=Jyg ks hk ks.length (List.range ks.length) sm (fun i h=>List.mem_range.1 h) (by have:=hk.2.1;simp;omega) List.pairwise_lt_range;rw[Kdm hk.1] at hS;have hkl:=hk.2.1;have hz:List.replicate ks.length [PV.int .i64 0]=natL (List.range 0 ++ List.replicate (ks.length - 0) 0):=by simp[natL]
 have c0:((0:Int)<=(ks.length:Int))=True:=eq_true omg;(refine bgo func95 ?_;simp only[go_sem,simprocAttr,Jqf,hz,c0]);(repeat'(first|refine Jqj ?_|fail));refine SWP.loop (fun i:Nat=>⟨Ba 21 [(1,.ptr 1 0 0),(3,.own 7 0 ks.length),(9,.p (.int .i64 ks.length)),(10,.p (.int .i64 i))],[(7,.row 3 1 (natL (List.range i ++ List.replicate (ks.length - i) 0))),(1,.var 53 [.p (.sl (Jqd ks))])]⟩) (fun i=>i<=ks.length) (fun i=>ks.length - i) 0 Jqc (Eau _) ?_;rintro i hi;by_cases hlt:i<ks.length
 ·have c1:((i:Int)<(ks.length:Int))=True:=eq_true omg;have hset:=Kam hlt;have gi:(natL (List.range i ++ List.replicate (ks.length - i) 0))[i]? = some [.int .i64 ((0:Nat):Int)]:=Juk (by rw[Ear sm,List.length_range,Edr,Ecq,if_pos omg]);(refine lws ?_;simp only[go_sem,simprocAttr,c1,hset,gi,wj1 (i:=i) omg])
  all_goals exact ⟨i+1,omg,omg,by rw[Edm];exact Jqc⟩
 ·obtain rfl:i=ks.length:=by omega
  have c1:((ks.length:Int)<(ks.length:Int))=False:=eq_false omg;rw[Edr,List.replicate_zero,Eaw];refine Jqg (J1q _ 1 (T:=53) (ls:=[.p (.sl (Jqd ks))]) (ps:=[.sl (Jqd ks)]) rfl rfl) ?_;have tk:(natL (List.range ks.length)).take ks.length=natL (List.range ks.length):=Eae sm;simp only[go_sem,simprocAttr];(refine lws ?_;simp only[go_sem,simprocAttr,c1,tk,Jqx,List.length_range,Eah]);(repeat'(first|((refine Jqa hS ?_);simp only[go_sem,simprocAttr])|fail))
end Go.LX
namespace Go.LX
open Go Go.RowKit Go.Proofs
theorem SWP.seq {X:Cx} {ro:Option Nat} {x y:Code} {Q:Ex->St->Prop} {s:St} (h:SWP X ro x (kseq (fun Q s=>SWP X ro y Q s) Q) s):SWP X ro (x.seq y) Q s:=fun Γ a w hG hr=>by
 refine wpIn_seq (wpIn_mono (h Γ a w hG hr) fun e a w hq=>?_);cases e with
 | normal=>obtain ⟨s',h1,h2⟩:=hq;exact h1 Γ a w hG h2
 | exit id=>exact hq
 | ret=>exact hq
 | goto l=>exact hq.elim
 | panic c=>exact hq.elim
 | outgrown=>exact hq.elim
theorem Al.same {X Y:Cx} {f:FuncId} {args:List L} {rs:Regs} {Post:L->Regs->Prop} (hP:X.P=Y.P) (hG:X.G=Y.G) (h:Al Y f args rs Post):Al X f args rs Post:=by
 unfold Al at h ⊢;rw[hP,hG];exact h
end Go.LX
namespace Go.LX
open Go Go.RowKit Go.Proofs Go.Proofs.Tryz
attribute [local irreducible] Al SWP Bi
noncomputable def cxg:Cx:=⟨Tryz.prog,QuoteG,QuoteG.mono,Kfa,fun t=>t == 103⟩
theorem Jxs:cxg.P=Tryz.prog:=(rfl)
theorem J8r {f:Nat}:cxg.kind f=cx.kind f:=(rfl)
theorem J20 {t:Nat}:cxg.keep t=(t == 103):=(rfl)
def grpL (o:List (List Nat)) (m:Nat):List (List L):=(o.map fun g=>[L.p (.sl (natL g))]) ++ [[.own 50 0 m]]
theorem Kf3 (o:List (List Nat)) (m:Nat):(grpL o m).length=o.length+1:=by simp[grpL]
theorem Kcn (o:List (List Nat)) (m:Nat):(grpL o m)[o.length]? = some [.own 50 0 m]:=by
 unfold grpL;rw[Ear sm];simp
theorem Jwy {e:Nat} (he:e≠50) (o:List (List Nat)) (m:Nat):(grpL o m).map (fun x=>x.map (L.forget e))=grpL o m:=by
 unfold grpL;rw[Ebm,Ebx];congr 1;simp[L.forget,L.mentions,Ne.symm he]
theorem Ke4 (o:List (List Nat)) (m:Nat):(grpL o m).map (fun x=>x.map (L.forget 39))=grpL o m:=Jwy de o m
theorem Kfo (o:List (List Nat)) (m:Nat):(grpL o m).map (fun x=>x.map (L.forget 40))=grpL o m:=Jwy de o m
theorem Ker (o:List (List Nat)) (m:Nat):(grpL o m).map (fun x=>x.map (L.forget 49))=grpL o m:=Jwy de o m
def grpJ (o:List (List Nat)):List (List L):=(o.map fun g=>[L.p (.sl (natL g))]) ++ [[.junk]]
theorem Kd5 (o:List (List Nat)) (m:Nat):(grpL o m).map (fun x=>x.map (L.forget 50))=grpJ o:=by
 unfold grpL grpJ;rw[Ebm,Ebx];congr 1
theorem Kex (o:List (List Nat)):(grpJ o).map (fun x=>x.map (L.forget 50))=grpJ o:=by
 unfold grpJ;rw[Ebm,Ebx];congr 1
theorem Kd7 (o:List (List Nat)):(grpJ o)[o.length]? = some [.junk]:=by
 unfold grpJ;rw[Ear sm];simp
theorem Kee (o:List (List Nat)) (m:Nat):(grpJ o).set o.length [.own 50 0 m]=grpL o m:=by
 unfold grpJ grpL;rw[List.set_append_right _ _ sm];simp
theorem Kb2 (o:List (List Nat)) (m:Nat):Jvk 41 (grpL o m)=true:=by
 simp[Jvk,grpL,L.mentions]
def grpM (o:List (List Nat)):List (List L):=(o.map fun g=>[L.p (.sl (natL g))]) ++ [[.own 39 0 1]]
theorem Kgf (o:List (List Nat)) (b:Nat) (g:List Nat):(grpL o (g.length+1) ++ [[L.own 39 0 1]]).map (fun e=>e.map (L.freeze 50 (.rw (natL (b :: g)))))=grpM (o ++ [b :: g]):=by
 have h:Fz.own (.rw (natL (b :: g))) 0 (g.length+1)=.p (.sl (natL (b :: g))):=by
  unfold Fz.own;simp only;rw[if_pos sm,Ebn,Eae sm]
 unfold grpL grpM;simp only[Ebm,Ebx,Eaq,Eca,Ea2];congr 1;simp only[L.freeze,if_pos,h];rfl
theorem Kew (o:List (List Nat)):(grpM o).map (fun e=>e.map (L.map (Fb 39 50)))=grpL o 1:=by
 unfold grpL grpM;simp only[Ebm,Ebx,Eaq,Eca];congr 1
theorem Ke3 (o:List (List Nat)) (b:Nat) (g:List Nat):(grpL o (g.length+1)).map (fun e=>e.map (L.freeze 50 (.rw (natL (b :: g)))))=(o ++ [b :: g]).map fun g=>[L.p (.sl (natL g))]:=by
 have h:Fz.own (.rw (natL (b :: g))) 0 (g.length+1)=.p (.sl (natL (b :: g))):=by
  unfold Fz.own;simp only;rw[if_pos sm,Ebn,Eae sm]
 unfold grpL;simp only[Ebm,Ebx,Eaq,Eca];congr 1;simp only[L.freeze,if_pos,h]
theorem pureG:∀ o:List (List Nat),Cb (o.map fun g=>[L.p (.sl (natL g))])=some (Jro o)
 | []=>rfl
 | g :: o=>by
  rw[Eaq,Cb,pureG o];rfl
theorem J5g:∀ l:List L,Aw l l
 | []=>trivial
 | a :: l=>⟨Ai a,J5g l⟩
@[
 simp] theorem Kch:∀ l:List (List L),Jbp l l
 | []=>trivial
 | e :: l=>⟨J5g e,Kch l⟩
attribute [go_sem] ntmps96 results96
theorem Kc4 (ks:List Tree) (hk:J4h ks):Det cx 96 [.p (.sl (Jqd ks))] [] (.p (.sl (Jro (Jri ks)))) []:=by
 have hS:=Al.same (X:=cxg) (Y:=cx) rfl rfl (Kbp ks hk);have ok:=hk.1;have hsl:=Jsc ks;have hsm:∀ i∈Jra ks,i<ks.length:=fun i h=>Jsz.1 h
 have hgr:Jri ks=Jrp (Jrj ks (Jra ks)):=rfl;have hinv:=Jxk ok (J6h ok);refine Al.same (X:=cx) (Y:=cxg) rfl rfl ?_;rw[hgr];have hkl:=hk.2.1;have hko:∀ t∈ks,okT t:=hk.1;have hkz:=hk.2.2;generalize Jra ks=S at *
 (refine Jvz false [] func96 ?_;refine Ae hm _ _ _ ?_;simp only[go_sem,simprocAttr,Jxs,J8r]);refine Jqa hS ?_;simp only[go_sem,simprocAttr,Jxs,Jqx];refine SWP.loop (fun i:Nat=>if i=0 then ⟨Ba 54 [(0,.p (.sl (Jqd ks))),(3,.p .snil),(8,.p (.sl (natL S))),(9,.p (.int .i64 S.length)),(10,.p (.int .i64 i))],[]⟩ else ⟨Ba 54 [(0,.p (.sl (Jqd ks))),(3,.own 41 0 ((Jrj ks (S.take i)).1.length+1)),(8,.p (.sl (natL S))),(9,.p (.int .i64 S.length)),(10,.p (.int .i64 i))],[(50,.row 3 1 (natL (Jrj ks (S.take i)).2)),(41,.lrow 101 1 false (grpL (Jrj ks (S.take i)).1 (Jrj ks (S.take i)).2.length))]⟩) (fun i=>i<=S.length/\(i≠0->(Jrj ks (S.take i)).2≠[])) (fun i=>S.length - i) 0 (by rw[if_pos rfl];exact Jqc) ⟨Eau _,fun h=>absurd rfl h⟩ ?_;rintro i ⟨hi,hne⟩;by_cases hlt:i<S.length
 ·have c1:((i:Int)<(S.length:Int))=True:=eq_true omg;obtain ⟨a,ha⟩:∃ a,S[i]? = some a:=⟨_,Eaa hlt⟩
  have hga:=Juk ha;have hal:=hsm a (Eag ha);obtain ⟨t,ht⟩:∃ t,ks[a]? = some t:=⟨_,Eaa hal⟩
  have hgt:=Jq5 ht;have hstep:=Jye (ks:=ks) ha;have hmem:∀ x∈(Jrj ks (S.take i)).2,x<ks.length:=fun x hx=>by
   refine hsm x (Ebq (i:=i) ?_);rw[<- (hinv i hi).flat];exact Ecb _ hx
  have hcl:=J4o (hinv i hi);rw[Eay] at hcl;by_cases i0:i=0
  ·subst i0;have hst:Jrj ks (S.take 1)=([],[a]):=by rw[hstep,Eb7,J0c];unfold Ju8;rw[if_neg sm];rfl
   rw[if_pos rfl];have w1:IntKind.i64.wrap 1=1:=by decide
   (refine Ae hm _ _ _ ?_;simp only[go_sem,simprocAttr,Jxs,hga]);(repeat'(first|(refine J51 hm ?_;simp only[go_sem,simprocAttr,Jxs,J20,w1])|(apply iteI<;>intro h)|(exfalso;omega)));(repeat'(first|(refine And.intro (by rfl) ?_)|fail));refine ⟨1,⟨omg,fun _=>by rw[hst];simp⟩,omg,?_⟩;rw[if_neg de,hst];refine St.Le.trans (B1 [(39,50)] _ sm) ?_;simp only[go_sem,simprocAttr];show St.Le _ ⟨Ba 54 [(0,.p (.sl (Jqd ks))),(3,.own 41 0 1),(8,.p (.sl (natL S))),(9,.p (.int .i64 S.length)),(10,.p (.int .i64 (1:Nat)))],[(50,.row 3 1 [[.int .i64 (a:Int)]]),(41,.lrow 101 1 false [[.own 50 0 1]])]⟩;exact Jqc
  ·have hne2:=hne i0;generalize Jrj ks (S.take i)=st at *
   obtain ⟨o,g⟩:=st;simp only at hmem hne2;obtain ⟨b,g,rfl⟩:=List.exists_cons_of_ne_nil hne2;have hbl:=hmem b Eaf;obtain ⟨u,hu⟩:∃ u,ks[b]? = some u:=⟨_,Eaa hbl⟩
   have hgu:=Jq5 hu;have mt:=Eag ht;have mu:=Eag hu;have hC:=Al.same (X:=cxg) (Y:=cx) rfl rfl (Ke2 _ t u (Eah _) (hko t mt) (hko u mu) (hkz t mt) (hkz u mu));have hgl:=Kcn o (g.length+1);have hgn:=Kf3 o (g.length+1);simp only[Ead] at hcl;have hol:o.length+1<=ks.length:=by omega
   have w0:IntKind.i64.wrap (((o.length+1:Nat):Int) - 1)=(o.length:Int):=by rw[Aa omg omg];omega
   have hg0:(natL (b :: g))[0]? = some [.int .i64 (b:Int)]:=rfl;have i0':((i:Int)=0)=False:=eq_false omg;rw[if_neg i0];simp only;(refine Ae hm _ _ _ ?_;simp only[go_sem,simprocAttr,Jxs,c1,hga,w0,wj1 (i:=i) omg]);(repeat'(first|(refine J51 hm ?_;simp only[go_sem,simprocAttr,Jxs,hgt,hgu,hgl,hg0,i0',wj1 (i:=i) omg])|(apply iteI<;>intro h)|refine Jqj ?_|((refine Jqb hC ?_);simp only[go_sem,simprocAttr,Jxs,J20,Jqx,hgl,hgn,wj1 (i:=i) omg,Ke4,Kfo,Ker,Kd5,Kex,Kee,Kb2,Kd7])|fail))
   ·have hcm:¬ cmpT t u=0:=by assumption
    have hst:Jrj ks (S.take (i+1))=(o ++ [b :: g],[a]):=by
     rw[hstep];unfold Ju8;rw[if_pos ⟨by simp,by rw[Jrq ht,List.headD_cons,Jrq hu];exact hcm⟩]
    (repeat'(first|(refine And.intro (by first|rfl | omega) ?_)|fail));refine ⟨i+1,⟨omg,fun _=>by rw[hst];simp⟩,omg,?_⟩;rw[if_neg (Nat.succ_ne_zero i),hst];refine St.Le.trans (Jty _ (d:=50)) ?_;simp only[go_sem,simprocAttr,Jqx,wj1 (i:=i) omg];rw[Kgf];refine St.Le.trans (B1 [(39,50)] _ sm) ?_;simp only[go_sem,simprocAttr,wj1 (i:=i) omg];rw[Kew];have e3:(o ++ [b :: g]).length=o.length+1:=by simp
    have e4:natL [a]=[[.int .i64 (a:Int)]]:=rfl;rw[e4];simp only[e3];exact Jqc
   ·have hcm:cmpT t u=0:=by first|assumption | (apply Ea9.1;assumption)
    have hst:Jrj ks (S.take (i+1))=(o,b :: g ++ [a]):=by
     rw[hstep];unfold Ju8;rw[if_neg (by rintro ⟨_,h⟩;rw[Jrq ht,List.headD_cons,Jrq hu] at h;exact h hcm)]
    have e1:(b :: g ++ [a]).length=g.length+1+1:=by simp
    have e2:natL (b :: g) ++ [[.int .i64 (a:Int)]]=natL (b :: g ++ [a]):=(Jvf (b :: g) [a]).symm;(repeat'(first|(refine And.intro (by first|omega | (simp;done)) ?_)|fail));refine ⟨i+1,⟨omg,fun _=>by rw[hst];exact List.cons_ne_nil _ _⟩,omg,?_⟩;rw[if_neg (Nat.succ_ne_zero i),hst];simp only[e1];rw[e2];exact Jqc
 ·obtain rfl:i=S.length:=by omega
  have c1:((S.length:Int)<(S.length:Int))=False:=eq_false omg;rw[Edc] at hne;by_cases i0:S.length=0
  ·have hS0:S=[]:=Ean i0;subst hS0;rw[if_pos (show ([]:List Nat).length=0 from rfl)];refine Jqg (s':=⟨Ba 54 [(0,.p (.sl (Jqd ks))),(3,.p (.sl [])),(8,.p (.sl (natL []))),(9,.p (.int .i64 (0:Nat))),(10,.p (.int .i64 (0:Nat)))],[]⟩) Jqc ?_;have c0:(((0:Nat):Int)<((0:Nat):Int))=False:=eq_false omg;(refine Ae hm _ _ _ ?_;simp only[go_sem,simprocAttr,Jxs])
   all_goals (rw[J0c];rfl)
  ·have hne2:=hne i0;rw[if_neg i0];simp only[Edc];generalize Jrj ks S=st at *
   obtain ⟨o,g⟩:=st;simp only at hne2;obtain ⟨b,g,rfl⟩:=List.exists_cons_of_ne_nil hne2;rw[Jt4 sm];simp only;refine Jqg (Jty _ (d:=50)) ?_;have hgl:(Jro (o ++ [b :: g])).length=o.length+1:=by simp
   have htk:(Jro (o ++ [b :: g])).take (o.length+1)=Jro (o ++ [b :: g]):=Eae (by rw[hgl];exact Eah _);have htp:Cb ((((o ++ [b :: g]).map fun g=>[L.p (.sl (natL g))])).take (o.length+1))=some (Jro (o ++ [b :: g])):=by
    rw[Eae sm,pureG]
   simp only[go_sem,simprocAttr];rw[Ke3];refine Jqg (Jyo (d:=41) (es:=Jro (o ++ [b :: g])) (o.length+1) rfl htp) ?_;simp only[Bs,go_sem,simprocAttr,Jxs,J8r,J20,Jqf,Jqx,c1,hgl,htk,Eah,if_true];(refine Ae hm _ _ _ ?_;simp only[go_sem,simprocAttr,Jxs,c1,hgl,htk,Eah])
theorem J9m {grp:Bool} {s:List UInt8} {v:Tree} (hk:v.kind=5):Jte grp s v=match Jru (Je s).1 (Jqe v) with
  | .error e=>.error e
  | .ok ks=>.ok (if grp=true then listT ((Jri ks).map fun g=>listT (Jqo (Jqe v) g)) else listT (Jqo (Jqe v) (Jra ks))):=by unfold Jte;rw[if_pos hk]<;>rfl
theorem J4j (op m:Int) (nm s:List UInt8) (n:Int) (c:Node) (v:Tree) (hop:op=12\/op=13) (hs:s.length<=1000000) (ok:okT v) (hv:(v.enc []).length<=600000000000):Det cx 43 [.p (.agg [.int .i64 op,.int .i64 m,.str nm,.str s,.int .i64 n,.int .i64 c.kind,.int .i64 c.many,.str c.name,.str c.s,.bool c.neg,.int .i64 c.e]),.p (.sl (valL (v.enc [])))] [] (getR (Jte (decide (op=12)) s v)) []:=by
 have hsz:=Jq1 v;have hkk:=Jyu ok;have hsl:=Jrh (Jqe v);by_cases hk:v.kind=5
 ·have hP:=Jwu v omg;obtain ⟨r,hg0⟩:=row0 v;rw[hk] at hg0;have hpt:=Jz1 s hs;obtain ⟨hpl,hpo⟩:=Jvs s;have hF:=fun t (ht:t∈Jqe v)=>J40 (Je s).1 t omg hpo (hkk t ht) (by have:=Jr0 ht;omega)
  have hkl:∀ t∈Jqe v,(t.enc []).length<=600000000000:=fun t ht=>by have:=Jr0 ht;omega
  have hFl:∀ (i:Nat) (t:Tree),(Jqe v)[i]? = some t->Det cx 20 [.p (.sl (Bb (Je s).1)),.p (.sl (valL (t.enc [])))] [] (getR (Jrd (Je s).1 t)) []:=fun i t h=>hF t (Eag h)
  have hres:∀ ks,Jru (Je s).1 (Jqe v)=.ok ks->J4h ks:=fun ks hke=>by
   obtain ⟨okk,hkl2,hks⟩:=Jzo (Jyu ok) hke;have hks:=hks 600000000000 fun t ht=>hkl t ht
   exact ⟨okk,omg,fun t ht=>by have:=hks t ht;omega⟩
  have hsE:=J9m (grp:=decide (op=12)) (s:=s) hk;generalize hvl:valL (v.enc [])=V at *
  generalize Jqe v=l at *
  generalize hpp:(Je s).1=P at *
  clear hF;(refine bgo func43 ?_;simp only[go_sem,simprocAttr,hg0]);(repeat'(first|((refine Jqa hP ?_);simp only[go_sem,simprocAttr,Jqf])|fail));refine Jqg (Jrw _ (i:=7) (d:=42) 25 1 (.inl de) rfl) ?_;simp only[St.nilOwn,St.nilReg,go_sem,simprocAttr,hg0,Jqf];refine SWP.loop (fun x:Nat×List Tree=>⟨Ba 67 [(1,.p (.sl V)),(2,.ptr 2 0 0),(6,.p (.sl (Jqd l))),(7,.own 42 0 x.1),(22,.p (.sl (Jqd l))),(23,.p (.int .i64 l.length)),(24,.p (.int .i64 x.1))],[(42,.row 25 1 (Jqd x.2)),(2,.var 38 [.p (.int .i64 op),.p (.int .i64 m),.p (.str nm),.p (.str s),.p (.int .i64 n),.p (.int .i64 c.kind),.p (.int .i64 c.many),.p (.str c.name),.p (.str c.s),.p (.bool c.neg),.p (.int .i64 c.e)])]⟩) (fun x=>x.1<=l.length/\x.2.length=x.1/\Jru P l=preK x.2 (Jru P (l.drop x.1))) (fun x=>l.length - x.1) (0,[]) Jqc ⟨Eau _,rfl,by rw[Ebn];cases Jru P l<;>rfl⟩ ?_;rintro ⟨i,ks⟩ ⟨h1,h2,h3⟩;simp only at h1 h2 h3;by_cases hlt:i<l.length
  ·have c1:((i:Int)<(l.length:Int))=True:=eq_true omg;obtain ⟨t,ht⟩:∃ t,l[i]? = some t:=⟨_,Eaa hlt⟩
   have hgt:=Jq5 ht;have hF:=hFl i t ht;have hd:l.drop i=t :: l.drop (i+1):=by
    obtain ⟨a,b⟩:=Eab.1 ht;rw[Eaz a,b]
   rw[hd] at h3;cases hf:Jrd P t with
   | error e =>
    have h5:=Jsp hf;subst h5;rw[hf,getR] at hF;rw[Jru,hf] at h3;simp only[preK] at h3;rw[hsE,h3,getR];(refine lws ?_;simp only[go_sem,simprocAttr,c1,hgt]);(repeat'(first|((first|refine Jqa hpt ?_|refine Jqa hF ?_);simp only[go_sem,simprocAttr])|fail))
    all_goals rfl
   | ok u =>
    rw[hf,getR] at hF;rw[J3v hf] at h3;have ha:Jqd ks ++ [[.sl (valL (u.enc []))]]=Jqd (ks ++ [u]):=(Jrl ks [u]).symm;have hln:(Jqd ks).length=i:=by rw[Jqf,h2]
    (refine lws ?_;simp only[go_sem,simprocAttr,c1,hgt,wj1 (i:=i) omg]);(repeat'(first|(refine And.intro (by first|(simp;done)|(simp;omega)) ?_)|refine Jqj ?_|((first|refine Jqa hpt ?_|refine Jqa hF ?_);simp only[go_sem,simprocAttr,ha,hln,wj1 (i:=i) omg])|fail))
    all_goals exact ⟨(i+1,ks ++ [u]),⟨by simp only;omega,by simp only[Eac,Ebs];omega,h3⟩,by simp only;omega,Jqc⟩
  ·obtain rfl:i=l.length:=by omega
   have c1:((l.length:Int)<(l.length:Int))=False:=eq_false omg;rw[Eao (Eah _),Jru,preK,Eaw] at h3;have hsk:=hres ks h3;have okk:=hsk.1;have ht1:(Jqd ks).take l.length=Jqd ks:=Eae (by rw[Jqf];omega);have hle1:(l.length<=(Jqd ks).length)=True:=eq_true (by rw[Jqf];omega);have hel:=Jvr ks;rcases hop with rfl | rfl
   ·have hG:=Kc4 ks hsk;have hgsz:=Jw1 (l:=l) okk h2;have hgm:∀ g∈Jri ks,(∀ i∈g,i<l.length)/\g.length<=l.length/\Jqn (Jqo l g)<=2 * Jqn l:=fun g hg=>by
     have hfl:=Jv2 (Jt6 okk);have hin:∀ i∈g,i∈Jra ks:=fun i hi=>by rw[<- hfl];exact List.mem_flatten.2 ⟨g,hg,hi⟩
     refine ⟨fun i hi=>by have:=Jsz.1 (hin i hi);omega,?_,?_⟩
     ·have h1:=List.length_flatten (L:=Jrp (Jrj ks (Jra ks)));rw[hfl,Jsc] at h1;have h2:=Jsk (Eap.2 ⟨g,hg,rfl⟩:g.length∈(Jrp (Jrj ks (Jra ks))).map List.length);omega
     ·have h2:=Jr0 (Eap.2 ⟨g,hg,rfl⟩:listT (Jqo l g)∈(Jri ks).map fun g=>listT (Jqo l g));rw[Jsb] at h2;omega
    have hgl:(Jri ks).length<=2 * Jqn l:=by
     have:=Jrh ((Jri ks).map fun g=>listT (Jqo l g));rw[Ea1] at this;omega
    have hL:=Jtp ((Jri ks).map fun g=>listT (Jqo l g)) omg;rw[hsE,h3,getR];simp only[decide_true,if_true];generalize Jri ks=G at *
    (refine lws ?_;simp only[go_sem,simprocAttr,Jqf,c1,ht1,h2,Eah]);(repeat'(first|((refine Jqa hG ?_);simp only[go_sem,simprocAttr,Js8])|fail));refine Jqg (Jrw _ (i:=12) (d:=63) 25 1 (.inl de) rfl) ?_;simp only[St.nilOwn,St.nilReg,go_sem,simprocAttr,hg0,Jqf,c1,ht1,hle1,h2,Eah,if_true,if_false,Js8];refine SWP.loop (fun k:Nat=>⟨Ba 67 [(6,.p (.sl (Jqd l))),(12,.own 63 0 k),(52,.p (.sl (Jro G))),(53,.p (.int .i64 G.length)),(54,.p (.int .i64 k))],[(63,.row 25 1 (Jqd ((G.take k).map fun g=>listT (Jqo l g))))]⟩) (fun k=>k<=G.length) (fun k=>G.length - k) 0 Jqc (Eau _) ?_;rintro k hk';by_cases hlt:¬ k<G.length
    ·obtain rfl:k=G.length:=by omega
     have c3:((G.length:Int)<(G.length:Int))=False:=eq_false omg;have ht4:G.take G.length=G:=Eae (Eah _);have ht5:(Jqd (G.map fun g=>listT (Jqo l g))).take G.length=Jqd (G.map fun g=>listT (Jqo l g)):=Eae sm;have hln:(Jqd (G.map fun g=>listT (Jqo l g))).length=G.length:=by simp
     (refine lws ?_;simp only[go_sem,simprocAttr,Eah,c3,ht4,ht5,hln]);(repeat'(first|((refine Jqa hL ?_);simp only[go_sem,simprocAttr])|fail))
    ·have hlt:=Ea9.1 hlt;have c3:((k:Int)<(G.length:Int))=True:=eq_true omg;obtain ⟨g,hg⟩:∃ g,G[k]? = some g:=⟨_,Eaa hlt⟩
     have hgg:=J1n hg;obtain ⟨m1,m2,m3⟩:=hgm g (Eag hg);have hPk:=J4c l g m1 omg omg;have hpl2:(Jqd ((G.take k).map fun g=>listT (Jqo l g))).length=k:=by rw[Jqf,Ea1,Eay];omega
     have htk:Jqd ((G.take (k+1)).map fun g=>listT (Jqo l g))=Jqd ((G.take k).map fun g=>listT (Jqo l g)) ++ [[.sl (valL ((listT (Jqo l g)).enc []))]]:=by
      rw[Ebc,hg,Option.toList_some,Ebm,Jrl];rfl
     (refine lws ?_;simp only[go_sem,simprocAttr,c3,hgg,wj1 (i:=k) omg]);(repeat'(first|(refine And.intro (by first|(simp;done)|(simp;omega)) ?_)|refine Jqj ?_|((refine Jqa hPk ?_);simp only[go_sem,simprocAttr,Eah,hpl2,wj1 (i:=k) omg])|fail));exact ⟨k+1,omg,omg,by rw[htk];exact Jqc⟩
   ·have hS:=Kbp ks hsk;have hPk:=J4c l (Jra ks) (fun i hi=>by have:=Jsz.1 hi;omega) (by rw[Jsc];omega) (by rw[Jxo h2];omega);rw[hsE,h3,getR];(refine lws ?_;simp only[go_sem,simprocAttr,Jqf,c1,ht1,h2,Eah]);(repeat'(first|((first|refine Jqa hS ?_|refine Jqa hPk ?_);simp only[go_sem,simprocAttr])|fail))
 ·rw[J7i hk,getR];obtain ⟨k,s',g,e,kids⟩:=v;have c1:(k=5)=False:=eq_false hk;(refine bgo func43 ?_;simp only[go_sem,simprocAttr,Cc,c1,not_false_eq_true])
  all_goals rfl
end Go.LX
namespace Go.LX
open Go
def nmT (s:List UInt8):List UInt8:=if isWd s then s else refQ s
def scalT (c:Node):List UInt8:=if c.kind=0 then [110,117,108,108] else if c.kind=1 then [102,97,108,115,101] else if c.kind=2 then [116,114,117,101] else if c.kind=3 then Keq c else refQ c.s
def signT (n:Int):List UInt8:=if n=0 then [61,61] else if n=1 then [33,61] else if n=2 then [60] else if n=3 then [60,61] else if n=4 then [62] else [62,61]
def callN (op:Int):List UInt8:=if op=5 then [109,97,112] else if op=6 then [109,97,112,95,118,97,108,117,101,115] else if op=7 then [115,101,108,101,99,116] else if op=12 then [103,114,111,117,112,95,98,121] else if op=13 then [115,111,114,116,95,98,121] else if op=15 then [100,101,108] else []
def inBr (k:Int) (x:List UInt8):List UInt8:=if k=4\/k=17\/k=18 then 40 :: (x ++ [41]) else x
def Kej (sep:List UInt8):List (List UInt8)->List UInt8
 | []=>[]
 | [x]=>x
 | x :: y :: l=>x ++ sep ++ Kej sep (y :: l)
abbrev PTx:=List UInt8×Int×List UInt8
def oneT (op:Int) (p:PTx):List UInt8:=if op=8 then nmT p.1 ++ [58,32] ++ inBr p.2.1 p.2.2 else inBr p.2.1 p.2.2
def Kbl (op:Int) (l:List PTx) (sep:List UInt8):List UInt8:=Kej sep (l.map (oneT op))
def Kdq:List PTx->List UInt8
 | []=>[]
 | p :: _=>p.2.2
def qtextK (op:Int) (s:List UInt8) (n:Int) (c:Node) (l:List PTx):List UInt8 :=
 if op=0 then [46]
 else if op=1 then 46 :: nmT s
 else if op=2 then [46,91] ++ Lib.itoa n ++ [93]
 else if op=3 then [46,91] ++ Lib.itoa n ++ [58,93]
 else if op=4 then (match l with
  | [p,q]=>inBr p.2.1 p.2.2 ++ [32,124,32] ++ q.2.2
  | _=>[])
 else if op=8 then 123 :: (Kbl op l [44,32] ++ [125])
 else if op=9 then 91 :: (Kbl op l [44,32] ++ [93])
 else if op=10 then [116,111,95,101,110,116,114,105,101,115]
 else if op=11 then [102,114,111,109,95,101,110,116,114,105,101,115]
 else if op=14 then [114,101,118,101,114,115,101]
 else if op=16 then s ++ [32] ++ signT n ++ [32] ++ scalT c
 else if op=17 then Kbl op l [32,97,110,100,32]
 else if op=18 then Kbl op l [32,111,114,32]
 else if op=19 then 40 :: (Kdq l ++ [32,124,32,110,111,116,41])
 else callN op ++ [40] ++ (if l=[] then s else Kdq l) ++ [41]
mutual
def qtext:RT->List UInt8
 | .mk k s n c kids=>qtextK k s n c (Kff kids)
def Kff:RF->List PTx
 | .nil=>[]
 | .cons nm t r=>(nm,t.kind,qtext t) :: Kff r
end
def sumT (l:List (List UInt8)):Nat:=(l.map List.length).sum
theorem repL_len (n:Nat):(Lib.repeatL [48] n).length=n:=by rw[Lib.repeatL_length];simp
def sumP (l:List PTx):Nat:=(l.map fun p=>p.2.2.length).sum
def two (a b:RT):RT:=.mk 4 [] 0 Juf (.cons [] a (.cons [] b .nil))
mutual
def Kl3:RT->RT->RT
 | .mk k s n c kids,u=>if k=4 then .mk 4 [] 0 Juf (pipeF kids u) else two (.mk k s n c kids) u
def pipeF:RF->RT->RF
 | .nil,_=>.nil
 | .cons _ a r,u=>.cons [] a (pipeG r u)
def pipeG:RF->RT->RF
 | .nil,_=>.nil
 | .cons _ b _,u=>.cons [] (Kl3 b u) .nil
end
theorem ok_two {k:Int} {s:List UInt8} {n:Int} {c:Node} {kids:RF} (h:okQ (.mk k s n c kids)) (hk:k=4):∃ a b,RT.mk k s n c kids=two a b/\okQ a/\okQ b/\¬ Jrm a.kind/\¬ Jrm b.kind/\a.kind≠4:=by
 subst hk;obtain ⟨h1,⟨h2,h3,_⟩,h4⟩:=Jwl.1 h;have e:s=[]/\n=0/\c=Juf/\(kids.len:Int)=2:=by
  unfold Jqq at h1;rw[if_neg omg,if_neg omg,if_neg omg,if_pos omg] at h1;exact h1
 obtain ⟨rfl,rfl,rfl,h5⟩:=e
 match kids,h5,h2,h3,h4 with
 | .nil,h5,_,_,_=>simp[RF.len] at h5
 | .cons na a .nil,h5,_,_,_=>simp[RF.len] at h5
 | .cons na a (.cons nb b (.cons nc d r)),h5,_,_,_=>simp only[RF.len] at h5;omega
 | .cons na a (.cons nb b .nil),_,h2,h3,h4 =>
  have q1:=h2 (na,a) (by simp[RF.list]);have q2:=h2 (nb,b) (by simp[RF.list]);have e1:na=[]:=q1.2.1 omg;have e2:nb=[]:=q2.2.1 omg;subst e1 e2;obtain ⟨g1,g2⟩:=Jvi.1 h4;obtain ⟨g3,_⟩:=Jvi.1 g2;have c4:¬ (Jrm 4\/(4:Int)=7):=by unfold Jrm;omega
  exact ⟨a,b,rfl,g1,g3,fun h=>c4 (q1.1.1 h),fun h=>c4 (q2.1.1 h),h3 rfl ([],a) rfl⟩
theorem Kl7 {a b u:RT}:Kl3 (two a b) u=two a (Kl3 b u):=by
 unfold two;rw[Kl3,if_pos rfl,pipeF,pipeG]
theorem Kl5 {t u:RT} (h:t.kind≠4):Kl3 t u=two t u:=by
 cases t with
 | mk k s n c kids=>exact (by rw[Kl3];exact if_neg h)
theorem Kk5 (t u:RT):(Kl3 t u).kind=4:=by
 cases t with
 | mk k s n c kids=>rw[Kl3];split<;>rfl
theorem Kjz {a b:RT} {nm:List UInt8}:(two a b).enc nm=⟨4,2,nm,[],0,Juf⟩ :: (a.enc [] ++ b.enc []):=by
 unfold two;rw[Jqs,Jqv,Jqv,Jsd,Eaw];rfl
theorem Kmd {a b:RT} (ha:okQ a) (hb:okQ b) (ca:¬ Jrm a.kind) (cb:¬ Jrm b.kind) (h4:a.kind≠4):okQ (two a b):=by
 have c4:¬ (Jrm 4\/(4:Int)=7):=by unfold Jrm;omega
 refine Jwl.2 ⟨?_,⟨?_,?_,?_⟩,Jvi.2 ⟨ha,Jvi.2 ⟨hb,Jvm⟩⟩⟩
 ·unfold Jqq;rw[if_neg omg,if_neg omg,if_neg omg,if_pos omg];exact ⟨rfl,rfl,rfl,rfl⟩
 ·intro p hp;simp only[RF.list,Eak,Ebg,or_false] at hp;rcases hp with rfl | rfl
  ·exact ⟨⟨fun h=>absurd h ca,fun h=>absurd h c4⟩,fun _=>rfl,fun h=>absurd h omg⟩
  ·exact ⟨⟨fun h=>absurd h cb,fun h=>absurd h c4⟩,fun _=>rfl,fun h=>absurd h omg⟩
 ·intro _ p hp;cases hp;exact h4
 ·intro h;exact absurd h omg
theorem Kl6 {M:RT->Prop} (h1:∀ t,okQ t->¬ Jrm t.kind->t.kind≠4->M t) (h2:∀ a b,okQ a->okQ b->¬ Jrm a.kind->¬ Jrm b.kind->a.kind≠4->M b->M (two a b)):∀ (n:Nat) (t:RT),(t.enc []).length<=n->okQ t->¬ Jrm t.kind->M t
 | 0,t,h,_,_=>by have:=Jsi t [];omega
 | n+1,.mk k s m c kids,h,ho,hc=>by
  by_cases hk:k=4
  ·obtain ⟨a,b,e,ha,hb,ca,cb,h4⟩:=ok_two ho hk;rw[e] at h ⊢;rw[Kjz] at h;simp only[Ead,Eac] at h;exact h2 a b ha hb ca cb h4 (Kl6 h1 h2 n b omg hb cb)
  ·exact h1 _ ho hc hk
theorem Klt {t u:RT} (ht:okQ t) (ct:¬ Jrm t.kind) (hu:okQ u) (cu:¬ Jrm u.kind):okQ (Kl3 t u):=by
 have c4:¬ Jrm 4:=by unfold Jrm;omega
 refine Kl6 (M:=fun t=>okQ (Kl3 t u)) (fun t h1 h2 h3=>?_) (fun a b ha hb ca cb h4 ih=>?_) _ t (Eah _) ht ct
 ·rw[Kl5 h3];exact Kmd h1 hu h2 cu h3
 ·rw[Kl7];exact Kmd ha ih ca (by rw[Kk5];exact c4) h4
theorem Kle {t u:RT} (ht:okQ t) (ct:¬ Jrm t.kind):((Kl3 t u).enc []).length=(t.enc []).length+(u.enc []).length+1:=by
 refine Kl6 (M:=fun t=>((Kl3 t u).enc []).length=(t.enc []).length+(u.enc []).length+1) (fun t h1 h2 h3=>?_) (fun a b ha hb ca cb h4 ih=>?_) _ t (Eah _) ht ct
 ·rw[Kl5 h3,Kjz];simp
 ·rw[Kl7,Kjz,Kjz];simp only[Ead,Eac,ih];omega
end Go.LX
namespace Go.LX
open Go Go.RowKit Go.Proofs
attribute [local irreducible] Al SWP Bi
theorem Ke1 (x:Step):Jrc x nilT=.ok nilT:=by unfold Jrc;exact if_pos rfl
theorem Kfz {l:List KT} {x:Step} (hp:x.part=false):Jrc x (nd 6 l)=.ok ((Ch x.name l).getD nilT):=by
 obtain ⟨b,nm,n⟩:=x;simp only at hp;subst hp;unfold nd;rw[Jw4,Hd]
theorem Keb {l:List KT} {x:Step} (hp:x.part=false):J01 (nd 6 l) x=nd 6 (A8 x.name l):=by
 unfold nd;rw[J01,if_neg (by rw[hp];decide),Hd];rfl
theorem Kd0 {x:Step} {p:List Step} {t:Tree}:delT (x :: p) t=if t.kind=0 then .ok t else match inT t x with
  | .error e=>if e=6 then .ok t else .error 5
  | .ok u=>if p=[] then .ok (J01 t x) else match delT p u with
   | .error e=>.error e
   | .ok w=>setT [x] t w:=by rw[delT];rfl
theorem Khr {a b:RT} {v:Tree}:Jql (two a b) v=match Jql a v with
  | .error e=>.error e
  | .ok x=>Jql b x:=by
 unfold two;rw[Jww,J9p,J9p,Kcl];show (match Jql a v with
  | .error e=>.error e
  | .ok x=>Jql b x:Except Nat Tree)=_
 cases Jql a v<;>rfl
theorem Kk4 {t u:RT} (ht:okQ t) (ct:¬ Jrm t.kind):∀ v,Jql (Kl3 t u) v=match Jql t v with
  | .error e=>.error e
  | .ok x=>Jql u x:=by
 refine Kl6 (M:=fun t=>∀ v,Jql (Kl3 t u) v=match Jql t v with
  | .error e=>.error e
  | .ok x=>Jql u x) (fun t _ _ h4 v=>?_) (fun a b _ _ _ _ _ ih v=>?_) _ t (Eah _) ht ct
 ·rw[Kl5 h4,Khr]
 ·rw[Kl7,Khr,Khr];cases Jql a v with
  | error e=>rfl
  | ok x=>exact ih x
def mapQ (f:RT):RT:=.mk 5 [] 0 Juf (.cons [] f .nil)
theorem Kld {f:RT} {v:Tree}:Jql (mapQ f) v=Jr7 (Jql f) false v:=by
 unfold mapQ;rw[Jww,J9p,Kcl];rfl
theorem Kl9 {f g:Tree->Except Nat Tree}:∀ {l r:List Tree},mapE (fun v=>match f v with
  | .error e=>.error e
  | .ok x=>g x) l=.ok r->∃ us,mapE f l=.ok us/\mapE g us=.ok r
 | [],r,h=>by rw[mapE] at h;cases h;exact ⟨[],rfl,rfl⟩
 | t :: l,r,h=>by
  rw[mapE] at h;rw[mapE];cases hf:f t with
  | error e =>
   rw[hf] at h;simp only at h ⊢;by_cases e5:e=5
   ·rw[if_pos e5] at h;cases h
   ·rw[if_neg e5] at h;rw[if_neg e5];exact Kl9 h
  | ok x =>
   rw[hf] at h;simp only at h ⊢;cases hg:g x with
   | error e =>
    rw[hg] at h;simp only at h;by_cases e5:e=5
    ·rw[if_pos e5] at h;cases h
    ·rw[if_neg e5] at h;obtain ⟨us,h1,h2⟩:=Kl9 h;rw[h1];refine ⟨x :: us,rfl,?_⟩;rw[mapE,hg];simp only;rw[if_neg e5];exact h2
   | ok y =>
    rw[hg] at h;simp only at h;cases hm':mapE (fun v=>match f v with
     | .error e=>.error e
     | .ok x=>g x) l with
    | error e=>rw[hm'] at h;cases h
    | ok ys =>
     rw[hm'] at h;cases h;obtain ⟨us,h1,h2⟩:=Kl9 hm';rw[h1];refine ⟨x :: us,rfl,?_⟩;rw[mapE,hg,h2]
theorem Klj {t u:RT} (ht:okQ t) (ct:¬ Jrm t.kind) {v x:Tree} (h:Jql (mapQ (Kl3 t u)) v=.ok x):Jql (two (mapQ t) (mapQ u)) v=.ok x:=by
 have e:Jql (Kl3 t u)=fun v=>match Jql t v with
  | .error e=>.error e
  | .ok x=>Jql u x:=funext fun v=>Kk4 ht ct v
 rw[Kld,e] at h;unfold Jr7 at h;by_cases hk:v.kind=5\/v.kind=6
 ·rw[if_pos hk,if_neg sm] at h;cases hm':mapE (fun v=>match Jql t v with
   | .error e=>.error e
   | .ok x=>Jql u x) (Jqe v) with
  | error e=>rw[hm'] at h;cases h
  | ok r =>
   rw[hm'] at h;cases h;obtain ⟨us,h1,h2⟩:=Kl9 hm';rw[Khr,Kld];unfold Jr7;rw[if_pos hk,if_neg sm,h1];simp only;rw[Kld];unfold Jr7;rw[if_pos (.inl (Kin us)),if_neg sm,Khq,h2]
 ·rw[if_neg hk] at h;cases h
end Go.LX
namespace Go.LX
open Go Go.RowKit Go.Proofs Go.Proofs.Tryz
attribute [local irreducible] Al SWP Bi
def fldA:RT:=.mk 1 [97] 0 Juf .nil
def cmpA:RT:=.mk 16 [46,97] 5 ⟨3,0,[],[49],false,0⟩ .nil
theorem Khz (v:Tree):Jql fldA v=Jrc ⟨false,[97],0⟩ v:=by unfold fldA;rw[Jww];rfl
theorem Kjc (v:Tree) (hg:GT v) (hv:(v.enc []).length<=1000):Det cx 12 [.p (.sl (rowL (fldA.enc []))),.p (.sl (valL (v.enc [])))] [] (getR (Jql fldA v)) []:=by
 have hT:=J1o [] 1 [97] 0 Juf .nil de;have hF:=Kbd ⟨false,[97],0⟩ v de hg.1 omg;have hg0:(rowL ((RT.mk 1 [97] 0 Juf .nil).enc []))[0]? = some [.int .i64 1,.int .i64 0,.str [],.str [97],.int .i64 0,.int .i64 0,.int .i64 0,.str [],.str [],.bool false,.int .i64 0]:=rfl;rw[Khz];unfold fldA;rw[Jqz] at hF ⊢;generalize rowL ((RT.mk 1 [97] 0 Juf .nil).enc [])=rows at *
 (refine bgo func12 ?_;simp only[go_sem,simprocAttr,hg0]);(repeat'(first|((first|refine Jqa hT ?_|refine Jqa hF ?_);simp only[go_sem,simprocAttr])|fail))
theorem ev_cmp (v:Tree) (hg:GT v) (hv:(v.enc []).length<=1000):Det cx 18 [.p (.sl (rowL (cmpA.enc []))),.p (.sl (valL (v.enc [])))] [] (.tup [.bool (resB (Jrf cmpA v)),.int .i64 (resC (Jrf cmpA v))]) []:=by
 have hcp:Js2 ⟨3,0,[],[49],false,0⟩:=by decide +kernel
 have hN:=Kbg hcp;obtain ⟨hpl,hpo⟩:=Jvs [46,97];have hP:=Jz1 [46,97] de;have hF:=J40 (Je [46,97]).1 v omg hpo hg.1 omg;have hR:Jrf cmpA v=match Jrd (Je [46,97]).1 v with
  | .error e=>.error e
  | .ok x=>.ok (J0l 5 (cmpT x (ndT ⟨3,0,[],[49],false,0⟩))):=by
  unfold cmpA;rw[Jwx];unfold J15;rw[if_pos rfl];cases Jrd (Je [46,97]).1 v<;>rfl
 have hg0:(rowL (cmpA.enc []))[0]? = some [.int .i64 16,.int .i64 0,.str [],.str [46,97],.int .i64 5,.int .i64 3,.int .i64 0,.str [],.str [49],.bool false,.int .i64 0]:=rfl;rw[hR];cases hfo:Jrd (Je [46,97]).1 v with
 | error e =>
  rw[hfo,getR] at hF;have:=Jsp hfo;subst this;simp only[resB,resC];generalize rowL (cmpA.enc [])=rows at *
  generalize (Je [46,97]).1=P at *
  (refine bgo func18 ?_;simp only[go_sem,simprocAttr,hg0]);(repeat'(first|((first|refine Jqa hP ?_|refine Jqa hF ?_);simp only[go_sem,simprocAttr])|fail))
  all_goals rfl
 | ok x =>
  rw[hfo,getR] at hF;have hC:=Ke2 _ x (ndT ⟨3,0,[],[49],false,0⟩) (Eah _) (Jxm hg.1 hfo) (J9y hcp) (by have:=Jxh hfo;omega) (by rw[Kbb];omega);have hS:=Khn 5 (cmpT x (ndT ⟨3,0,[],[49],false,0⟩)) omg omg;rw[hN] at hC;simp only[resB,resC];generalize rowL (cmpA.enc [])=rows at *
  generalize (Je [46,97]).1=P at *
  (refine bgo func18 ?_;simp only[go_sem,simprocAttr,hg0]);(repeat'(first|((first|refine Jqm ?_|refine Jqa hP ?_|refine Jqa hF ?_|refine Jqb hC ?_|refine Jqb hS ?_);simp only[go_sem,simprocAttr])|fail))
attribute [go_sem] ntmps10 results10 ntmps11 results11
structure FiFit (v:List YRow):Prop where
 len:v.length<=140737488355328
 row:∀ n∈v,ERow n
structure FiFitW (v:List YRow):Prop extends FiFit v where
 reach:v.length * 120<=140737488351232
theorem J0m {v:List YRow} {m:Nat} (h:Jvn v m=true):∃ t:RT,okQ t/\¬ Jrm t.kind/\v=t.enc []/\(t.enc []).length<=m/\FitQ t:=by
 unfold Jvn at h;rw[Ebb] at h;obtain ⟨t,h1,h2,rfl⟩:=Jwr.1 h.2;have h3:=h.1;unfold Jyz at h3;simp only[Ebb,decide_eq_true_eq,Eby] at h3;refine ⟨t,h1,h2,rfl,h3.1,fun r hr=>?_⟩;have h4:=h3.2 r hr;simp only[shortY,Ebb,decide_eq_true_eq] at h4;exact ⟨omg,omg⟩
theorem J5i (v:List YRow) (u:List Node) (hv:FiFit v) (hu:ValFit u):Det cx 10 [.p (.sl (rowL v)),.p (.sl (valL u))] [] (.p (.bool (Jvn v 40 && fewB u 40))) []:=by
 have h1:=Kha v 40 omg (by have:=hv.len;omega) hv.row;have h2:=Ln u 40 omg (by have:=hu.len;omega) hu.node;cases b1:Jvn v 40 with
 | false =>
  rw[b1] at h1;rw[Bool.false_and];(refine bgo func10 ?_;simp only[go_sem,simprocAttr]);(repeat'(first|((refine Jqa h1 ?_);simp only[go_sem,simprocAttr])|fail))
 | true =>
  rw[b1] at h1;rw[Bool.true_and];(refine bgo func10 ?_;simp only[go_sem,simprocAttr]);(repeat'(first|((first|refine Jqa h1 ?_|refine Jqa h2 ?_);simp only[go_sem,simprocAttr])|fail))
theorem Kd9 {w l:Nat} (h:wOK w l):∀ k,wOK w (l+k)
 | 0=>h
 | k+1=>J65 (Kd9 h k)
theorem wgt_41 {w l:Nat} (h:wOK w l) (hl:l<=41):w<=10790653185:=by
 have h2:=Kd9 h (41 - l);rw[show l+(41 - l)=41 by omega] at h2;unfold wOK at h2;simp only[Nat.reducePow,Nat.reduceAdd] at h2;omega
theorem J3i {n w l:Nat} (h:wOK w l) (hl:l<=41) (hn:n<=40):n * w<=431626127400:=by
 have h1:=wgt_41 h hl;have h2:=Nat.mul_le_mul hn h1;omega
def oneA:Tree:=.mk 3 [49] false 0 .nil
def objA:Tree:=nd 6 [([97],oneA)]
theorem Kgy:okT oneA:=by
 unfold oneA;rw[Lu];exact ⟨by decide,Sb 3,I6⟩
theorem Ka2:GT oneA:=⟨Kgy,by
 unfold oneA FitT;intro n hn;rw[A6,Bl] at hn;simp only[Eak,Ebg,or_false] at hn;subst hn;exact ⟨by decide,by decide,by decide,by decide⟩⟩
theorem J6f:GT objA:=J49 (List.pairwise_singleton _ _) fun p hp=>by
 simp only[Eak,Ebg,or_false] at hp;subst hp;exact ⟨(by decide:valid [97]=true),(by decide:(1:Nat)<=1000000),Ka2⟩
theorem J2f (k:Int):Jsy k RF.nil.list:=⟨fun p hp=>(by cases hp),fun _ p hp=>(by cases hp),fun _=>List.nodup_nil⟩
theorem Jsw:Det cx 11 [] [] (.p (.bool true)) []:=by
 have hO:=Zc [([97],oneA)] de (by intro p hp;simp only[Eak,Ebg,or_false] at hp;subst hp;exact (by decide:(1:Nat)<=1000000));have hok:M3 [([97],oneA)]=true:=by
  unfold M3;rw[decide_eq_true_eq];refine ⟨fun p hp=>?_,by simp⟩;simp only[Eak,Ebg,or_false] at hp;subst hp;exact (by decide:valid [97]=true)
 rw[objR,if_pos hok,show Lp [([97],oneA)]=[([97],oneA)] from rfl,show Tree.mk 6 [] false 0 (A1 [([97],oneA)])=objA from rfl,show Bd [([97],oneA)]=[[.str [97]]] from rfl,show A4 [([97],oneA)]=[[.sl (valL (oneA.enc []))]] from rfl] at hO;have e1:=Kjc objA J6f de;have e2:=Kjc nilT Jwp de;have e3:=Kjc oneA Ka2 de;have x1:Jql fldA objA=.ok oneA:=by rw[Khz];unfold objA;rw[Kfz rfl];rfl
 have x2:Jql fldA nilT=.ok nilT:=by rw[Khz];exact Ke1 _
 have x3:Jql fldA oneA=.error 5:=by rw[Khz];exact Jyn de de
 rw[x1,getR] at e1;rw[x2,getR] at e2;rw[x3,getR] at e3;have hH:=ev_cmp objA J6f de;have hB:resB (Jrf cmpA objA)=true:=by decide +kernel
 have hC:resC (Jrf cmpA objA)=0:=by decide +kernel
 rw[hB,hC] at hH;have hD:=Jz5 [⟨false,[97],0⟩] objA de (fun x hx=>by
  simp only[Eak,Ebg,or_false] at hx;subst hx;exact ⟨rfl,(by decide:valid [97]=true)⟩) J6f de
 have x4:delT [⟨false,[97],0⟩] objA=.ok (nd 6 []):=by
  rw[Kd0,if_neg (show ¬ objA.kind=0 from (by decide:¬ (6:Int)=0)),show inT objA ⟨false,[97],0⟩=.ok oneA from by unfold objA;rw[Vv rfl];rfl];simp only;rw[if_pos trivial];unfold objA;rw[Keb rfl];rfl
 rw[x4,getR] at hD;have hS:=Kkl (oneA.enc []) (oneA.enc []) de de;rw[decide_eq_true rfl] at hS;have r1:rowL (fldA.enc [])=[[.int .i64 1,.int .i64 0,.str [],.str [97],.int .i64 0,.int .i64 0,.int .i64 0,.str [],.str [],.bool false,.int .i64 0]]:=rfl;have r2:rowL (cmpA.enc [])=[[.int .i64 16,.int .i64 0,.str [],.str [46,97],.int .i64 5,.int .i64 3,.int .i64 0,.str [],.str [49],.bool false,.int .i64 0]]:=rfl;have r3:valL (oneA.enc [])=[[.int .i64 3,.int .i64 0,.str [],.str [49],.bool false,.int .i64 0]]:=rfl;have r4:valL (objA.enc [])=[[.int .i64 6,.int .i64 1,.str [],.str [],.bool false,.int .i64 0],[.int .i64 3,.int .i64 0,.str [97],.str [49],.bool false,.int .i64 0]]:=rfl;have r5:valL (nilT.enc [])=[[.int .i64 0,.int .i64 0,.str [],.str [],.bool false,.int .i64 0]]:=rfl;have r6:valL ((nd 6 []).enc [])=[[.int .i64 6,.int .i64 0,.str [],.str [],.bool false,.int .i64 0]]:=rfl;have r7:Bb [⟨false,[97],0⟩]=[[.bool false,.str [97],.int .i64 0]]:=rfl;rw[r3,r4] at hO e1;rw[r1] at e1 e2 e3;rw[r5] at e2;rw[r3] at e3 hS;rw[r2,r4] at hH;rw[r7,r4,r6] at hD;(refine bgo func11 ?_;simp only[go_sem,simprocAttr]);(repeat'(first|((first|refine Jqa hO ?_|refine Jqa e1 ?_|refine Jqa e2 ?_|refine Jqa e3 ?_|refine Jqa hH ?_|refine Jqa hD ?_|refine Jqa hS ?_);simp only[go_sem,simprocAttr])|fail))
end Go.LX
namespace Go.LX
open Go Go.Proofs Go.Proofs.Tryz Go.RowKit Go.ChangeShapes Go.WideShapes Go.ChangeAt Go.Lib
open Go.Proofs.YtaghbedfogiopaaGreatDoor
theorem cTm:Tryz.prog.cellsOf 38=11:=kr
theorem bTm:0<Tryz.prog.bytesOf 38:=by decide +kernel
def YRow.vals (r:YRow):List Value:=[.int .i64 r.kind,.int .i64 r.many,.string ⟨⟨r.name⟩⟩,.string ⟨⟨r.s⟩⟩,.int .i64 r.n,.int .i64 r.c.kind,.int .i64 r.c.many,.string ⟨⟨r.c.name⟩⟩,.string ⟨⟨r.c.s⟩⟩,.bool r.c.neg,.int .i64 r.c.e]
theorem eachTm {H:Type} {enc:TypeId×Value->H} {w:World} (fuel:Nat) (cs:List Value) (y:DataW H×List MemPlace) (h:DataW.trod enc Tryz.prog w 0 (fun _=>true) true fuel 38 cs=some y) (hz:∀ n∈y.1.weights Tryz.prog 38,n<=reachBytes) :
  ∃ x:YRow,ERow x/\cs=x.vals:=by
 obtain ⟨xs,n,_,rfl,hl,hlen,hf⟩:=DataW.trod_struct underlying38 h;rw[cTm] at hl
 match xs,hlen,cs,hl with
 | [y0,y1,y2,y3,y4,y5],_,[a0,a1,a2,a3,a4,a5,a6,a7,a8,a9,a10],_ =>
  have g0:=hf 0 _ rfl;have g1:=hf 1 _ rfl;have g2:=hf 2 _ rfl;have g3:=hf 3 _ rfl;have g4:=hf 4 _ rfl;have g5:=hf 5 _ rfl;simp only[Kk0,cStr,cInt,Kf7,Ebn,Ecd,Ebv,Eb7,List.getElem?_cons_zero,List.getElem?_cons_succ] at g0 g1 g2 g3 g4 g5;obtain ⟨x0,e0,rfl,_⟩:=DataW.trod_int underlying3 g0;obtain ⟨x1,e1,rfl,_⟩:=DataW.trod_int underlying3 g1;obtain ⟨x2,e2,rfl,z2⟩:=DataW.trod_string underlying9 g2;obtain ⟨x3,e3,rfl,z3⟩:=DataW.trod_string underlying9 g3;obtain ⟨x4,e4,rfl,_⟩:=DataW.trod_int underlying3 g4;obtain ⟨c,hc,e5⟩:=Jly _ _ _ g5 (fun n hn=>hz n (by simp[DataW.weights,DataW.weightsEach,underlying38,hn]));cases e0;cases e1;cases e2;cases e3;cases e4;cases e5;have hm:maxLen=9223372036854775807:=by decide
  have s2:=T8 x2;have s3:=T8 x3;refine ⟨⟨x0,x1,x2.data.toList,x3.data.toList,x4,c⟩,⟨?_,?_,hc.s,hc.e0,hc.e1⟩,?_⟩
  ·show x3.data.toList.length<=_;omega
  ·show x2.data.toList.length<=_;omega
  ·simp only[YRow.vals,Jc3]
theorem Kgw (w:World) (Im:Nat->Prop) (x:YRow) (j:Nat) (p:PV) (h:x.cells[j]? = some p):PRep w Im (x.vals.getD j undef) p:=by
 match j,h with
 | 0,h=>cases h;exact PRep.int _ _
 | 1,h=>cases h;exact PRep.int _ _
 | 2,h=>cases h;exact PRep.str _
 | 3,h=>cases h;exact PRep.str _
 | 4,h=>cases h;exact PRep.int _ _
 | 5,h=>cases h;exact PRep.int _ _
 | 6,h=>cases h;exact PRep.int _ _
 | 7,h=>cases h;exact PRep.str _
 | 8,h=>cases h;exact PRep.str _
 | 9,h=>cases h;exact PRep.bool _
 | 10,h=>cases h;exact PRep.int _ _
 | j+11,h=>simp[YRow.cells] at h
theorem openInW {α H:Type} {enc:TypeId×Value->H} {P:Program} {w:World} {t e:TypeId} {c:Nat} (vals:α->List Value) (cells:α->List PV) (Good:α->Prop)
  (ht:P.underlying t=some (.slice e)) (hc:P.cellsOf e=c) (hc0:0<c) (hb:0<P.bytesOf e) (hvl:∀ x,(vals x).length=c) (hcl:∀ x,(cells x).length=c) (hsc:∀ x,∀ p∈cells x,p.scalar=true)
  (hrep:∀ x j p,Good x->(cells x)[j]? = some p->PRep w (Ja w) ((vals x).getD j undef) p)
  (each:∀ (fuel:Nat) (cs:List Value) (y:DataW H×List MemPlace),DataW.trod enc P w 0 (fun _=>true) true fuel e cs=some y->(∀ n∈y.1.weights P e,n<=reachBytes)->∃ x,Good x/\cs=vals x)
  {cs:List Value} {fuel:Nat} {x:DataW H×List MemPlace} (h:DataW.trod enc P w 0 (fun _=>true) true fuel t cs=some x) (hz:∀ n∈x.1.weights P t,n<=reachBytes) :
  ∃ (v:Value) (p:List α),cs=[v]/\p.length * P.bytesOf e<=reachBytes/\(∀ a∈p,Good a)/\PRep w (Ja w) v (.sl (p.map cells)):=by
 rcases Go.Deep.open_slice ht h with ⟨rfl,rfl⟩ | ⟨a,len,cap,m,n,D,Pl,rfl,hb0,hl,hm,hmm,rfl,hx⟩
 ·exact ⟨_,[],rfl,by simp,by simp,PRep.slNil⟩
 ·simp only[if_true] at hmm;subst hmm;by_cases h0:m=0
  ·subst h0;obtain rfl:len=0:=by omega
   exact ⟨_,[],rfl,by simp,by simp,PRep.slNil⟩
  obtain ⟨blk,off,spot⟩:=a;obtain ⟨cs0,hc1,_⟩:=hx 0 omg;have h00:=(World.cells?_some hc1).2.2 0 omg;have hl0:=(World.cells?_some hc1).2.1;have hcell:(w.cell? ⟨blk,off,spot⟩).isSome=true:=by
   have e1:((⟨blk,off,spot⟩:Addr).add (0 * P.cellsOf e)).add 0=⟨blk,off,spot⟩:=by rw[Edf];rfl
   rw[e1] at h00;rw[h00,Eaa omg];rfl
  have hsp:spot=none:=by
   unfold World.cell? at hcell;cases spot with
   | none=>rfl
   | some s=>split at hcell<;>simp at hcell
  subst hsp;have hblk:blk<w.heap.size:=by
   rcases Eds blk w.heap.size with h | h
   ·exact h
   ·unfold World.cell? at hcell;simp only[Array.getElem?_eq_none h] at hcell;simp at hcell
  have hlen:len * P.bytesOf e<=reachBytes:=by
   have h1:=hz ((len+(m - len)) * P.bytesOf e) (by simp[DataW.weights,ht]);exact Nat.le_trans (Nat.mul_le_mul_right _ (Nat.le_add_right _ _)) h1
  obtain ⟨p,hp,hq⟩:=Jkw (Q:=fun i x=>Good x/\w.cells? 0 ((⟨blk,off,none⟩:Addr).add (i * c)) c=some (vals x)) len fun i hi=>by
   obtain ⟨cs',h1,h2⟩:=hx i omg;rw[hc] at h1;obtain ⟨x,hg,rfl⟩:=each n cs' _ h2 (fun k hk=>hz k (by
    simp only[DataW.weights,ht,Eak,Eax];exact .inr (.inl (J8 (Eap.2 ⟨i,List.mem_range.2 hi,rfl⟩) hk))))
   exact ⟨x,hg,h1⟩
  refine ⟨_,p,rfl,by rw[hp];exact hlen,fun a ha=>?_,?_⟩
  ·obtain ⟨i,hi⟩:=Ebz ha;exact (hq i a hi).1
  ·have e2:len=(p.map cells).length:=by simp[hp]
   have key:=PRep.sl (w:=w) (Im:=Ja w) blk off m c (p.map cells) (by rw[<- e2];exact hl) hblk (fun i j=>match p[i]? with | some x=>(vals x).getD j undef | none=>undef)
    (fun r hr=>by obtain ⟨x,_,rfl⟩:=Eap.1 hr;exact hcl x)
    (fun r hr=>by obtain ⟨x,_,rfl⟩:=Eap.1 hr;exact hsc x)
    (fun i hi j hj=>by
     rw[<- e2] at hi;obtain ⟨x,hx'⟩:∃ x,p[i]? = some x:=⟨_,Eaa omg⟩
     have h1:=(World.cells?_some (hq i x hx').2).2.2 j hj;rw[Go.Deep.add_add,Jka,<- Eb2] at h1;rw[h1,hx'];have h3:j<(vals x).length:=by rw[hvl];exact hj
     simp[Eaj,Eaa h3])
    (fun i r j q hr hq'=>by
     rw[Eam] at hr;cases hx':p[i]? with
     | none=>rw[hx'] at hr;cases hr
     | some x =>
      rw[hx'] at hr;obtain rfl:=Ebd hr;exact hrep x j q (hq i x hx').1 hq')
   rw[<- e2] at key;exact key
theorem openRowsW {α H:Type} {enc:TypeId×Value->H} {P:Program} {w:World} {t e:TypeId} {c:Nat} (vals:α->List Value) (cells:α->List PV) (Good:α->Prop)
  (ht:P.underlying t=some (.slice e)) (hc:P.cellsOf e=c) (hb:0<P.bytesOf e) (hvl:∀ x,(vals x).length=c) (hcl:∀ x,(cells x).length=c) (hsc:∀ x,∀ p∈cells x,p.scalar=true)
  (hrep:∀ (Im:Nat->Prop) x j p,(cells x)[j]? = some p->PRep w Im ((vals x).getD j undef) p)
  (each:∀ (fuel:Nat) (cs:List Value) (y:DataW H×List MemPlace),DataW.trod enc P w 0 (fun _=>true) true fuel e cs=some y->(∀ n∈y.1.weights P e,n<=reachBytes)->∃ x,Good x/\cs=vals x)
  {b:Nat} {v:Value} (hok:Cell.okWide P w .any b t v) {fuel:Nat} {x:DataW H×List MemPlace} (h:DataW.trod enc P w 0 (fun _=>true) true fuel t [v]=some x) (hz:∀ n∈x.1.weights P t,n<=reachBytes) (hc0:0<c:=by decide) :
  ∃ p:List α,p.length * P.bytesOf e<=reachBytes/\(∀ a∈p,Good a)/\PRep w (Ja w) v (.sl (p.map cells)):=by
 obtain ⟨v',p,e1,h1,h2,h3⟩:=openInW vals cells Good ht hc hc0 hb hvl hcl hsc (fun x j p _ h=>hrep _ x j p h) each h hz;cases e1;exact ⟨p,h1,h2,h3⟩
theorem bTmW:Tryz.prog.bytesOf 38=120:=by decide +kernel
theorem cellFi {H:Type} {enc:TypeId×Value->H} {w:World} {b:Nat} {v:Value} (hok:Cell.okWide Tryz.prog w .any b 23 v) {fuel:Nat} {x:DataW H×List MemPlace} (h:DataW.trod enc Tryz.prog w 0 (fun _=>true) true fuel 23 [v]=some x) (hz:∀ n∈x.1.weights Tryz.prog 23,n<=reachBytes) :
  ∃ p:List YRow,FiFitW p/\PRep w (Ja w) v (.sl (rowL p)):=by
 obtain ⟨p,h1,h2,h3⟩:=openRowsW YRow.vals YRow.cells ERow underlying23 cTm bTm (fun _=>rfl) (fun _=>rfl) (fun x p hp=>by simp[YRow.cells] at hp;rcases hp with rfl | rfl | rfl | rfl | rfl | rfl | rfl | rfl | rfl | rfl | rfl<;>rfl) (Kgw w) eachTm hok h hz;rw[bTmW] at h1;have h1:p.length * 120<=140737488351232:=h1;exact ⟨p,⟨⟨omg,h2⟩,h1⟩,h3⟩
theorem Kmf {H:Type} {enc:TypeId×Value->H} {w:World} {b:Nat} {v:Value} {d:DataW H} {q:List MemPlace} {ts:List TypeId} {ds:List (DataW H)} (hok:Value.okWide Tryz.prog w .any b 23 v) (h:DataW.Trod enc Tryz.prog w 0 (fun _=>true) true 23 v d q)
  (hz:(DataW.weightsEach Tryz.prog ts ds).all (· <= reachBytes)=true) {j:Nat} (h1:ts[j]? = some 23) (h2:ds[j]? = some d):∃ p:List YRow,FiFitW p/\PRep w (Ja w) v (.sl (rowL p)):=by
 simp only[Value.okWide,underlying23] at hok;obtain ⟨fuel,h⟩:=h;rw[Jkh underlying23 hok] at h;exact cellFi hok h (J0 hz h1 h2)
theorem Kme {H:Type} {enc:TypeId×Value->H} {w:World} {b:Nat} {v:Value} {d:DataW H} {q:List MemPlace} {ts:List TypeId} {ds:List (DataW H)} (hok:Value.okWide Tryz.prog w .any b 23 v) (h:DataW.Trod enc Tryz.prog w 0 (fun _=>true) true 23 v d q)
  (hz:(DataW.weightsEach Tryz.prog ts ds).all (· <= reachBytes)=true) {j:Nat} (h1:ts[j]? = some 23) (h2:ds[j]? = some d):∃ p:List YRow,FiFit p/\PRep w (Ja w) v (.sl (rowL p)):=by
 obtain ⟨p,h1,h2⟩:=Kmf hok h hz h1 h2;exact ⟨p,h1.toFiFit,h2⟩
theorem Kjm {W:World} (h:laidMetH Tryz.prog Rows.evalTellsRow.laid W):QuoteG W (Ja W):=Jdp h
end Go.LX
namespace Go.LX
open Go Go.RowKit Go.Proofs Go.Proofs.Tryz
attribute [local irreducible] Al SWP Bi
def J44 (f:RT) (w:Nat):Prop:=∀ v:Tree,okT v->FitT v->(v.enc []).length * w<=450000000000->Det cx 12 [.p (.sl (rowL (f.enc []))),.p (.sl (valL (v.enc [])))] [] (getR (Jql f v)) []
def Jr4 (f:Tree->Except Nat Tree):Nat->List Tree->List (Nat×Tree)
 | _,[]=>[]
 | i,t :: l=>match f t with
  | .error e=>if e=5 then [] else Jr4 f (i+1) l
  | .ok u=>(i,u) :: Jr4 f (i+1) l
def Jus (f:Tree->Except Nat Tree):List Tree->Int
 | []=>0
 | t :: l=>match f t with
  | .error e=>if e=5 then 5 else Jus f l
  | .ok _=>Jus f l
theorem J7m {f:Tree->Except Nat Tree}:∀ {l:List Tree} {i:Nat},match Jqw f i l with
  | .ok us=>Jr4 f i l=us/\Jus f l=0
  | .error _=>Jus f l=5
 | [],i=>by rw[Jqw];exact ⟨rfl,rfl⟩
 | t :: l,i=>by
  have ih:=J7m (f:=f) (l:=l) (i:=i+1);rw[Jqw,Jr4,Jus];cases f t with
  | error e =>
   simp only;by_cases e5:e=5
   ·rw[if_pos e5,if_pos e5,if_pos e5]
   ·rw[if_neg e5,if_neg e5,if_neg e5];exact ih
  | ok u =>
   simp only;cases hp:Jqw f (i+1) l with
   | ok us=>rw[hp] at ih;exact ⟨by rw[ih.1],ih.2⟩
   | error e=>rw[hp] at ih;exact ih
theorem J47 {f:Tree->Except Nat Tree}:∀ {l:List Tree} {i:Nat},(Jr4 f i l).length<=l.length
 | [],i=>Eah _
 | t :: l,i=>by
  have ih:=J47 (f:=f) (l:=l) (i:=i+1);rw[Jr4];cases f t with
  | error e =>
   simp only;split
   ·exact Eau _
   ·rw[Ead];omega
  | ok u=>simp only[Ead];omega
theorem J8g {kl:List KT} {us:List (Nat×Tree)} {i:Nat} {q:KT} {u:Tree} (hq:kl[i]? = some q):Bd (Jq9 (kl.map (·.1)) us) ++ [[.str q.1]]=Bd (Jq9 (kl.map (·.1)) (us ++ [(i,u)])):=by
 unfold Jq9;rw[Ebm,T6];simp[Bd,Eaj,hq]
theorem Kgb (kl:List KT) (us:List (Nat×Tree)) (i:Nat) (q:KT) (u:Tree) (hq:kl[i]? = some q) (hul:us.length<=600000000000):Det cx 88 [.p (.int .i64 i),.p (.sl (valL (u.enc []))),.ptr 1000 0 0,.ptr 1001 0 0,.ptr 1002 0 0] [(1000,.var 53 [.own 500003 0 us.length]),(1001,.var 61 [.p (.sl (Bd kl))]),(1002,.var 61 [.own 500004 0 us.length]),(500003,.row 25 1 (Jqd (us.map (·.2)))),(500004,.row 9 1 (Bd (Jq9 (kl.map (·.1)) us)))] (.tup []) [(1000,.var 53 [.own 500003 0 (us.length+1)]),(1001,.var 61 [.p (.sl (Bd kl))]),(1002,.var 61 [.own 500004 0 (us.length+1)]),(500003,.row 25 1 (Jqd ((us ++ [(i,u)]).map (·.2)))),(500004,.row 9 1 (Bd (Jq9 (kl.map (·.1)) (us ++ [(i,u)]))))]:=by
 have hgn:(Bd kl)[i]? = some [.str q.1]:=by simp[Bd,hq]
 have ha:=J8g (us:=us) (u:=u) hq;have hb:Jqd (us.map (·.2)) ++ [[.sl (valL (u.enc []))]]=Jqd ((us ++ [(i,u)]).map (·.2)):=by rw[Ebm,Jrl];rfl
 have h1:(Jqd (us.map (·.2))).length=us.length:=by simp
 have h2:(Bd (Jq9 (kl.map (·.1)) us)).length=us.length:=by rw[A9];unfold Jq9;simp
 obtain ⟨a,r,hkl⟩:∃ a r,kl=a :: r:=by
  cases kl with
  | nil=>simp at hq
  | cons a r=>exact ⟨a,r,rfl⟩
 have hne:Bd kl=[.str a.1] :: Bd r:=by rw[hkl];rfl
 generalize Bd kl=ns at *
 subst hne;generalize Jqd ((us ++ [(i,u)]).map (·.2))=t1 at *
 generalize Bd (Jq9 (kl.map (·.1)) (us ++ [(i,u)]))=t2 at *
 generalize Bd (Jq9 (kl.map (·.1)) us)=t3 at *
 generalize Jqd (us.map (·.2))=t4 at *
 (refine bgoR false [(10,500003),(19,500004)] func88 ?_;simp only[go_sem,simprocAttr,hb,h1]);(repeat'(first|(refine And.intro (by first|(simp;done)|(simp;omega)) ?_)|refine Jqj ?_|fail));refine J1j (qi 5 8 8) [2] (.node 0 (.node 1 (.node 3 (.node 4 (.node 5 (.node 6 (.node 7 .leaf .nil) .nil) .nil) .nil) .nil) .nil) (.node 1 (.node 0 (.node 3 (.node 4 (.node 5 (.node 6 (.node 7 .leaf .nil) .nil) .nil) .nil) .nil) (.node 3 (.node 0 (.node 4 (.node 5 (.node 6 (.node 7 .leaf .nil) .nil) .nil) .nil) (.node 4 (.node 0 (.node 5 (.node 6 (.node 7 .leaf .nil) .nil) .nil) (.node 5 (.node 0 (.node 6 (.node 7 .leaf .nil) .nil) .nil) .nil)) .nil)) .nil)) .nil)) 7 hm rfl kr kr ?_;simp only[go_sem,simprocAttr,hgn,ha,h2];(repeat'(first|(omega)|(simp;done)|(refine And.intro ?_ ?_)|fail))
 all_goals omega
theorem Kg2 (us:List (Nat×Tree)) (i:Nat) (u:Tree) (hul:us.length<=600000000000):Det cx 88 [.p (.int .i64 i),.p (.sl (valL (u.enc []))),.ptr 1000 0 0,.ptr 1001 0 0,.ptr 1002 0 0] [(1000,.var 53 [.own 500003 0 us.length]),(1001,.var 61 [.p .snil]),(1002,.var 61 [.p .snil]),(500003,.row 25 1 (Jqd (us.map (·.2))))] (.tup []) [(1000,.var 53 [.own 500003 0 (us.length+1)]),(1001,.var 61 [.p .snil]),(1002,.var 61 [.p .snil]),(500003,.row 25 1 (Jqd ((us ++ [(i,u)]).map (·.2))))]:=by
 have hb:Jqd (us.map (·.2)) ++ [[.sl (valL (u.enc []))]]=Jqd ((us ++ [(i,u)]).map (·.2)):=by rw[Ebm,Jrl];rfl
 have h1:(Jqd (us.map (·.2))).length=us.length:=by simp
 generalize Jqd ((us ++ [(i,u)]).map (·.2))=t1 at *
 generalize Jqd (us.map (·.2))=t4 at *
 (refine bgoR false [(10,500003)] func88 ?_;simp only[go_sem,simprocAttr,hb,h1]);(repeat'(first|(refine And.intro (by first|(simp;done)|(simp;omega)) ?_)|refine Jqj ?_|fail))
 all_goals omega
theorem Jwi {f:Tree->Except Nat Tree} {l:List Tree} {i:Nat} {t:Tree} (h:l[i]? = some t):l.drop i=t :: l.drop (i+1):=by
 obtain ⟨a,b⟩:=Eab.1 h;rw[Eaz a,b]
theorem Key (kl:List KT) (f:RT) (w:Nat) (hE:J44 f w) (he:∀ v e,Jql f v=.error e->e=5\/e=6) (l:List Tree) (hl:∀ t∈l,okT t/\FitT t/\(t.enc []).length * w<=450000000000) (hll:l.length<=450000000000) (hkl:l.length<=kl.length):Det cx 87 [.p (.sl (rowL (f.enc []))),.p (.sl (Jqd l)),.fn 88 [1000,1001,1002]] [(1000,.var 53 [.own 500003 0 0]),(1001,.var 61 [.p (.sl (Bd kl))]),(1002,.var 61 [.own 500004 0 0]),(500003,.row 25 1 (Jqd ((([]:List (Nat×Tree))).map (·.2)))),(500004,.row 9 1 (Bd (Jq9 (kl.map (·.1)) (([]:List (Nat×Tree))))))] (.p (.int .i64 (Jus (Jql f) l))) [(1000,.var 53 [.own 500003 0 (Jr4 (Jql f) 0 l).length]),(1001,.var 61 [.p (.sl (Bd kl))]),(1002,.var 61 [.own 500004 0 (Jr4 (Jql f) 0 l).length]),(500003,.row 25 1 (Jqd ((Jr4 (Jql f) 0 l).map (·.2)))),(500004,.row 9 1 (Bd (Jq9 (kl.map (·.1)) (Jr4 (Jql f) 0 l))))]:=by
 (refine bgo func87 ?_;simp only[go_sem,simprocAttr,Jqf]);refine SWP.loop (fun x:Nat×List (Nat×Tree)=>⟨Ba 35 [(0,.p (.sl (rowL (f.enc [])))),(2,.fn 88 [1000,1001,1002]),(11,.p (.sl (Jqd l))),(12,.p (.int .i64 l.length)),(13,.p (.int .i64 x.1))],[(1000,.var 53 [.own 500003 0 x.2.length]),(1001,.var 61 [.p (.sl (Bd kl))]),(1002,.var 61 [.own 500004 0 x.2.length]),(500003,.row 25 1 (Jqd ((x.2).map (·.2)))),(500004,.row 9 1 (Bd (Jq9 (kl.map (·.1)) (x.2))))]⟩) (fun x=>x.1<=l.length/\x.2.length<=x.1/\x.2 ++ Jr4 (Jql f) x.1 (l.drop x.1)=Jr4 (Jql f) 0 l/\Jus (Jql f) (l.drop x.1)=Jus (Jql f) l) (fun x=>l.length - x.1) (0,[]) Jqc ⟨Eau _,Eah _,rfl,rfl⟩ ?_;rintro ⟨i,us⟩ ⟨h1,h2,h3,h4⟩;simp only at h1 h2 h3 h4;by_cases hlt:i<l.length
 ·have c1:((i:Int)<(l.length:Int))=True:=eq_true omg;obtain ⟨t,ht⟩:∃ t,l[i]? = some t:=⟨_,Eaa hlt⟩
  obtain ⟨g1,g2,g3⟩:=hl t (Eag ht);have hF:=hE t g1 g2 g3;have hgt:=Jq5 ht;rw[Jwi (f:=Jql f) ht,Jr4] at h3;rw[Jwi (f:=Jql f) ht,Jus] at h4;cases hf:Jql f t with
  | error e =>
   rw[hf,getR] at hF;rw[hf] at h3 h4;simp only at h3 h4;rcases he t e hf with rfl | rfl
   ·rw[if_pos rfl,Eaw] at h3;rw[if_pos rfl] at h4;rw[<- h3,<- h4];(refine lws ?_;simp only[go_sem,simprocAttr,c1,hgt]);(repeat'(first|((refine Jqa hF ?_);simp only[go_sem,simprocAttr])|fail))
    all_goals rfl
   ·rw[if_neg de] at h3 h4;(refine lws ?_;simp only[go_sem,simprocAttr,c1,hgt,wj1 (i:=i) omg]);(repeat'(first|((refine Jqa hF ?_);simp only[go_sem,simprocAttr,wj1 (i:=i) omg])|fail))
    all_goals exact ⟨(i+1,us),⟨by simp only;omega,by simp only;omega,h3,h4⟩,by simp only;omega,Jqc⟩
  | ok u =>
   rw[hf,getR] at hF;rw[hf] at h3 h4;simp only at h3 h4;obtain ⟨q,hq⟩:∃ q,kl[i]? = some q:=⟨_,Eaa omg⟩
   have hC:=Kgb kl us i q u hq omg;have hn:us.length+1=(us ++ [(i,u)]).length:=by simp
   rw[hn] at hC;(refine lws ?_;simp only[go_sem,simprocAttr,c1,hgt,wj1 (i:=i) omg]);(repeat'(first|((first|refine Jqa hF ?_|refine Jqa hC ?_);simp only[go_sem,simprocAttr,wj1 (i:=i) omg])|fail))
   all_goals exact ⟨(i+1,us ++ [(i,u)]),⟨by simp only;omega,by simp only;rw[<- hn];omega,by simp only;rw[Ea2];exact h3,h4⟩,by simp only;omega,Jqc⟩
 ·obtain rfl:i=l.length:=by omega
  have c1:((l.length:Int)<(l.length:Int))=False:=eq_false omg;rw[Eao (Eah _),Jr4,Eaw] at h3;rw[Eao (Eah _),Jus] at h4;rw[<- h3,<- h4];(refine lws ?_;simp only[go_sem,simprocAttr,c1])
  all_goals rfl
theorem Keg (f:RT) (w:Nat) (hE:J44 f w) (he:∀ v e,Jql f v=.error e->e=5\/e=6) (l:List Tree) (hl:∀ t∈l,okT t/\FitT t/\(t.enc []).length * w<=450000000000) (hll:l.length<=450000000000):Det cx 87 [.p (.sl (rowL (f.enc []))),.p (.sl (Jqd l)),.fn 88 [1000,1001,1002]] [(1000,.var 53 [.own 500003 0 0]),(1001,.var 61 [.p .snil]),(1002,.var 61 [.p .snil]),(500003,.row 25 1 (Jqd ((([]:List (Nat×Tree))).map (·.2))))] (.p (.int .i64 (Jus (Jql f) l))) [(1000,.var 53 [.own 500003 0 (Jr4 (Jql f) 0 l).length]),(1001,.var 61 [.p .snil]),(1002,.var 61 [.p .snil]),(500003,.row 25 1 (Jqd ((Jr4 (Jql f) 0 l).map (·.2))))]:=by
 (refine bgo func87 ?_;simp only[go_sem,simprocAttr,Jqf]);refine SWP.loop (fun x:Nat×List (Nat×Tree)=>⟨Ba 35 [(0,.p (.sl (rowL (f.enc [])))),(2,.fn 88 [1000,1001,1002]),(11,.p (.sl (Jqd l))),(12,.p (.int .i64 l.length)),(13,.p (.int .i64 x.1))],[(1000,.var 53 [.own 500003 0 x.2.length]),(1001,.var 61 [.p .snil]),(1002,.var 61 [.p .snil]),(500003,.row 25 1 (Jqd ((x.2).map (·.2))))]⟩) (fun x=>x.1<=l.length/\x.2.length<=x.1/\x.2 ++ Jr4 (Jql f) x.1 (l.drop x.1)=Jr4 (Jql f) 0 l/\Jus (Jql f) (l.drop x.1)=Jus (Jql f) l) (fun x=>l.length - x.1) (0,[]) Jqc ⟨Eau _,Eah _,rfl,rfl⟩ ?_;rintro ⟨i,us⟩ ⟨h1,h2,h3,h4⟩;simp only at h1 h2 h3 h4;by_cases hlt:i<l.length
 ·have c1:((i:Int)<(l.length:Int))=True:=eq_true omg;obtain ⟨t,ht⟩:∃ t,l[i]? = some t:=⟨_,Eaa hlt⟩
  obtain ⟨g1,g2,g3⟩:=hl t (Eag ht);have hF:=hE t g1 g2 g3;have hgt:=Jq5 ht;rw[Jwi (f:=Jql f) ht,Jr4] at h3;rw[Jwi (f:=Jql f) ht,Jus] at h4;cases hf:Jql f t with
  | error e =>
   rw[hf,getR] at hF;rw[hf] at h3 h4;simp only at h3 h4;rcases he t e hf with rfl | rfl
   ·rw[if_pos rfl,Eaw] at h3;rw[if_pos rfl] at h4;rw[<- h3,<- h4];(refine lws ?_;simp only[go_sem,simprocAttr,c1,hgt]);(repeat'(first|((refine Jqa hF ?_);simp only[go_sem,simprocAttr])|fail))
    all_goals rfl
   ·rw[if_neg de] at h3 h4;(refine lws ?_;simp only[go_sem,simprocAttr,c1,hgt,wj1 (i:=i) omg]);(repeat'(first|((refine Jqa hF ?_);simp only[go_sem,simprocAttr,wj1 (i:=i) omg])|fail))
    all_goals exact ⟨(i+1,us),⟨by simp only;omega,by simp only;omega,h3,h4⟩,by simp only;omega,Jqc⟩
  | ok u =>
   rw[hf,getR] at hF;rw[hf] at h3 h4;simp only at h3 h4;have hC:=Kg2 us i u omg;have hn:us.length+1=(us ++ [(i,u)]).length:=by simp
   rw[hn] at hC;(refine lws ?_;simp only[go_sem,simprocAttr,c1,hgt,wj1 (i:=i) omg]);(repeat'(first|((first|refine Jqa hF ?_|refine Jqa hC ?_);simp only[go_sem,simprocAttr,wj1 (i:=i) omg])|fail))
   all_goals exact ⟨(i+1,us ++ [(i,u)]),⟨by simp only;omega,by simp only;rw[<- hn];omega,by simp only;rw[Ea2];exact h3,h4⟩,by simp only;omega,Jqc⟩
 ·obtain rfl:i=l.length:=by omega
  have c1:((l.length:Int)<(l.length:Int))=False:=eq_false omg;rw[Eao (Eah _),Jr4,Eaw] at h3;rw[Eao (Eah _),Jus] at h4;rw[<- h3,<- h4];(refine lws ?_;simp only[go_sem,simprocAttr,c1])
  all_goals rfl
theorem J4m (f:RT) (w:Nat) (hE:J44 f w) (hw:1<=w) (he:∀ v e,Jql f v=.error e->e=5\/e=6) (hs:∀ t u,GT t->(t.enc []).length * w<=450000000000->Jql f t=.ok u->(u.enc []).length<=w * (t.enc []).length) (vals:Bool) (v:Tree) (hg:GT v) (hv:(v.enc []).length * w<=450000000000):Det cx 38 [.p (.sl (rowL (f.enc []))),.p (.sl (valL (v.enc []))),.p (.bool vals)] [] (getR (Jr7 (Jql f) vals v)) []:=by
 have hv1:(v.enc []).length<=(v.enc []).length * w:=Ecp _ hw;have hsz:=Jq1 v;have hsl:=Jrh (Jqe v);have hP:=Jwu v omg;have hkd:=Jtw hg;have hwl:w * Jqn (Jqe v)<=450000000000:=by
  have:=Ecc w (show Jqn (Jqe v)<=(v.enc []).length by omega);rw[Ecg w (v.enc []).length] at this;omega
 have hkl3:∀ t∈Jqe v,okT t/\FitT t/\(t.enc []).length * w<=450000000000:=fun t ht=>⟨(hkd t ht).1,(hkd t ht).2,by
  have:=Ea3 w (Jr0 ht);rw[Ecg (Jqn (Jqe v)) w] at this;omega⟩
 have hmE:=Jv1 (Jql f) (Jqe v) 0;have hps:=fun us=>Ju2 (f:=Jql f) (w:=w) (l:=Jqe v) (i:=0) (us:=us) (fun t ht u hu=>hs t u (hkd t ht) (hkl3 t ht).2.2 hu)
 have htl:=J47 (f:=Jql f) (l:=Jqe v) (i:=0);have hto:=J7m (f:=Jql f) (l:=Jqe v) (i:=0);obtain ⟨k,s,g,e,kids⟩:=v;have hgv:=Cc [] k s g e kids;have hkl:=Jqh kids;have h9:((Tree.mk k s g e kids).enc []).length=kids.enc.length+1:=by rw[A6,Ead]
 have hkt:Jqe (.mk k s g e kids)=kids.list.map (·.2):=rfl;have hktl:(Jqe (.mk k s g e kids)).length=kids.list.length:=by rw[hkt,Ea1]
 by_cases k56:k=5\/k=6
 ·have c5:(k<5)=False:=eq_false omg;have hme:Jr7 (Jql f) vals (.mk k s g e kids)=if vals=true/\k=6 then (match mapN (Jql f) kids.list with
   | .error e=>.error e
   | .ok l=>.ok (nd 6 l)) else match mapE (Jql f) (Jqe (.mk k s g e kids)) with
   | .error e=>.error e
   | .ok l=>.ok (listT l):=by unfold Jr7;exact if_pos k56
  have hmN:=Jx8 (Jql f) (kids.list.map (·.1)) kids.list 0 sm;rw[<- hkt] at hmN;rw[hme];rcases k56 with rfl | rfl
  ·have hN:=J2j 5 s g e kids de;have hG:=Keg f w hE he (Jqe (.mk 5 s g e kids)) hkl3 omg;cases hpe:Jqw (Jql f) 0 (Jqe (.mk 5 s g e kids)) with
   | error er =>
    rw[hpe] at hto hmE hmN;simp only at hto hmE hmN;have h5:=Juv hpe;subst h5;rw[hmE,hmN];simp only[ite_self];rw[getR];rw[hto] at hG;generalize valL ((Tree.mk 5 s g e kids).enc [])=V at *
    generalize Jr4 (Jql f) 0 (Jqe (.mk 5 s g e kids))=us at *
    generalize Jqe (.mk 5 s g e kids)=KK at *
    (refine Jvz false [] func38 ?_)
    (refine SWP.seq ?_);(refine lws ?_;simp only[go_sem,simprocAttr])
    (refine SWP.seq ?_);(refine lws ?_;simp only[go_sem,simprocAttr,hgv])
    (refine SWP.seq ?_);(refine lws ?_;simp only[go_sem,simprocAttr])
    (repeat'(first|((refine Jqa hN ?_);simp only[go_sem,simprocAttr])|fail))
    (refine SWP.seq ?_);(refine lws ?_;simp only[go_sem,simprocAttr])
    (refine SWP.seq ?_);(refine lws ?_;simp only[go_sem,simprocAttr])
    refine Jqg (Jq2 _ (b:=10) (j:=0) (d:=500) 25 1 (.inl de) (T':=53) (cs:=[.p .snil]) rfl rfl) ?_;simp only[St.nilCell,St.nilReg,Ms,go_sem,simprocAttr,hgv];refine Jqg (s':=⟨Ba 44 [(0,.p (.sl (rowL (f.enc [])))),(1,.p (.sl V)),(2,.p (.bool vals)),(8,.ptr 8 0 0),(9,.ptr 9 0 0),(10,.ptr 10 0 0)],[(10,.var 53 [.own 500 0 0]),(8,.var 61 [.p .snil]),(9,.var 61 [.p .snil]),(500,.row 25 1 [])]⟩) Jqc ?_;(refine lws ?_;simp only[go_sem,simprocAttr]);(repeat'(first|((first|refine Jqa hP ?_|refine Jqa hG ?_);simp only[go_sem,simprocAttr])|fail))
    all_goals rfl
   | ok us =>
    rw[hpe] at hto hmE;simp only at hto hmE;rw[if_neg sm,hmE,getR];rw[hto.1,hto.2] at hG;rw[hto.1] at htl;have hus:=hps us hpe;have hL:=Jtp (us.map (·.2)) omg;have ht2:(Jqd (us.map (·.2))).take us.length=Jqd (us.map (·.2)):=Eae sm;have hle:(us.length<=(Jqd (us.map (·.2))).length)=True:=eq_true sm;generalize valL ((Tree.mk 5 s g e kids).enc [])=V at *
    generalize Jqe (.mk 5 s g e kids)=KK at *
    generalize Jqd (us.map (·.2))=TU at *
    (refine Jvz false [] func38 ?_)
    (refine SWP.seq ?_);(refine lws ?_;simp only[go_sem,simprocAttr])
    (refine SWP.seq ?_);(refine lws ?_;simp only[go_sem,simprocAttr,hgv])
    (refine SWP.seq ?_);(refine lws ?_;simp only[go_sem,simprocAttr])
    (repeat'(first|((refine Jqa hN ?_);simp only[go_sem,simprocAttr])|fail))
    (refine SWP.seq ?_);(refine lws ?_;simp only[go_sem,simprocAttr])
    (refine SWP.seq ?_);(refine lws ?_;simp only[go_sem,simprocAttr])
    refine Jqg (Jq2 _ (b:=10) (j:=0) (d:=500) 25 1 (.inl de) (T':=53) (cs:=[.p .snil]) rfl rfl) ?_;simp only[St.nilCell,St.nilReg,Ms,go_sem,simprocAttr,hgv,ht2,hle,if_true];refine Jqg (s':=⟨Ba 44 [(0,.p (.sl (rowL (f.enc [])))),(1,.p (.sl V)),(2,.p (.bool vals)),(8,.ptr 8 0 0),(9,.ptr 9 0 0),(10,.ptr 10 0 0)],[(10,.var 53 [.own 500 0 0]),(8,.var 61 [.p .snil]),(9,.var 61 [.p .snil]),(500,.row 25 1 [])]⟩) Jqc ?_;(refine lws ?_;simp only[go_sem,simprocAttr]);(repeat'(first|(apply iteI<;>intro h)|((first|refine Jqa hP ?_|refine Jqa hG ?_|refine Jqa hL ?_);simp only[go_sem,simprocAttr,hgv,ht2,hle])|fail))
    all_goals rfl
  ·have hN:=J5c s g e kids omg;have hG:=Key kids.list f w hE he (Jqe (.mk 6 s g e kids)) hkl3 omg omg;cases hpe:Jqw (Jql f) 0 (Jqe (.mk 6 s g e kids)) with
   | error er =>
    rw[hpe] at hto hmE hmN;simp only at hto hmE hmN;have h5:=Juv hpe;subst h5;rw[hmE,hmN];simp only[ite_self];rw[getR];rw[hto] at hG;generalize valL ((Tree.mk 6 s g e kids).enc [])=V at *
    generalize Jr4 (Jql f) 0 (Jqe (.mk 6 s g e kids))=us at *
    generalize Jqe (.mk 6 s g e kids)=KK at *
    (refine Jvz false [] func38 ?_)
    (refine SWP.seq ?_);(refine lws ?_;simp only[go_sem,simprocAttr])
    (refine SWP.seq ?_);(refine lws ?_;simp only[go_sem,simprocAttr,hgv])
    (refine SWP.seq ?_);(refine lws ?_;simp only[go_sem,simprocAttr])
    (repeat'(first|((refine Jqa hN ?_);simp only[go_sem,simprocAttr])|fail))
    (refine SWP.seq ?_);(refine lws ?_;simp only[go_sem,simprocAttr])
    (refine SWP.seq ?_);(refine lws ?_;simp only[go_sem,simprocAttr])
    refine Jqg (Jq2 _ (b:=10) (j:=0) (d:=500) 25 1 (.inl de) (T':=53) (cs:=[.p .snil]) rfl rfl) ?_;simp only[St.nilCell,St.nilReg,Ms,go_sem,simprocAttr,hgv];refine Jqg (Jq2 _ (b:=9) (j:=0) (d:=501) 9 1 (.inl de) (T':=61) (cs:=[.p .snil]) rfl rfl) ?_;simp only[St.nilCell,St.nilReg,Ms,go_sem,simprocAttr,hgv];refine Jqg (s':=⟨Ba 44 [(0,.p (.sl (rowL (f.enc [])))),(1,.p (.sl V)),(2,.p (.bool vals)),(8,.ptr 8 0 0),(9,.ptr 9 0 0),(10,.ptr 10 0 0)],[(10,.var 53 [.own 500 0 0]),(8,.var 61 [.p (.sl (Bd kids.list))]),(9,.var 61 [.own 501 0 0]),(500,.row 25 1 []),(501,.row 9 1 [])]⟩) Jqc ?_;(refine lws ?_;simp only[go_sem,simprocAttr]);(repeat'(first|((first|refine Jqa hP ?_|refine Jqa hG ?_);simp only[go_sem,simprocAttr])|fail))
    all_goals rfl
   | ok us =>
    rw[hpe] at hto hmE hmN;simp only at hto hmE hmN;rw[hto.1,hto.2] at hG;rw[hto.1] at htl;have hus:=hps us hpe;have hL:=Jtp (us.map (·.2)) omg;have hlt:=Jvd hpe;have hlt2:∀ p∈us,p.1<kids.list.length:=fun p hp=>by
     have:=(hlt p hp).2;rw[hktl] at this;omega
    have hr:Rise kids.list:=(Lu.1 hg.1).2.1.2.2 rfl;have hrn:=J2c hr (Jv3 hpe) hlt2;have hnm:=J4y hlt2;have hvn:∀ p∈Jq9 (kids.list.map (·.1)) us,valid p.1=true/\p.1.length<=1000000:=fun p hp=>by
     obtain ⟨r,hr,e⟩:=hnm p hp;rw[e];exact ⟨(Jt9 hg hr).1,(Jt9 hg hr).2.1⟩
    have hO:=J3r (Jq9 (kids.list.map (·.1)) us) (by rw[Jsu,Jxg];omega) hvn hrn.nodup;rw[Jw0 hrn,Jst,Jxg] at hO;have hnl:(Jq9 (kids.list.map (·.1)) us).length=us.length:=by unfold Jq9;simp
    have ht2:(Jqd (us.map (·.2))).take us.length=Jqd (us.map (·.2)):=Eae sm;have hle:(us.length<=(Jqd (us.map (·.2))).length)=True:=eq_true sm;have ht3:(Bd (Jq9 (kids.list.map (·.1)) us)).take us.length=Bd (Jq9 (kids.list.map (·.1)) us):=Eae (by rw[A9,hnl];exact Eah _);have hle3:(us.length<=(Bd (Jq9 (kids.list.map (·.1)) us)).length)=True:=eq_true (by rw[A9,hnl];exact Eah _);rw[show (us.map fun p=>((kids.list.map (·.1)).getD p.1 [],p.2))=Jq9 (kids.list.map (·.1)) us from rfl] at hmN;generalize valL ((Tree.mk 6 s g e kids).enc [])=V at *
    generalize Jqe (.mk 6 s g e kids)=KK at *
    generalize Jqd (us.map (·.2))=TU at *
    generalize Bd (Jq9 (kids.list.map (·.1)) us)=NU at *
    cases vals with
    | true =>
     rw[if_pos ⟨rfl,rfl⟩,hmN,getR];(refine Jvz false [] func38 ?_)
     (refine SWP.seq ?_);(refine lws ?_;simp only[go_sem,simprocAttr])
     (refine SWP.seq ?_);(refine lws ?_;simp only[go_sem,simprocAttr,hgv])
     (refine SWP.seq ?_);(refine lws ?_;simp only[go_sem,simprocAttr])
     (repeat'(first|((refine Jqa hN ?_);simp only[go_sem,simprocAttr])|fail))
     (refine SWP.seq ?_);(refine lws ?_;simp only[go_sem,simprocAttr])
     (refine SWP.seq ?_);(refine lws ?_;simp only[go_sem,simprocAttr])
     refine Jqg (Jq2 _ (b:=10) (j:=0) (d:=500) 25 1 (.inl de) (T':=53) (cs:=[.p .snil]) rfl rfl) ?_;simp only[St.nilCell,St.nilReg,Ms,go_sem,simprocAttr,hgv,ht2,hle,ht3,hle3,if_true];refine Jqg (Jq2 _ (b:=9) (j:=0) (d:=501) 9 1 (.inl de) (T':=61) (cs:=[.p .snil]) rfl rfl) ?_;simp only[St.nilCell,St.nilReg,Ms,go_sem,simprocAttr,hgv,ht2,hle,ht3,hle3,if_true];refine Jqg (s':=⟨Ba 44 [(0,.p (.sl (rowL (f.enc [])))),(1,.p (.sl V)),(2,.p (.bool true)),(8,.ptr 8 0 0),(9,.ptr 9 0 0),(10,.ptr 10 0 0)],[(10,.var 53 [.own 500 0 0]),(8,.var 61 [.p (.sl (Bd kids.list))]),(9,.var 61 [.own 501 0 0]),(500,.row 25 1 []),(501,.row 9 1 [])]⟩) Jqc ?_;(refine lws ?_;simp only[go_sem,simprocAttr]);(repeat'(first|((first|refine Jqa hP ?_|refine Jqa hG ?_|refine Jqa hO ?_);simp only[go_sem,simprocAttr,hgv,ht2,hle,ht3,hle3])|fail))
     all_goals rfl
    | false =>
     rw[if_neg sm,hmE,getR];(refine Jvz false [] func38 ?_)
     (refine SWP.seq ?_);(refine lws ?_;simp only[go_sem,simprocAttr])
     (refine SWP.seq ?_);(refine lws ?_;simp only[go_sem,simprocAttr,hgv])
     (refine SWP.seq ?_);(refine lws ?_;simp only[go_sem,simprocAttr])
     (repeat'(first|((refine Jqa hN ?_);simp only[go_sem,simprocAttr])|fail))
     (refine SWP.seq ?_);(refine lws ?_;simp only[go_sem,simprocAttr])
     (refine SWP.seq ?_);(refine lws ?_;simp only[go_sem,simprocAttr])
     refine Jqg (Jq2 _ (b:=10) (j:=0) (d:=500) 25 1 (.inl de) (T':=53) (cs:=[.p .snil]) rfl rfl) ?_;simp only[St.nilCell,St.nilReg,Ms,go_sem,simprocAttr,hgv,ht2,hle,ht3,hle3,if_true];refine Jqg (Jq2 _ (b:=9) (j:=0) (d:=501) 9 1 (.inl de) (T':=61) (cs:=[.p .snil]) rfl rfl) ?_;simp only[St.nilCell,St.nilReg,Ms,go_sem,simprocAttr,hgv,ht2,hle,ht3,hle3,if_true];refine Jqg (s':=⟨Ba 44 [(0,.p (.sl (rowL (f.enc [])))),(1,.p (.sl V)),(2,.p (.bool false)),(8,.ptr 8 0 0),(9,.ptr 9 0 0),(10,.ptr 10 0 0)],[(10,.var 53 [.own 500 0 0]),(8,.var 61 [.p (.sl (Bd kids.list))]),(9,.var 61 [.own 501 0 0]),(500,.row 25 1 []),(501,.row 9 1 [])]⟩) Jqc ?_;(refine lws ?_;simp only[go_sem,simprocAttr]);(repeat'(first|((first|refine Jqa hP ?_|refine Jqa hG ?_|refine Jqa hL ?_);simp only[go_sem,simprocAttr,ht2,hle])|fail))
     all_goals rfl
 ·have hkk:=J1c hg.1;have c5:(k<5)=True:=eq_true omg;rw[show Jr7 (Jql f) vals (.mk k s g e kids)=.error 5 from if_neg k56,getR];generalize valL ((Tree.mk k s g e kids).enc [])=V at *
  (refine bgo func38 ?_;simp only[go_sem,simprocAttr,hgv,c5])
  all_goals rfl
def Jup (l:List RKT) (i:Nat):Nat:=1+((l.take i).flatMap fun q=>q.2.enc q.1).length
theorem J71 (l:List RKT):Jup l 0=1:=rfl
theorem J8i {l:List RKT} {i:Nat} {p:RKT} (h:l[i]? = some p):Jup l (i+1)=Jup l i+(p.2.enc []).length:=by
 unfold Jup;rw[Jry h,Ec6,Eac,Ec5,List.flatMap_nil,Eaw,Jvw p.2 p.1];omega
theorem Kb9 (l:List RKT) (i:Nat):Jup l i<=1+(l.flatMap fun q=>q.2.enc q.1).length:=by
 unfold Jup
 conv=>rhs;rw[<- Ebk i l,Ec6,Eac]
 omega
theorem Kd1 {op:Int} {s:List UInt8} {n:Int} {c:Node} {kids:RF} {i:Nat} {p:RKT} (h:kids.list[i]? = some p):∃ r:YRow,(rowL ((RT.mk op s n c kids).enc []))[Jup kids.list i]? = some [.int .i64 r.kind,.int .i64 r.many,.str p.1,.str r.s,.int .i64 r.n,.int .i64 r.c.kind,.int .i64 r.c.many,.str r.c.name,.str r.c.s,.bool r.c.neg,.int .i64 r.c.e]:=by
 obtain ⟨nm,k',s',g',e',kids'⟩:=p;refine ⟨⟨k',kids'.len,nm,s',g',e'⟩,Jzc (n:=⟨k',kids'.len,nm,s',g',e'⟩) ?_⟩;rw[Jqs];unfold Jup;rw[Ecw 1,List.getElem?_cons_succ];have e1:kids.enc=kids.list.flatMap fun q=>q.2.enc q.1:=by rw[<- Js7,Jt5]
 have e2:kids.list=kids.list.take i ++ (nm,.mk k' s' g' e' kids') :: kids.list.drop (i+1):=by
  obtain ⟨a,b⟩:=Eab.1 h
  conv=>lhs;rw[<- Ebk i kids.list,Eaz a,b]
 rw[e1]
 conv=>lhs;arg 1;rw[e2,Ec6,Ec5]
 rw[Ear (Eah _),Edr,Jqs];rfl
theorem Kd8 (op:Int) (s:List UInt8) (n:Int) (c:Node) (kids:RF) (hop:op=8\/op=9) (hq:Jsy op kids.list) (hl:kids.enc.length<=150000000000) (hnl:∀ p∈kids.list,p.1.length<=1000000) (hE:∀ p∈kids.list,J44 p.2 (wgt p.2)) (he:∀ p∈kids.list,∀ v e,Jql p.2 v=.error e->e=5\/e=6)
  (hs:∀ p∈kids.list,∀ t u,GT t->(t.enc []).length * wgt p.2<=450000000000->Jql p.2 t=.ok u->(u.enc []).length<=wgt p.2 * (t.enc []).length) (v:Tree) (hg:GT v) (hv:(v.enc []).length * (1+(kids.list.map fun p=>wgt p.2).sum)<=450000000000) :
  Det cx 40 [.p (.sl (rowL ((RT.mk op s n c kids).enc []))),.p (.sl (valL (v.enc [])))] [] (getR (Jrr (decide (op=8)) (kids.list.map (·.1)) (Jqp kids) v)) []:=by
 have hkl:=Jq4 kids;have hll:=Jq7 kids;have hP:=J1o [] op s n c kids omg;have hg0:(rowL ((RT.mk op s n c kids).enc []))[0]? = some [.int .i64 op,.int .i64 kids.len,.str [],.str s,.int .i64 n,.int .i64 c.kind,.int .i64 c.many,.str c.name,.str c.s,.bool c.neg,.int .i64 c.e]:=by rw[Jqs];rfl
 have hrow:=fun i p h=>Kd1 (op:=op) (s:=s) (n:=n) (c:=c) (kids:=kids) (i:=i) (p:=p) h
 have hpe:(kids.list.flatMap fun q=>q.2.enc q.1).length=kids.enc.length:=by rw[<- Js7,Jt5]
 have hple:=fun i=>Kb9 kids.list i
 rw[hpe] at hple;have hone:∀ p∈kids.list,(v.enc []).length * wgt p.2<=450000000000:=fun p hp=>by
  have h1:=Jsk (Eap.2 ⟨p,hp,rfl⟩:wgt p.2∈kids.list.map fun p=>wgt p.2);have:=Ecc (v.enc []).length (show wgt p.2<=1+(kids.list.map fun p=>wgt p.2).sum by omega);omega
 have hval:∀ us:List Tree,Jqn us<=(kids.list.map fun p=>wgt p.2).sum * (v.enc []).length->Jqn us<=450000000000:=fun us h=>by
  rw[Nat.mul_add,Ecg (v.enc []).length (List.sum _)] at hv;omega
 generalize hrr:rowL ((RT.mk op s n c kids).enc [])=rows at *
 have main:∀ obj:Bool,(obj=true ↔ op=8)->Det cx 40 [.p (.sl rows),.p (.sl (valL (v.enc [])))] [] (getR (Jrr obj (kids.list.map (·.1)) (Jqp kids) v)) []:=by
  intro obj hobj;(refine bgo func40 ?_;simp only[go_sem,simprocAttr]);(repeat'(first|((refine Jqa hP ?_);simp only[go_sem,simprocAttr,Jrg])|fail));refine Jqg (Jrw _ (i:=6) (d:=53) 9 1 (.inl de) rfl) ?_;simp only[St.nilOwn,St.nilReg,go_sem,simprocAttr,Jrg];refine Jqg (Jrw _ (i:=7) (d:=45) 25 1 (.inl de) rfl) ?_;simp only[St.nilOwn,St.nilReg,go_sem,simprocAttr,Jrg];refine SWP.loop (fun x:Nat×List Tree=>⟨Ba 71 [(0,.p (.sl rows)),(1,.p (.sl (valL (v.enc [])))),(6,.own 53 0 x.1),(7,.own 45 0 x.2.length),(8,.p (.int .i64 (Jup kids.list x.1))),(14,.p (.sl (Jrk kids.list))),(15,.p (.int .i64 kids.list.length)),(16,.p (.int .i64 x.1))],[(45,.row 25 1 (Jqd x.2)),(53,.row 9 1 (strL ((kids.list.take x.1).map (·.1))))]⟩) (fun x=>x.1<=kids.list.length/\x.2.length<=x.1/\(obj=true->x.2.length=x.1)/\Jqn x.2<=((kids.list.take x.1).map fun p=>wgt p.2).sum * (v.enc []).length/\Jrn obj v (Jqp kids)=preB x.2 (Jrn obj v ((Jqp kids).drop x.1))) (fun x=>kids.list.length - x.1) (0,[]) (by simp only[J71];exact Jqc) ⟨Eau _,Eah _,fun _=>rfl,Eau _,by rw[Ebn];cases Jrn obj v (Jqp kids)<;>rfl⟩ ?_;rintro ⟨i,us⟩ ⟨h1,h2,h3,h4,h5⟩;simp only at h1 h2 h3 h4 h5;by_cases hlt:i<kids.list.length
  ·have c1:((i:Int)<(kids.list.length:Int))=True:=eq_true omg;obtain ⟨p,hp⟩:∃ p,kids.list[i]? = some p:=⟨_,Eaa hlt⟩
   have hpm:=Eag hp;have hgp:=Jr8 hp;have hF:=hE p hpm v hg.1 hg.2 (hone p hpm);obtain ⟨r,hgr⟩:=hrow i p hp;have hps:=J8i hp;have hpb:=hple (i+1);have w2:IntKind.i64.wrap ((Jup kids.list i:Int)+((p.2.enc []).length:Int))=((Jup kids.list (i+1):Nat):Int):=by rw[Aa omg omg];omega
   have hnl1:(strL ((kids.list.take i).map (·.1))).length=i:=by rw[Jsx,Ea1,Eay];omega
   have hna:strL ((kids.list.take (i+1)).map (·.1))=strL ((kids.list.take i).map (·.1)) ++ [[.str p.1]]:=by rw[Jry hp,Ebm];simp[strL]
   have hd:(Jqp kids).drop i=Jql p.2 :: (Jqp kids).drop (i+1):=by
    have hi:(Jqp kids)[i]? = some (Jql p.2):=by rw[Jrs];simp[hp]
    obtain ⟨a,b⟩:=Eab.1 hi;rw[Eaz a,b]
   rw[hd] at h5;have hsum:((kids.list.take (i+1)).map fun p=>wgt p.2).sum=((kids.list.take i).map fun p=>wgt p.2).sum+wgt p.2:=by
    rw[Jry hp,Ebm,List.sum_append];simp
   cases hf:Jql p.2 v with
   | error er =>
    rw[hf,getR] at hF;rcases he p hpm v er hf with rfl | rfl
    ·rw[Ju1 hf (.inl rfl)] at h5;rw[show Jrr obj (kids.list.map (·.1)) (Jqp kids) v=.error 5 by unfold Jrr;rw[h5],getR];(refine lws ?_;simp only[go_sem,simprocAttr,c1,hgp]);(repeat'(first|((refine Jqa hF ?_);simp only[go_sem,simprocAttr])|fail))
     all_goals rfl
    ·cases obj with
     | true =>
      have o8:=hobj.1 rfl;have e8:=eq_true o8;rw[Ju1 hf (.inr rfl)] at h5;rw[show Jrr true (kids.list.map (·.1)) (Jqp kids) v=.error 6 by unfold Jrr;rw[h5],getR];(refine lws ?_;simp only[go_sem,simprocAttr,c1,hgp]);(repeat'(first|((refine Jqa hF ?_);simp only[go_sem,simprocAttr,hg0,e8])|fail))
      all_goals rfl
     | false =>
      have o8:¬ op=8:=fun h=>by have:=hobj.2 h;cases this
      have e8:=eq_false o8;rw[J0y hf omg] at h5;have hsum2:Jqn us<=((kids.list.take (i+1)).map fun p=>wgt p.2).sum * (v.enc []).length:=by rw[hsum,Ebl];omega
      (refine lws ?_;simp only[go_sem,simprocAttr,c1,hgp,wj1 (i:=i) omg]);(repeat'(first|(refine And.intro (by first|(simp;done)|(simp;omega)) ?_)|refine Jqj ?_|((refine Jqa hF ?_);simp only[go_sem,simprocAttr,hg0,hgr,e8,w2,hnl1,Jq0,wj1 (i:=i) omg])|fail))
      all_goals exact ⟨(i+1,us),⟨by simp only;omega,by simp only;omega,hsum2,h5⟩,by simp only;omega,by rw[hna];exact Jqc⟩
   | ok u =>
    rw[hf,getR] at hF;rw[J0u hf] at h5;have hus:=hs p hpm v u hg (hone p hpm) hf;have hsum2:Jqn (us ++ [u])<=((kids.list.take (i+1)).map fun p=>wgt p.2).sum * (v.enc []).length:=by
     rw[hsum,Ebl,Jtk,Jq8,J3y];omega
    have ha:Jqd us ++ [[.sl (valL (u.enc []))]]=Jqd (us ++ [u]):=(Jrl us [u]).symm;have hn:us.length+1=(us ++ [u]).length:=by simp
    (refine lws ?_;simp only[go_sem,simprocAttr,c1,hgp,wj1 (i:=i) omg]);(repeat'(first|(refine And.intro (by first|(simp;done)|(simp;omega)) ?_)|refine Jqj ?_|((refine Jqa hF ?_);simp only[go_sem,simprocAttr,hgr,ha,w2,hnl1,Jq0,Jqf,wj1 (i:=i) omg])|fail))
    all_goals exact ⟨(i+1,us ++ [u]),⟨by simp only;omega,by simp only;rw[<- hn];omega,fun h=>by simp only;rw[<- hn,h3 h],hsum2,h5⟩,by simp only;omega,by simp only;rw[<- hn,hna];exact Jqc⟩
  ·obtain rfl:i=kids.list.length:=by omega
   have c1:((kids.list.length:Int)<(kids.list.length:Int))=False:=eq_false omg;have hel:(Jqp kids).length=kids.list.length:=by rw[Jrs,Ea1]
   rw[Eao omg,Jrn,preB,Eaw] at h5;rw[Edc] at h4 ⊢;have hus:=hval us h4;have ht2:(Jqd us).take us.length=Jqd us:=Eae sm;have ht3:(strL (kids.list.map (·.1))).take kids.list.length=strL (kids.list.map (·.1)):=Eae (by rw[Jsx,Ea1];exact Eah _);have hl3:(kids.list.length<=(strL (kids.list.map (·.1))).length)=True:=eq_true (by rw[Jsx,Ea1];exact Eah _);have hl4:(us.length<=(Jqd us).length)=True:=eq_true sm;cases obj with
   | true =>
    have o8:=hobj.1 rfl;subst o8;have hul:=h3 rfl;rw[show Jrr true (kids.list.map (·.1)) (Jqp kids) v=.ok (nd 6 (Lp ((kids.list.map (·.1)).zip us))) by unfold Jrr;rw[h5];rfl,getR];have hz1:=J6j (a:=kids.list.map (·.1)) (b:=us) (by rw[Ea1];exact hul.symm);have hz2:=J57 (a:=kids.list.map (·.1)) (b:=us) (by rw[Ea1];exact hul.symm);have hzm:∀ q∈(kids.list.map (·.1)).zip us,∃ p∈kids.list,q.1=p.1:=fun q hq=>by
     have:q.1∈((kids.list.map (·.1)).zip us).map (·.1):=Eap.2 ⟨q,hq,rfl⟩;rw[hz1] at this;obtain ⟨p,hp,e⟩:=Eap.1 this;exact ⟨p,hp,e.symm⟩
    have hO:=J3r ((kids.list.map (·.1)).zip us) (by rw[Jsu,hz2];omega) (fun q hq'=>by
     obtain ⟨p,hp,e⟩:=hzm q hq';rw[e];exact ⟨(hq.1 p hp).2.2 rfl,hnl p hp⟩) (by rw[hz1];exact hq.2.2 rfl)
    rw[Jco,hz1,Jst,hz2] at hO;generalize nd 6 (Lp ((kids.list.map (·.1)).zip us))=res at *
    (refine lws ?_;simp only[go_sem,simprocAttr,c1,hg0,ht2,ht3,hl3,hl4]);(repeat'(first|((refine Jqa hO ?_);simp only[go_sem,simprocAttr])|fail))
   | false =>
    have o9:op=9:=by
     rcases hop with h | h
     ·have:=hobj.2 h;cases this
     ·exact h
    subst o9;have hL:=Jtp us omg;rw[show Jrr false (kids.list.map (·.1)) (Jqp kids) v=.ok (listT us) by unfold Jrr;rw[h5];rfl,getR];(refine lws ?_;simp only[go_sem,simprocAttr,c1,hg0,ht2,hl4]);(repeat'(first|((refine Jqa hL ?_);simp only[go_sem,simprocAttr])|fail))
 exact main (decide (op=8)) decide_eq_true_iff
theorem J1m:∀ (n:Nat) (f:RT),(f.enc []).length<=n->okQ f->¬ Jrm f.kind->FitQ f->(f.enc []).length<=150000000000->J44 f (wgt f)
 | 0,f,h,_,_,_,_=>by have:=Jsi f [];omega
 | n+1,.mk op s m c kids,hl,ok,hnc,hfq,hll=>by
  intro v okv hfv hv;obtain ⟨h1,h2,h3⟩:=Jwl.1 ok;have hnc:¬ Jrm op:=hnc;have hg:GT v:=⟨okv,hfv⟩
  rw[Jqs,Ead] at hl hll;have hpos:=Et v [];have hv1:(v.enc []).length<=(v.enc []).length * wgt (.mk op s m c kids):=Ecp _ (Jtj _);have hfs:s.length<=1000000:=(hfq ⟨op,kids.len,[],s,m,c⟩ (by rw[Jqs];exact Eaf)).s;have hg0:(rowL ((RT.mk op s m c kids).enc []))[0]? = some [.int .i64 op,.int .i64 kids.len,.str [],.str s,.int .i64 m,.int .i64 c.kind,.int .i64 c.many,.str c.name,.str c.s,.bool c.neg,.int .i64 c.e]:=by rw[Jqs];rfl
  have hkl:=Jq4 kids;have hkll:=Jq7 kids;have hT:=J1o [] op s m c kids omg;have hlen:∀ p∈kids.list,(p.2.enc []).length<=n/\(p.2.enc []).length<=150000000000:=fun p hp=>by
   have:=Jya hp;rw[Jvw p.2 p.1] at this;omega
  have hnk:∀ p∈kids.list,op≠7->¬ Jrm p.2.kind:=fun p hp o7 hc=>by
   rcases (h2.1 p hp).1.1 hc with hc | hc
   ·exact hnc hc
   ·exact o7 hc
  have hkid:∀ p∈kids.list,op≠7->J44 p.2 (wgt p.2):=fun p hp o7=>J1m n p.2 (hlen p hp).1 (Jsn.1 h3 p hp) (hnk p hp o7) (Jsj hfq hp).2 (hlen p hp).2
  have hgt:∀ p∈kids.list,op≠7->EvGT p.2:=fun p hp o7=>Jzj _ p.2 (Eah _) (Jsn.1 h3 p hp) (hnk p hp o7) (Jsj hfq hp).2
  have herr:∀ (p:RKT) (v:Tree) (e:Nat),Jql p.2 v=.error e->e=5\/e=6:=fun p v e=>Jy4 _ p.2 v e (Eah _)
  rw[J2d] at hv hv1;rw[Jww];by_cases o0:op=0
  ·subst o0;rw[show Jrv 0 s m (kids.list.map (·.1)) (Jqp kids) (Jrb kids) v=.ok v from rfl,getR];generalize rowL ((RT.mk 0 s m c kids).enc [])=rows at *
   (refine bgo func12 ?_;simp only[go_sem,simprocAttr,hg0]);(repeat'(first|((refine Jqa hT ?_);simp only[go_sem,simprocAttr])|fail))
  by_cases o1:op=1
  ·subst o1;have hst:Bc ⟨false,s,0⟩:=by
    have hvs:valid s=true:=by simp[Jqq] at h1;exact h1.2.2.2
    unfold Bc;rw[if_neg (show ¬ (false=true) by decide)];exact ⟨rfl,hvs⟩
   have hF:=Kbd ⟨false,s,0⟩ v hst okv omg;rw[show Jrv 1 s m (kids.list.map (·.1)) (Jqp kids) (Jrb kids) v=Jrc ⟨false,s,0⟩ v from rfl];rw[Jqz] at hF ⊢;generalize rowL ((RT.mk 1 s m c kids).enc [])=rows at *
   (refine bgo func12 ?_;simp only[go_sem,simprocAttr,hg0]);(repeat'(first|((first|refine Jqa hT ?_|refine Jqa hF ?_);simp only[go_sem,simprocAttr])|fail))
  by_cases o2:op=2
  ·subst o2;have hm0:0<=m:=by simp[Jqq] at h1;omega
   have hm1:m<=1000000:=by simp[Jqq] at h1;omega
   have hst:Bc ⟨true,[],m⟩:=by
    unfold Bc;rw[if_pos rfl];exact ⟨rfl,hm0,hm1⟩
   have hF:=Kbd ⟨true,[],m⟩ v hst okv omg;rw[show Jrv 2 s m (kids.list.map (·.1)) (Jqp kids) (Jrb kids) v=Jrc ⟨true,[],m⟩ v from rfl];rw[Jqz] at hF ⊢;generalize rowL ((RT.mk 2 s m c kids).enc [])=rows at *
   (refine bgo func12 ?_;simp only[go_sem,simprocAttr,hg0]);(repeat'(first|((first|refine Jqa hT ?_|refine Jqa hF ?_);simp only[go_sem,simprocAttr])|fail))
  by_cases o3:op=3
  ·subst o3;obtain ⟨j,rfl,hj⟩:∃ j:Nat,m=j/\j<=1000000:=by simp[Jqq] at h1;exact ⟨m.toNat,omg,omg⟩
   have hF:=Kg4 j v omg okv hfv omg;rw[show Jrv 3 s j (kids.list.map (·.1)) (Jqp kids) (Jrb kids) v=Jue (j:Int).toNat v from rfl,Int.toNat_natCast];rw[Jqz] at hF ⊢;generalize rowL ((RT.mk 3 s j c kids).enc [])=rows at *
   (refine bgo func12 ?_;simp only[go_sem,simprocAttr,hg0]);(repeat'(first|((first|refine Jqa hT ?_|refine Jqa hF ?_);simp only[go_sem,simprocAttr])|fail))
  by_cases o10:op=10
  ·subst o10;have hv:(v.enc []).length * 3<=450000000000:=hv;have hF:=J95 v okv omg;rw[show Jrv 10 s m (kids.list.map (·.1)) (Jqp kids) (Jrb kids) v=toE v from rfl];rw[Jqz] at hF ⊢;generalize rowL ((RT.mk 10 s m c kids).enc [])=rows at *
   (refine bgo func12 ?_;simp only[go_sem,simprocAttr,hg0]);(repeat'(first|((first|refine Jqa hT ?_|refine Jqa hF ?_);simp only[go_sem,simprocAttr])|fail))
  by_cases o11:op=11
  ·subst o11;have hv:(v.enc []).length * 3<=450000000000:=hv;have hF:=J5v v okv hfv omg;rw[show Jrv 11 s m (kids.list.map (·.1)) (Jqp kids) (Jrb kids) v=Jud v from rfl];rw[Jqz] at hF ⊢;generalize rowL ((RT.mk 11 s m c kids).enc [])=rows at *
   (refine bgo func12 ?_;simp only[go_sem,simprocAttr,hg0]);(repeat'(first|((first|refine Jqa hT ?_|refine Jqa hF ?_);simp only[go_sem,simprocAttr])|fail))
  by_cases o14:op=14
  ·subst o14;have hF:=J7v v okv hfv omg;rw[show Jrv 14 s m (kids.list.map (·.1)) (Jqp kids) (Jrb kids) v=revE v from rfl];rw[Jqz] at hF ⊢;generalize rowL ((RT.mk 14 s m c kids).enc [])=rows at *
   (refine bgo func12 ?_;simp only[go_sem,simprocAttr,hg0]);(repeat'(first|((first|refine Jqa hT ?_|refine Jqa hF ?_);simp only[go_sem,simprocAttr])|fail))
  by_cases o12:op=12
  ·subst o12;have hF:=J4j 12 kids.len [] s m c v (.inl rfl) hfs okv omg;rw[show decide ((12:Int)=12)=true from rfl] at hF;rw[show Jrv 12 s m (kids.list.map (·.1)) (Jqp kids) (Jrb kids) v=Jte true s v from rfl];rw[Jqz] at hF ⊢;generalize rowL ((RT.mk 12 s m c kids).enc [])=rows at *
   (refine bgo func12 ?_;simp only[go_sem,simprocAttr,hg0]);(repeat'(first|((first|refine Jqa hT ?_|refine Jqa hF ?_);simp only[go_sem,simprocAttr])|fail))
  by_cases o13:op=13
  ·subst o13;have hF:=J4j 13 kids.len [] s m c v (.inr rfl) hfs okv omg;rw[show decide ((13:Int)=12)=false from rfl] at hF;rw[show Jrv 13 s m (kids.list.map (·.1)) (Jqp kids) (Jrb kids) v=Jte false s v from rfl];rw[Jqz] at hF ⊢;generalize rowL ((RT.mk 13 s m c kids).enc [])=rows at *
   (refine bgo func12 ?_;simp only[go_sem,simprocAttr,hg0]);(repeat'(first|((first|refine Jqa hT ?_|refine Jqa hF ?_);simp only[go_sem,simprocAttr])|fail))
  by_cases o15:op=15
  ·subst o15;have hv:(v.enc []).length * 3<=450000000000:=hv;obtain ⟨hpl,hpo⟩:=Jvs s;have hpt:=Jz1 s hfs;have hF:=Jz5 (Je s).1 v omg hpo hg omg;rw[show Jrv 15 s m (kids.list.map (·.1)) (Jqp kids) (Jrb kids) v=delT (Je s).1 v from rfl];rw[Jqz] at hF ⊢;generalize rowL ((RT.mk 15 s m c kids).enc [])=rows at *
   generalize (Je s).1=P at *
   (refine bgo func12 ?_;simp only[go_sem,simprocAttr,hg0]);(repeat'(first|((first|refine Jqa hT ?_|refine Jqa hpt ?_|refine Jqa hF ?_);simp only[go_sem,simprocAttr])|fail))
  by_cases o8:op=8\/op=9
  ·have hF:=Kd8 op s m c kids o8 h2 omg (fun p hp=>(Jsj hfq hp).1) (fun p hp=>hkid p hp omg) (fun p hp=>herr p) (fun p hp t u ht hb hu=>(hgt p hp omg t u ht omg hu).2) v hg (by
    rcases o8 with rfl | rfl
    ·have hv:(v.enc []).length * (1+(wgtL kids).sum)<=450000000000:=hv;rw[Jsq] at hv;exact hv
    ·have hv:(v.enc []).length * (1+(wgtL kids).sum)<=450000000000:=hv;rw[Jsq] at hv;exact hv)
   rcases o8 with rfl | rfl
   ·rw[show Jrv 8 s m (kids.list.map (·.1)) (Jqp kids) (Jrb kids) v=Jrr (decide ((8:Int)=8)) (kids.list.map (·.1)) (Jqp kids) v from rfl];rw[Jqz] at hF ⊢;generalize rowL ((RT.mk 8 s m c kids).enc [])=rows at *
    (refine bgo func12 ?_;simp only[go_sem,simprocAttr,hg0]);(repeat'(first|((first|refine Jqa hT ?_|refine Jqa hF ?_);simp only[go_sem,simprocAttr])|fail))
   ·rw[show Jrv 9 s m (kids.list.map (·.1)) (Jqp kids) (Jrb kids) v=Jrr (decide ((9:Int)=8)) (kids.list.map (·.1)) (Jqp kids) v from rfl];rw[Jqz] at hF ⊢;generalize rowL ((RT.mk 9 s m c kids).enc [])=rows at *
    (refine bgo func12 ?_;simp only[go_sem,simprocAttr,hg0]);(repeat'(first|((first|refine Jqa hT ?_|refine Jqa hF ?_);simp only[go_sem,simprocAttr])|fail))
  have hop:op=4\/op=5\/op=6\/op=7:=by
   unfold Jrm at hnc;simp only[Jqq] at h1
   repeat' split at h1
   all_goals first|exact h1.elim | omega
  obtain ⟨p0,r0,hks⟩:∃ p0 r0,kids.list=p0 :: r0:=by
   have h1m:1<=kids.len:=by rcases hop with rfl | rfl | rfl | rfl<;>simp[Jqq] at h1<;>omega
   cases hk:kids.list with
   | nil=>rw[hk] at hkl;simp only[Ea8] at hkl;omega
   | cons a b=>exact ⟨a,b,rfl⟩
  have hm0:p0∈kids.list:=by rw[hks];exact Eaf
  have g0:(Jrk kids.list)[0]? = some [.sl (rowL (p0.2.enc []))]:=Jr8 (by rw[hks];rfl);rw[Jsq,hks] at hv;by_cases o5:op=5
  ·subst o5;have hv:(v.enc []).length * wgt p0.2<=450000000000:=hv;have hF:=J4m p0.2 (wgt p0.2) (hkid p0 hm0 de) (Jtj _) (herr p0) (fun t u ht hb hu=>(hgt p0 hm0 de t u ht omg hu).2) false v hg hv;rw[show Jrv 5 s m (kids.list.map (·.1)) (Jqp kids) (Jrb kids) v=Jr7 (Jql p0.2) false v by rw[Jrs,hks];rfl];rw[Jqz] at hF ⊢;generalize rowL ((RT.mk 5 s m c kids).enc [])=rows at *
   (refine bgo func12 ?_;simp only[go_sem,simprocAttr,hg0]);(repeat'(first|((first|refine Jqm ?_|refine Jqa hT ?_|refine Jqb hF ?_);simp only[go_sem,simprocAttr,g0])|fail))
  by_cases o6:op=6
  ·subst o6;have hv:(v.enc []).length * wgt p0.2<=450000000000:=hv;have hF:=J4m p0.2 (wgt p0.2) (hkid p0 hm0 de) (Jtj _) (herr p0) (fun t u ht hb hu=>(hgt p0 hm0 de t u ht omg hu).2) true v hg hv;rw[show Jrv 6 s m (kids.list.map (·.1)) (Jqp kids) (Jrb kids) v=Jr7 (Jql p0.2) true v by rw[Jrs,hks];rfl];rw[Jqz] at hF ⊢;generalize rowL ((RT.mk 6 s m c kids).enc [])=rows at *
   (refine bgo func12 ?_;simp only[go_sem,simprocAttr,hg0]);(repeat'(first|((first|refine Jqm ?_|refine Jqa hT ?_|refine Jqb hF ?_);simp only[go_sem,simprocAttr,g0])|fail))
  by_cases o7:op=7
  ·subst o7;have hc0:Jrm p0.2.kind:=(h2.1 p0 hm0).1.2 (.inr rfl);have hv:(v.enc []).length * 3<=450000000000:=hv;have hH:=J25 _ p0.2 (Eah _) (Jsn.1 h3 p0 hm0) hc0 (Jsj hfq hm0).2 (hlen p0 hm0).2 v hg omg;have hF:=Kdz p0.2 v hH;have hR:Jrv 7 s m (kids.list.map (·.1)) (Jqp kids) (Jrb kids) v=match Jrf p0.2 v with
    | .error e=>.error e
    | .ok b=>if b=true then .ok v else .error 6:=by
    rw[Jtr,hks];show (match Jrf p0.2 v with
     | .error e=>.error e
     | .ok b=>if b=true then .ok v else .error 6:Except Nat Tree)=_
    cases Jrf p0.2 v<;>rfl
   rw[hR];generalize rowL ((RT.mk 7 s m c kids).enc [])=rows at *
   rw[Jqz] at hF ⊢;(refine bgo func12 ?_;simp only[go_sem,simprocAttr,hg0]);(repeat'(first|((first|refine Jqa hT ?_|refine Jqa hF ?_);simp only[go_sem,simprocAttr,g0])|fail))
   all_goals exact ⟨rfl,rfl⟩
  ·obtain rfl:op=4:=by omega
   have h2l:kids.len=2:=by simp[Jqq] at h1;omega
   cases r0 with
   | nil=>rw[hks] at hkl;simp only[Ead,Ea8] at hkl;omega
   | cons p1 r1 =>
    have hm1:p1∈kids.list:=by rw[hks];exact Eai _ Eaf
    have g1:(Jrk kids.list)[1]? = some [.sl (rowL (p1.2.enc []))]:=Jr8 (by rw[hks];rfl);have hv:(v.enc []).length * (wgt p0.2 * wgt p1.2)<=450000000000:=hv;have w1:=Jtj p1.2;have hb0:(v.enc []).length * wgt p0.2<=450000000000:=by
     have:=Ecc (v.enc []).length (Ecp (wgt p0.2) w1);omega
    have I0:=hkid p0 hm0 de v okv hfv hb0;have hR:Jrv 4 s m (kids.list.map (·.1)) (Jqp kids) (Jrb kids) v=match Jql p0.2 v with
     | .error e=>.error e
     | .ok x=>Jql p1.2 x:=by
     rw[Jrs,hks];show (match Jql p0.2 v with
      | .error e=>.error e
      | .ok x=>Jql p1.2 x:Except Nat Tree)=_
     cases Jql p0.2 v<;>rfl
    rw[hR];cases hx:Jql p0.2 v with
    | error e =>
     rw[hx,getR] at I0;simp only[getR];generalize rowL ((RT.mk 4 s m c kids).enc [])=rows at *
     rcases herr p0 v e hx with rfl | rfl
     ·(refine bgo func12 ?_;simp only[go_sem,simprocAttr,hg0]);(repeat'(first|((first|refine Jqa hT ?_|refine Jqa I0 ?_);simp only[go_sem,simprocAttr,g0])|fail))
      all_goals rfl
     ·(refine bgo func12 ?_;simp only[go_sem,simprocAttr,hg0]);(repeat'(first|((first|refine Jqa hT ?_|refine Jqa I0 ?_);simp only[go_sem,simprocAttr,g0])|fail))
      all_goals rfl
    | ok x =>
     have hgx:=hgt p0 hm0 de v x hg omg hx;have hb1:(x.enc []).length * wgt p1.2<=450000000000:=by
      have:=Ea3 (wgt p1.2) hgx.2;rw[Ecg (wgt p0.2),Eb6] at this;omega
     have I1:=hkid p1 hm1 de x hgx.1.1 hgx.1.2 hb1;rw[hx,getR] at I0;simp only;rw[Jqz] at I1 ⊢;generalize rowL ((RT.mk 4 s m c kids).enc [])=rows at *
     (refine bgo func12 ?_;simp only[go_sem,simprocAttr,hg0]);(repeat'(first|((first|refine Jqa hT ?_|refine Jqa I0 ?_|refine Jqa I1 ?_);simp only[go_sem,simprocAttr,g0,g1])|fail))
def Kl0 (x y:YRow):Prop:=x.kind=y.kind/\x.many=y.many/\x.name=y.name/\x.s=y.s/\x.n=y.n/\x.c=y.c
theorem Klw {x y:YRow}:Kl0 x y ↔ x=y:=by
 obtain ⟨a1,a2,a3,a4,a5,a6⟩:=x;obtain ⟨b1,b2,b3,b4,b5,b6⟩:=y;unfold Kl0;constructor
 ·rintro ⟨h1,h2,h3,h4,h5,h6⟩;simp only at h1 h2 h3 h4 h5 h6;subst h1 h2 h3 h4 h5 h6;rfl
 ·rintro h;cases h;exact ⟨rfl,rfl,rfl,rfl,rfl,rfl⟩
instance (x y:YRow):Decidable (Kl0 x y):=inferInstanceAs (Decidable (_/\_))
instance:DecidableEq YRow:=fun x y=>decidable_of_iff _ (Klw (x:=x) (y:=y))
theorem Klo (y:YRow) (ls:List (List YRow)) (hl:ls.length<=10000) (hs:∀ i,i<=ls.length->(Kl4 [] ls i).length<=900000) (he:∀ v∈ls,v.length<=900000):Det cx 15 [.p (.agg [.int .i64 y.kind,.int .i64 y.many,.str y.name,.str y.s,.int .i64 y.n,.int .i64 y.c.kind,.int .i64 y.c.many,.str y.c.name,.str y.c.s,.bool y.c.neg,.int .i64 y.c.e]),.p .snil,.p (.sl (Kk6 ls))] [] (.p (.sl (rowL (Klu y [] ls)))) []:=by
 generalize hhd:(⟨y.kind,ls.length,y.name,y.s,y.n,y.c⟩:YRow)=hd;have hst:rowL (hd :: Kl4 [] ls 0)=[[.int .i64 y.kind,.int .i64 ls.length,.str y.name,.str y.s,.int .i64 y.n,.int .i64 y.c.kind,.int .i64 y.c.many,.str y.c.name,.str y.c.s,.bool y.c.neg,.int .i64 y.c.e]]:=by rw[<- hhd];rfl
 have hst0:(Kl4 [] ls 0).length=0:=rfl;have hmd:Klu y [] ls=hd :: Kl4 [] ls ls.length:=by rw[<- hhd];rfl
 rw[hmd];(refine bgo func15 ?_;simp only[go_sem,simprocAttr,Kmb]);refine SWP.loop (fun i:Nat=>⟨Ba 47 [(1,.p .snil),(2,.p (.sl (Kk6 ls))),(7,.own 15 0 ((Kl4 [] ls i).length+1)),(8,.p (.int .i64 i))],[(15,.row 38 11 (rowL (hd :: Kl4 [] ls i)))]⟩) (fun i=>i<=ls.length) (fun i=>ls.length - i) 0 (by rw[hst,hst0];exact Jqc) (Eau _) ?_;rintro i hi;have hln:=hs i hi;have hpl:(rowL (hd :: Kl4 [] ls i)).length=(Kl4 [] ls i).length+1:=by rw[Jq0];rfl
 have hle0:((Kl4 [] ls i).length+1<=(Kl4 [] ls i).length+1)=True:=eq_true (Eah _);by_cases hlt:i<ls.length
 ·have c1:((i:Int)<(ls.length:Int))=True:=eq_true omg;obtain ⟨v,hq⟩:∃ v,ls[i]? = some v:=⟨_,Eaa hlt⟩
  have hg:=Klp hq;have hv:=he v (Eag hq);have w1:IntKind.i64.wrap ((i:Int)+1)=((i+1:Nat):Int):=by rw[Aa omg omg];omega
  have c0:((i:Int)<0)=False:=eq_false omg;have hstep:Kl4 [] ls (i+1)=Kl4 [] ls i ++ v:=by
   rw[Kl4,Klm,if_neg sm];simp[Eaj,hq]
  have e1:rowL (hd :: (Kl4 [] ls i ++ v))=rowL (hd :: Kl4 [] ls i) ++ rowL v:=by rw[<- Kei];rfl
  have e2:(Kl4 [] ls i ++ v).length+1=(Kl4 [] ls i).length+1+v.length:=by rw[Eac];omega
  (refine lws ?_;simp only[go_sem,simprocAttr,Kmb,c1,hg,hpl,w1,Jq0]);(repeat'(first|(refine And.intro (by first|(simp;done)|(simp;omega)|(intro q hq;exact J1h _ q hq)) ?_)|refine Jqj ?_|fail));refine ⟨i+1,omg,omg,?_⟩;refine (B1 [(29,15)] _ sm).trans ?_;simp only[go_sem,simprocAttr];rw[hstep,e1,e2];exact Jqc
 ·have hil:i=ls.length:=by omega
  subst hil;have c1:((ls.length:Int)<(ls.length:Int))=False:=eq_false omg;have htk:(rowL (hd :: Kl4 [] ls ls.length)).take ((Kl4 [] ls ls.length).length+1)=rowL (hd :: Kl4 [] ls ls.length):=Eae (by rw[hpl];exact Eah _);(refine lws ?_;simp only[go_sem,simprocAttr,Kmb,c1,hpl,hle0,htk])
  skip
end Go.LX
