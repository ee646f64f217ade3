/- Paths: numbers of parts, as both read them. -/
import Derived.Test.YtaghbedfogiopaaGreatDoorTxH
import Derived.Lib.Overlaps
set_option linter.all false
set_option maxRecDepth 100000
set_option maxHeartbeats 2000000
namespace Go.LX
open Go Go.RowKit Go.Proofs Go.Proofs.Tryz
variable (m n:Nat){t:BM}{u s name:List UInt8}{e k:Int}{r fw:List (List L)}{j i d By b:Nat}{x:CD}{p:List UInt8×BM}{g:Bool}{BL:BO}(nm a:List UInt8){T:TypeId}{es fv:List (List PV)}{f:FuncId}{X:Cx}{rs:BX}{args:List L}{K:L->Prop}{D:List Bool}{v:List Node}
section
attribute [local irreducible] Al Bi CL
def Fv:Lib.decDigits m=if m<10 then [UInt8.ofNat (48+m)]else Lib.decDigits (m/10)++[UInt8.ofNat (48+m%10)]:=by
 rw[Lib.decDigits];split<;>rfl
def Qj{m:Nat}(h:m<10):(UInt8.ofNat (48+m)).toNat=48+m:=by
 rw[UInt8.toNat_ofNat'];omega
def ä:∀m:Nat,∀c∈Lib.decDigits m,GV c.toNat:=by
 intro m
 induction m using Nat.strongRecOn with
 |_ m ih =>
  intro c hc;rw[Fv]at hc;split at hc
  ·rw[KI]at hc;subst hc;rw[Qj AN];unfold GV;omega
  ·rcases H'.1 hc with hc|hc
   ·exact ih (m/10) omg c hc
   ·rw[KI]at hc;subst hc;rw[Qj omg];unfold GV;omega
def Xc:∀m:Nat,HT (Lib.decDigits m)=m:=by
 intro m
 induction m using Nat.strongRecOn with
 |_ m ih =>
  rw[Fv];split
  ·show 0*10+((UInt8.ofNat (48+m)).toNat-48)=m;rw[Qj AN];omega
  ·rw[Zl,ih (m/10) omg,Qj omg];omega
def U6:Lib.decDigits m≠[]:=by
 rw[Fv];split<;>simp
def xh:∀m:Nat,∀c r,Lib.decDigits m=c::r->c.toNat=48->r=[]/\m=0:=by
 intro m
 induction m using Nat.strongRecOn with
 |_ m ih =>
  intro c r h hc;rw[Fv]at h;split at h
  ·cases h;rw[Qj AN]at hc;exact⟨rfl,omg⟩
  ·cases hd:Lib.decDigits (m/10)with
   |nil=>exact absurd hd (U6 _)
   |cons d q =>
    rw[hd]at h;cases h;have:=(ih (m/10) omg _ _ hd hc).2;omega
def Sa:∀(n:Nat) (t:List UInt8),t.length=n+1->(∀c∈t,GV c.toNat)->(n=0\/BS t 0≠48)->Lib.decDigits (HT t)=t/\(BS t 0≠48->0<HT t)
 |0,t,hl,hd,_=>by
  match t,hl with
  |[c],_ =>
   have hc:=hd c sm;unfold GV at hc;have e:HT [c]=c.toNat-48:=by show 0*10+(c.toNat-48)=_;omega
   rw[e,Fv,AB omg];refine⟨?_,fun h=>?_⟩
   ·congr 1;apply UInt8.toNat_inj.1;rw[Qj omg];omega
   ·have:BS [c] 0=c.toNat:=rfl;omega
 |n+1,t,hl,hd,h0=>by
  have DA:t≠[]:=fun e=>by subst e;simp at hl
  have ht:=nG DA;have TM:t.dropLast.length=n+1:=by rw[List.length_dropLast];omega
  have dr:BS t.dropLast 0=BS t 0:=by
   rw[<-ht];have:0<t.dropLast.length:=omg;simp only[BS,GU,List.dropLast_concat];rw[NZ this]
  have h1:=Sa n t.dropLast TM (fun c hc=>hd c (List.dropLast_subset _ hc)) (.inr (by rw[dr];omega));rw[dr]at h1;have h2:=h1.2 omg;have h3:=hd _ (List.getLast_mem DA);unfold GV at h3;have hv:HT t=HT t.dropLast*10+((t.getLast DA).toNat-48):=by
   conv=>lhs;rw[<-ht]
   rw[Zl]
  refine⟨?_,fun _=>by omega⟩;rw[Fv,AA omg];have e1:HT t/10=HT t.dropLast:=omg;have e2:UInt8.ofNat (48+HT t%10)=t.getLast DA:=by
   apply UInt8.toNat_inj.1;rw[Qj omg];omega
  rw[e1,e2,h1.1,ht]
def Pj:∀(l:List UInt8) (a:Nat),(∀c∈l,GV c.toNat)->Lib.decFrom a l=some (l.foldl (fun a c=>a*10+(c.toNat-48)) a)
 |[],a,_=>rfl
 |c::r,a,h=>by
  have hc:=h c DQ;unfold GV at hc;rw[Lib.decFrom,Lib.digitVal,AB hc];exact Pj r _ fun d hd=>h d (EW _ hd)
def Jbw{t:List UInt8}(DA:t≠[])(hl:t.length<=7)(hd:∀c∈t,GV c.toNat):Lib.atoiAll t=.ok (HT t:Int):=by
 rw[Lib.atoiAll_short t omg];cases t with
 |nil=>exact absurd rfl DA
 |cons c r =>
  have hc:=hd c DQ;unfold GV at hc;have h45:¬(c==45)=true:=fun h=>by have:=beq_iff_eq.1 h;subst this;simp at hc
  have h43:¬(c==43)=true:=fun h=>by have:=beq_iff_eq.1 h;subst this;simp at hc
  rw[Lib.atoi,AA h45,AA h43,Lib.decNat,AA sm,Pj _ _ hd];rfl
def Jkf:∀(T BR:List UInt8) (k:Nat),(∀c∈T,GV c.toNat)->T.length<=k->(∀c q,BR=c::q->¬GV c.toNat)->HA k (T++BR)=T
 |[],BR,k,_,_,h=>by
  cases k with
  |zero=>rfl
  |succ k=>cases BR with
   |nil=>rfl
   |cons c q=>rw[List.nil_append,HA,AA (h c q rfl)]
 |c::T,BR,k,hd,hl,h=>by
  cases k with
  |zero=>simp at hl
  |succ k =>
   rw[PQ,HA,AB (hd c DQ),Jkf T BR k (fun d hm=>hd d (EW _ hm)) (by simp at hl;omega) h]
def tQ{e:Nat}(h:u[e]?=some 93)(hb:∀j,j<e->u[j]?≠some 93):eI u=e:=by
 have av:=Lib.indexByte_ge u ((93:Int).toNat.toUInt8);have hc:(93:Int).toNat.toUInt8=93:=rfl;by_cases BZ:eI u<0
 ·have:Lib.indexByte u ((93:Int).toNat.toUInt8) = -1:=by unfold eI at BZ;omega
  exact absurd h (Lib.indexByte_none this e)
 ·obtain⟨o,ho⟩:∃o:Nat,eI u=o:=⟨(eI u).toNat,omg⟩
  obtain⟨h1,h2⟩:=Lib.indexByte_some (show Lib.indexByte u ((93:Int).toNat.toUInt8)=o from ho);rw[hc]at h1 h2;rw[ho];rcases nP o e with hl|hl|hl
  ·exact absurd h1 (hb o hl)
  ·omega
  ·exact absurd h (h2 e hl)
def Jle{r:List UInt8}(h0:HA 7 r≠[])(h1:¬(BS r 0=48/\1<(HA 7 r).length))(h2:HT (HA 7 r)<=1000000)(h3:r[(HA 7 r).length]?=some 93) :
  Ce (91::r)=(⟨true,[],(HT (HA 7 r):Nat)⟩,(HA 7 r).length+2):=by
 have hl:=xg 7 r;have hp:=ã 7 r;have GI:=â 7 r;generalize HA 7 r=t at *
 have BZ:0<t.length:=VN.2 h0;have he:eI (91::r)=((t.length+1:Nat):Int):=by
  refine tQ (by simpa using h3) fun j hj sQ=>?_
  cases j with
  |zero=>simp at sQ
  |succ j =>
   rw[List.getElem?_cons_succ]at sQ;have n8:t[j]?=some 93:=by rw[hp,oY omg];exact sQ
   have:=GI 93 (D4 n8);unfold GV at this;simp at this
 have hT:pT (91::r)=t:=by
  unfold pT;rw[he,cg,OB];rw[show((t.length+1:Nat):Int).toNat-1=t.length by omega];exact hp.symm
 have dr:BS t 0=BS r 0:=by
  rw[hp];simp only[BS,GU];rw[oY omg]
 have lY:=Sa (t.length-1) t omg GI (by rw[dr];omega);unfold Ce;rw[AB ⟨rfl,omg,omg⟩,hT,Jbw h0 hl.1 GI];simp only;rw[AB ⟨omg,omg,by rw[Lib.itoa_nonneg,lY.1]⟩,he];rfl
def å{r:List UInt8}(h:(Ce (91::r)).2≠0):HA 7 r≠[]/\¬(BS r 0=48/\1<(HA 7 r).length)/\HT (HA 7 r)<=1000000/\r[(HA 7 r).length]?=some 93:=by
 unfold Ce at h;split at h
 case isFalse=>exact absurd rfl h
 rename_i hc;obtain⟨-,Pp,WH⟩:=hc;obtain⟨e,he⟩:∃e:Nat,eI (91::r)=e:=⟨(eI (91::r)).toNat,omg⟩
 have BZ:=tM he;have fq:=(Lib.indexByte_some (show Lib.indexByte (91::r) ((93:Int).toNat.toUInt8)=e from he)).1;rw[show(93:Int).toNat.toUInt8=93 from rfl]at fq;obtain⟨k,rfl⟩:∃k,e=k+1:=⟨e-1,omg⟩
 rw[List.getElem?_cons_succ]at fq;have hT:pT (91::r)=r.take k:=by
  unfold pT;rw[he,cg,OB];rw[show((k+1:Nat):Int).toNat-1=k by omega]
 rw[hT]at h;split at h
 case h_2=>exact absurd rfl h
 rename_i n _;split at h
 case isFalse=>exact absurd rfl h
 rename_i hn;obtain⟨SA,PW,S8⟩:=hn;obtain⟨m,rfl⟩:∃m:Nat,n=m:=⟨n.toNat,omg⟩
 rw[Lib.itoa_nonneg]at S8;have DV:k<r.length:=(DX.1 fq).1;have CY:(Lib.decDigits m).length=k:=by rw[S8,GF];omega
 have DE:HA 7 r=Lib.decDigits m:=by
  have:=Jkf (Lib.decDigits m) (r.drop k) 7 (ä m) omg (fun c q hcq=>by
   rw[Mx DV]at hcq;cases hcq;have:=(DX.1 fq).2;rw[this];unfold GV;simp)
  rw[S8,PO]at this;rw[this,S8]
 rw[DE,CY,Xc];refine⟨U6 m,fun⟨g1,g2⟩=>?_,omg,fq⟩;cases hd:Lib.decDigits m with
 |nil=>exact U6 m hd
 |cons c q =>
  have nj:BS r 0=c.toNat:=by
   have:(r.take k)[0]?=some c:=by rw[<-S8,hd];rfl
   rw[oY omg]at this;exact cG this
  have:=(xh m c q hd omg).1;subst this;rw[hd]at CY;simp at CY;omega
def æ(h:(Ce u).2=0):Ce u=(Dv,0):=by
 unfold Ce at h⊢;by_cases c:u.take 1=[91]/\2<=eI u/\eI u<=8
 ·rw[AB c]at h⊢;cases ha:Lib.atoiAll (pT u)with
  |ok n =>
   rw[ha]at h;simp only at h⊢;by_cases d:0<=n/\n<=1000000/\Lib.itoa n=pT u
   ·rw[AB d]at h;cases h
   ·rw[AA d]
  |range=>rfl
  |_=>rfl
 ·rw[AA c]
def XB(s:List UInt8)(i:Nat):CD×Nat:=
 if i<s.length/\BS s i=91 then
  if 0<=(GD s (i+1)).1/\(GD s (i+1)).2<s.length/\BS s (GD s (i+1)).2=93 then(⟨true,[],(GD s (i+1)).1⟩,(GD s (i+1)).2+1-i)else(Dv,0)
 else(Dv,0)
def Ka0(s:List UInt8)(i:Nat):XB s i=Ce (s.drop i):=by
 unfold XB;by_cases hi:i<s.length/\BS s i=91
 ·rw[AB hi];obtain⟨hl,ha⟩:=hi;have hd:=Mx hl;have tT:s[i]=91:=UInt8.toNat_inj.1 (by rw[<-cG (C' hl),ha];rfl);rw[tT]at hd;rw[hd];have dr:BS (s.drop (i+1)) 0=BS s (i+1):=Ko s (i+1) 0;have hr:(s.drop (i+1))[(HA 7 (s.drop (i+1))).length]?=s[i+1+(HA 7 (s.drop (i+1))).length]?:=cm;have fq:∀j,(j<s.length/\BS s j=93)↔s[j]?=some 93:=fun j=>by
   constructor
   ·rintro⟨h1,h2⟩;rw[C' h1];congr 1;exact UInt8.toNat_inj.1 (by rw[<-cG (C' h1),h2];rfl)
   ·intro h;exact⟨(DX.1 h).1,cG h⟩
  by_cases hf:HA 7 (s.drop (i+1))≠[]/\¬(BS (s.drop (i+1)) 0=48/\1<(HA 7 (s.drop (i+1))).length)/\HT (HA 7 (s.drop (i+1)))<=1000000
  ·have RL:(HA 7 (s.drop (i+1))).length≠0:=fun h=>hf.1 (KH h)
   have e:GD s (i+1)=(((HT (HA 7 (s.drop (i+1))):Nat):Int),i+1+(HA 7 (s.drop (i+1))).length):=by
    unfold GD;rw[AA];rintro(h|h|h)
    ·exact RL h
    ·exact hf.2.1 (by rw[dr];exact h)
    ·omega
   rw[e];simp only;by_cases hb:s[i+1+(HA 7 (s.drop (i+1))).length]?=some 93
   ·rw[AB ⟨omg,(fq _).2 hb⟩,Jle hf.1 hf.2.1 hf.2.2 (by rw[hr];exact hb)];congr 1;omega
   ·rw[AA (fun h=>hb ((fq _).1 h.2))];refine(æ (aJ fun h=>hb ?_)).symm;rw[<-hr];exact(å h).2.2.2
  ·have e:GD s (i+1)=(-1,i+1):=by
    unfold GD;rw[AB];apply aJ;intro h;refine hf ⟨fun h'=>h (.inl (by rw[h'];rfl)),fun h'=>h (.inr (.inl (by rw[<-dr];exact h'))),?_⟩;omega
   rw[e];rw[AA (fun h=>by have:=h.1;simp only at this;omega)];refine(æ (aJ fun h=>hf ?_)).symm;have:=å h;exact⟨this.1,this.2.1,this.2.2.1⟩
 ·rw[AA hi];unfold Ce;rw[AA];rintro⟨h,-⟩;have hl:i<s.length:=by
   apply aJ;intro hn;rw[JD omg]at h;cases h
  rw[Mx hl,XQ,QN]at h;have:s[i]=91:=by simpa using h
  exact hi ⟨hl,by rw[cG (C' hl),this];rfl⟩
def H3(s:List UInt8)(j:Nat):Prop:=PJ (BS s j)\/(0<j/\PK (BS s j))
instance (s:List UInt8) (j:Nat):Decidable (H3 s j):=inferInstanceAs (Decidable (_\/_))
def Wt(s:List UInt8):∀f i,i<=s.length->s.length+1<=i+f->(∀j,i<=j->j<wF s f i->H3 s j)/\(wF s f i<s.length->¬H3 s (wF s f i))
 |0,i,h,h2=>by omega
 |f+1,i,h,h2=>by
  rw[wF];split
  ·rename_i hc;obtain⟨g1,g2⟩:=Wt s f (i+1) omg omg;refine⟨fun j h3 h4=>?_,g2⟩;by_cases hj:j=i
   ·subst hj;exact hc.2
   ·exact g1 j omg h4
  ·rename_i hc;exact⟨fun j h3 h4=>by omega,fun hl hg=>hc ⟨hl,hg⟩⟩
def Sh(h:j<Dm s):H3 s j:=(Wt s (s.length+1) 0 (EK _) omg).1 j (EK _) h
def ç(h:Dm s<s.length):¬H3 s (Dm s):=(Wt s (s.length+1) 0 (EK _) omg).2 h
def Kav{m:Nat}(h:j<m):BS (s.take m) j=BS s j:=by
 simp only[BS,GU];rw[oY h]
def è(hj:j<u.length)(hw:j<=Dm u):JW (u.take (j+1))↔j<Dm u:=by
 have hl:(u.take (j+1)).length=j+1:=by rw[GF];omega
 have DO:=P3 (u.take (j+1));have DA:u.take (j+1)≠[]:=fun e=>by rw[e]at hl;simp at hl
 have QX:∀x,x<j+1->(H3 (u.take (j+1)) x↔H3 u x):=fun x hx=>by unfold H3;rw[Kav hx]
 constructor
 ·rintro⟨_,h⟩;rw[hl]at h;have h1:=(QX j omg).1 (Sh omg);apply aJ;intro hn;have e:Dm u=j:=omg;exact ç (s:=u) omg (by rw[e];exact h1)
 ·intro h;refine⟨DA,?_⟩;apply aJ;intro hn;have BZ:Dm (u.take (j+1))<j+1:=omg;exact ç (s:=u.take (j+1)) omg ((QX _ BZ).2 (Sh omg))
def RP(s:List UInt8)(i:Nat)(first:Bool):CD×Nat:=
 if(Bw (s.drop i)).2≠0 then Bw (s.drop i)
 else if first=true then(if(i<s.length/\BS s i=46)/\(XB s (i+1)).2≠0 then((XB s (i+1)).1,(XB s (i+1)).2+1)else(Dv,0))
 else if i<s.length/\BS s i=46 then(Dv,0)else XB s i
def tU:(s.drop i).take 1=[46]↔(i<s.length/\BS s i=46):=by
 constructor
 ·intro h;have hl:i<s.length:=by
   apply aJ;intro hn;rw[JD omg]at h;cases h
  rw[Mx hl,XQ,QN]at h;have:s[i]=46:=by simpa using h
  exact⟨hl,by rw[cG (C' hl),this];rfl⟩
 ·rintro⟨hl,ha⟩;rw[Mx hl,XQ,QN];congr 1;exact UInt8.toNat_inj.1 (by rw[<-cG (C' hl),ha];rfl)
def é(h:i<=s.length):i<=(GD s i).2/\(GD s i).2<=s.length/\(GD s i).1<=1000000/\-1<=(GD s i).1:=by
 have:=(xg 7 (s.drop i)).2;rw[KO]at this;unfold GD;split
 ·exact⟨CS _,h,by simp,by simp⟩
 ·simp only;omega
def J8q(h:¬(i<s.length/\BS s i=91/\0<=(GD s (i+1)).1/\(GD s (i+1)).2<s.length/\BS s (GD s (i+1)).2=93)):XB s i=(Dv,0):=by
 unfold XB;by_cases h1:i<s.length/\BS s i=91
 ·rw[AB h1,AA (fun h2=>h ⟨h1.1,h1.2,h2⟩)]
 ·rw[AA h1]
def J4s(h:i<s.length/\BS s i=91/\0<=(GD s (i+1)).1/\(GD s (i+1)).2<s.length/\BS s (GD s (i+1)).2=93):XB s i=(⟨true,[],(GD s (i+1)).1⟩,(GD s (i+1)).2+1-i):=by
 unfold XB;rw[AB ⟨h.1,h.2.1⟩,AB h.2.2]
def J6n(s:List UInt8)(i:Nat)(first:Bool)(hs:s.length<=1000000)(hi:i<=s.length)(hd:¬(i<s.length/\BS s i=46)):CA cx 192 [.p (.str s),.p (.int .i64 i),.p (.bool first)] [] (.tup [.agg (RP s i first).1.cells,.int .i64 (i+(RP s i first).2:Nat)]) []:=by
 have hf:(Bw (s.drop i)).2=0:=by unfold Bw;rw[AA (fun h=>hd (tU.1 h))]
 have e:RP s i first=if first=true then(Dv,0)else XB s i:=by
  unfold RP;rw[AA omg,AA (c:=(i<s.length/\BS s i=46)/\_) (fun h=>hd h.1),AA hd]
 rw[e];cases first
 ·rw[AA sm];(refine CK func192 ?_;simp only[go_sem,simprocAttr,HL (i:=i) omg]);(repeat'(first|(apply BY<;>intro h)|refine EA ?_|((refine BU (J4v s (i+1) hs omg) ?_);simp only[go_sem,simprocAttr,HL (i:=i) omg])|(exfalso;omega)))
  all_goals first
   |(rw[J8q omg];exact⟨rfl,rfl⟩)
   |(
    have hl:=é (s:=s) (i:=i+1) omg;rw[J4s omg,Aa omg omg];refine⟨rfl,?_⟩;simp only;omega)
 ·(refine CK func192 ?_;simp only[go_sem,simprocAttr,HL (i:=i) omg]);(repeat'(first|(apply BY<;>intro h)|refine EA ?_|(exfalso;omega)))
  all_goals exact⟨rfl,rfl⟩
def J9k(s:List UInt8)(i:Nat)(first:Bool)(hs:s.length<=1000000)(hi:i<s.length)(hd:BS s i=46):CA cx 192 [.p (.str s),.p (.int .i64 i),.p (.bool first)] [] (.tup [.agg (RP s i first).1.cells,.int .i64 (i+(RP s i first).2:Nat)]) []:=by
 have LB:=tU.2 ⟨hi,hd⟩;have bT:(s.drop i).drop 1=s.drop (i+1):=by rw[JO]
 have ny:=P3 (s.drop (i+1));have CY:(s.drop (i+1)).length=s.length-(i+1):=KO;rw[CY]at ny;(refine CK func192 ?_;simp only[go_sem,simprocAttr,HL (i:=i) omg]);(repeat'(first|(apply BY<;>intro h)|refine EA ?_|(exfalso;omega)));refine CL.loop (fun k:Nat=>⟨Ba 129 [(0,.p (.str s)),(1,.p (.int .i64 (i+1:Nat))),(2,.p (.bool first)),(6,.ptr 6 0 0),(8,.p (.int .i64 i)),(9,.p (.int .i64 (i+1+k:Nat)))],[(6,.var 63 [.p (.bool false),.p (.str []),.p (.int .i64 0)])]⟩) (fun k=>k<=Dm (s.drop (i+1))) (fun k=>Dm (s.drop (i+1))-k) 0 CH (EK _) ?_;intro k hk;have ZM:i+1+k+1-(i+1)=k+1:=omg;have Xd:=HL (i:=i+1+k) omg;by_cases BZ:k<Dm (s.drop (i+1))
 ·have hW:decide (JW ((s.drop (i+1)).take (k+1)))=true:=AG ((è omg hk).2 BZ);(refine CC ?_;simp only[go_sem,simprocAttr,HL (i:=i) omg,ZM,Xd]);(repeat'(first|(apply BY<;>intro h)|refine EA ?_|((refine BU (tI ((s.drop (i+1)).take (k+1)) (by rw[GF];omega)) ?_);simp only[go_sem,simprocAttr,HL (i:=i) omg,Xd,hW])|(exfalso;omega)));exact⟨k+1,omg,omg,CH⟩
 ·have hkw:k=Dm (s.drop (i+1)):=omg;by_cases hk0:0<k
  ·have ef:Bw (s.drop i)=(⟨false,(s.drop (i+1)).take k,0⟩,k+1):=by
    unfold Bw;rw[AB LB,bT,AB omg,hkw]
   have e:RP s i first=(⟨false,(s.drop (i+1)).take k,0⟩,k+1):=by
    unfold RP;rw[ef,AB (Nat.succ_ne_zero _)]
   have tV:([PV.bool false,PV.str (List.take (i+1+k-(i+1)) (List.drop (i+1) s)),PV.int IntKind.i64 0]=(RP s i first).1.cells/\((i+1+k:Nat):Int)=((i+(RP s i first).2:Nat):Int)):=by
    rw[e];refine⟨?_,?_⟩
    ·rw[show i+1+k-(i+1)=k by omega];rfl
    ·simp only;omega
   by_cases Um:i+1+k<s.length
   ·have hW:decide (JW ((s.drop (i+1)).take (k+1)))=false:=AH (fun h=>BZ ((è omg hk).1 h));(refine CC ?_;simp only[go_sem,simprocAttr,HL (i:=i) omg,ZM,Xd]);(repeat'(first|(apply BY<;>intro h)|refine EA ?_|((refine BU (tI ((s.drop (i+1)).take (k+1)) (by rw[GF];omega)) ?_);simp only[go_sem,simprocAttr,HL (i:=i) omg,hW])|(exfalso;omega)));exact tV
   ·have hW:=Xd;(refine CC ?_;simp only[go_sem,simprocAttr,HL (i:=i) omg,ZM,Xd]);(repeat'(first|(apply BY<;>intro h)|refine EA ?_|(exfalso;omega)));exact tV
  ·have WI:k=0:=omg;subst WI;have TM:(s.drop (i+1)).length<=1000000:=omg;obtain⟨u1,u2,u3⟩:=Ý (s.drop (i+1));rw[CY]at u2 u3;have ZM:i+1+0+1-(i+1)=1:=omg;have fr:i+1+(uq (s.drop (i+1))).2.1-(i+1)=(uq (s.drop (i+1))).2.1:=omg;have hwq:=YC (i:=i+1) (j:=(uq (s.drop (i+1))).2.1) omg omg;have hG:(uq (s.drop (i+1))).2.2=0->¬JW (uq (s.drop (i+1))).1->LV (uq (s.drop (i+1))).1=(s.drop (i+1)).take (uq (s.drop (i+1))).2.1->RP s i first=(⟨false,(uq (s.drop (i+1))).1,0⟩,(uq (s.drop (i+1))).2.1+1):=fun g1 g2 g3=>by
    have ef:Bw (s.drop i)=(⟨false,(uq (s.drop (i+1))).1,0⟩,(uq (s.drop (i+1))).2.1+1):=by
     unfold Bw;rw[AB LB,bT,AA omg,AA];rintro(h|h|h)
     ·exact h g1
     ·exact g2 h
     ·exact h g3
    unfold RP;rw[ef,AB (Nat.succ_ne_zero _)]
   have hB:¬((uq (s.drop (i+1))).2.2=0/\¬JW (uq (s.drop (i+1))).1/\LV (uq (s.drop (i+1))).1=(s.drop (i+1)).take (uq (s.drop (i+1))).2.1)->RP s i first=if first=true then(if(XB s (i+1)).2≠0 then((XB s (i+1)).1,(XB s (i+1)).2+1)else(Dv,0))else(Dv,0):=fun hb=>by
    have ef:Bw (s.drop i)=(Dv,0):=by
     unfold Bw;rw[AB LB,bT,AA omg,AB];apply aJ;intro hn;refine hb ⟨?_,?_,?_⟩
     ·exact aJ fun h=>hn (.inl h)
     ·exact fun h=>hn (.inr (.inl h))
     ·exact aJ fun h=>hn (.inr (.inr h))
    unfold RP;rw[ef,AA (fun h=>h rfl),AB (c:=i<s.length/\BS s i=46) ⟨hi,hd⟩];by_cases hp:(XB s (i+1)).2≠0
    ·rw[AB hp,AB (c:=(i<s.length/\BS s i=46)/\_) ⟨⟨hi,hd⟩,hp⟩]
    ·rw[AA hp,AA (c:=(i<s.length/\BS s i=46)/\_) (fun h=>hp h.2)]
   have hB1:¬((uq (s.drop (i+1))).2.2=0/\¬JW (uq (s.drop (i+1))).1/\LV (uq (s.drop (i+1))).1=(s.drop (i+1)).take (uq (s.drop (i+1))).2.1)->first=false->RP s i first=(Dv,0):=fun hb hf=>by rw[hB hb,hf,AA sm]
   have hB2:¬((uq (s.drop (i+1))).2.2=0/\¬JW (uq (s.drop (i+1))).1/\LV (uq (s.drop (i+1))).1=(s.drop (i+1)).take (uq (s.drop (i+1))).2.1)->¬first=false->¬(i+1<s.length/\BS s (i+1)=91/\0<=(GD s (i+1+1)).1/\(GD s (i+1+1)).2<s.length/\BS s (GD s (i+1+1)).2=93)->RP s i first=(Dv,0):=fun hb hf h=>by
    rw[hB hb,J8q h];cases first<;>rfl
   have hB3:¬((uq (s.drop (i+1))).2.2=0/\¬JW (uq (s.drop (i+1))).1/\LV (uq (s.drop (i+1))).1=(s.drop (i+1)).take (uq (s.drop (i+1))).2.1)->¬first=false->(i+1<s.length/\BS s (i+1)=91/\0<=(GD s (i+1+1)).1/\(GD s (i+1+1)).2<s.length/\BS s (GD s (i+1+1)).2=93)->RP s i first=(⟨true,[],(GD s (i+1+1)).1⟩,(GD s (i+1+1)).2+1-(i+1)+1):=fun hb hf h=>by
    have hl:=é (s:=s) (i:=i+1+1) omg;rw[hB hb,J4s h,AB (by cases first<;>simp_all),AB (by simp only;omega)]
   have hwi:IntKind.i64.wrap ((i+1:Nat)+1:Int)=((i+1+1:Nat):Int):=HL omg;by_cases Um:i+1+0<s.length
   ·have hW:decide (JW ((s.drop (i+1)).take (0+1)))=false:=AH (fun h=>BZ ((è omg hk).1 h));have hl:=é (s:=s) (i:=i+1+1) omg;(refine CC ?_;simp only[go_sem,simprocAttr,HL (i:=i) omg,ZM,Xd]);(repeat'(first|(apply BY<;>intro h)|refine EA ?_|((first|refine EG ?_|(refine BU (tI ((s.drop (i+1)).take (0+1)) (by rw[GF];omega)) ?_)|(refine BU (Jzm (s.drop (i+1)) TM) ?_)|(refine DS (tI (uq (s.drop (i+1))).1 omg) ?_)|(refine DS (J3n (uq (s.drop (i+1))).1 omg) ?_)|(refine BU (J4v s (i+1+0+1) hs omg) ?_));simp only[go_sem,simprocAttr,HL (i:=i) omg,Xd,hW,fr,hwq])|(exfalso;omega)))
    all_goals simp only[Nat.add_zero]at *
    all_goals first
     |(exfalso;omega)
     |(rw[hG omg AN AN];exact⟨rfl,by simp only;omega⟩)
     |(rw[hB1 (fun⟨a,b,c⟩=>by first|omega|(exact absurd b AN)|(exact absurd c AN)) AN];exact⟨rfl,rfl⟩)
     |(rw[hB2 (fun⟨a,b,c⟩=>by first|omega|(exact absurd b AN)|(exact absurd c AN)) AN omg];exact⟨rfl,rfl⟩)
     |(rw[hB3 (fun⟨a,b,c⟩=>by first|omega|(exact absurd b AN)|(exact absurd c AN)) AN omg,Aa omg omg];exact⟨rfl,by simp only;omega⟩)
   ·have hW:=Xd;(refine CC ?_;simp only[go_sem,simprocAttr,HL (i:=i) omg,ZM,Xd]);(repeat'(first|(apply BY<;>intro h)|refine EA ?_|((first|refine EG ?_|(refine BU (Jzm (s.drop (i+1)) TM) ?_)|(refine DS (tI (uq (s.drop (i+1))).1 omg) ?_)|(refine DS (J3n (uq (s.drop (i+1))).1 omg) ?_));simp only[go_sem,simprocAttr,HL (i:=i) omg,Xd,fr,hwq])|(exfalso;omega)))
    all_goals simp only[Nat.add_zero]at *
    all_goals first
     |(exfalso;omega)
     |(rw[hG omg AN AN];exact⟨rfl,by simp only;omega⟩)
     |(rw[hB1 (fun⟨a,b,c⟩=>by first|omega|(exact absurd b AN)|(exact absurd c AN)) AN];exact⟨rfl,rfl⟩)
     |(rw[hB2 (fun⟨a,b,c⟩=>by first|omega|(exact absurd b AN)|(exact absurd c AN)) AN omg];exact⟨rfl,rfl⟩)
def lZ(s:List UInt8)(i:Nat)(first:Bool)(hs:s.length<=1000000)(hi:i<=s.length):CA cx 192 [.p (.str s),.p (.int .i64 i),.p (.bool first)] [] (.tup [.agg (RP s i first).1.cells,.int .i64 (i+(RP s i first).2:Nat)]) []:=by
 by_cases hd:i<s.length/\BS s i=46
 ·exact J9k s i first hs hd.1 hd.2
 ·exact J6n s i first hs hi hd
def J94:RP s i (decide (i=0))=Ee s i:=by
 unfold RP Ee;by_cases hf:(Bw (s.drop i)).2≠0
 ·rw[AB hf,AB hf]
 ·rw[AA hf,AA hf,Ka0,Ka0];by_cases hi:i=0
  ·rw[AB (AG hi),AB hi];subst hi;have hd:=tU (s:=s) (i:=0);rw[OB]at hd;by_cases h1:s.take 1=[46]
   ·by_cases h2:(Ce (s.drop (0+1))).2≠0
    ·rw[AB ⟨hd.1 h1,h2⟩,AB ⟨h1,h2⟩]
    ·rw[AA (fun h=>h2 h.2),AA (fun h=>h2 h.2)]
   ·rw[AA (fun h=>h1 (hd.2 h.1)),AA (fun h=>h1 h.1)]
  ·rw[AA (fun h=>hi (of_decide_eq_true h)),AA hi];by_cases ê:i<s.length/\BS s i=46
   ·rw[AB ê];refine(æ ?_).symm;unfold Ce;rw[AA];rintro⟨h,-⟩;rw[tU.2 ê]at h;cases h
   ·rw[AA ê]
def Kc1(h:s.length<=i):(Ee s i).2=0:=by
 have hd:s.drop i=[]:=JD h;unfold Ee;have hf:Bw []=(Dv,0):=rfl;have hp:Ce []=(Dv,0):=rfl;rw[hd,hf,AA (fun h=>h rfl),hp];split
 ·have:s=[]:=KH omg;subst this;rfl
 ·rfl
def NO(s:List UInt8):List CD×Nat:=if(Mp s).1.length=0/\s.take 1=[46]then((Mp s).1,1)else Mp s
def J70(s:List UInt8)(hs:s.length<=1000000):CA cx 150 [.p (.str s),.p (.int .i64 0)] [] (.tup [.sl (Bb (NO s).1),.int .i64 (NO s).2]) []:=by
 (refine CB func150 ?_);refine HD (B1 [(10,30)] _ sm) ?_;simp only[go_sem,simprocAttr];refine CL.loop (fun x:Nat×Nat×List CD=>⟨Ba 52 [(0,.p (.str s)),(1,.p (.int .i64 x.1)),(6,.own 30 0 x.2.2.length),(7,.p (.int .i64 0))],[(30,.row 63 3 (Bb x.2.2))]⟩) (fun x=>x.1<=s.length/\s.length+1<=x.1+x.2.1/\x.2.2.length<=20/\(x.2.2.length=0↔x.1=0)/\Fl s x.2.1 x.1 x.2.2=Mp s) (fun x=>s.length-x.1) (0,s.length+1,[]) (by rw[show Bb []=[]from rfl];exact CH) ⟨EK _,by simp,by simp,by simp,rfl⟩ ?_;rintro⟨i,f,p⟩ ⟨h1,h2,h3,h5,h4⟩;simp only at h1 h2 h3 h4 h5;have EI:=lZ s i (decide (i=0)) hs h1;rw[J94]at EI;have IB:=xe h1;have UR:((p.length:Int)==0)=decide (i=0):=by
  rw[KA,AK,AF];omega
 have DR:(Bb p).take p.length=Bb p:=DK sm;have tW:Fl s f i p=(p,i)->NO s=if p.length=0/\s.take 1=[46]then(p,1)else(p,i):=fun h=>by
  rw[h]at h4;unfold NO;rw[<-h4]
 have LB:=tU (s:=s) (i:=0);rw[OB]at LB;by_cases hc:p.length<20
 ·by_cases hn:(Ee s i).2=0
  ·have GQ:Fl s f i p=(p,i):=Gv fun h=>h.2.2 hn
   have hb:=tW GQ;have hw:=hn;have EF:=UR;(refine CC ?_;simp only[go_sem,simprocAttr,Aq,DR,CS,EF]);(repeat'(first|(apply BY<;>intro h)|refine EA ?_|((refine BU EI ?_);simp only[go_sem,simprocAttr,Aq,DR,CS,CD.cells,EF,hw])|(exfalso;omega)))
   ·rw[hb,AB ⟨omg,LB.2 ⟨omg,omg⟩⟩];exact⟨rfl,rfl⟩
   ·rw[hb,AA (fun h=>by have:=(LB.1 h.2).2;omega)];exact⟨rfl,rfl⟩
   ·rw[hb,AA (fun h=>by have:=(LB.1 h.2).1;omega)];exact⟨rfl,rfl⟩
   ·rw[hb,AA (fun h=>by omega)];exact⟨rfl,rfl⟩
  ·obtain⟨g,rfl⟩:∃g,f=g+1:=⟨f-1,omg⟩
   have OE:i<s.length:=aJ fun h=>hn (Kc1 omg)
   rw[Fl,AB ⟨OE,hc,hn⟩]at h4;have EF:Bb p++[[.bool (Ee s i).1.part,.str (Ee s i).1.name,.int .i64 (Ee s i).1.n]]=Bb (p++[(Ee s i).1]):=by rw[Kn];rfl
   have hw:=UR;(refine CC ?_;simp only[go_sem,simprocAttr,Aq,DR,CS,UR]);(repeat'(first|(apply BY<;>intro h)|refine EA ?_|((refine BU EI ?_);simp only[go_sem,simprocAttr,Aq,DR,CS,CD.cells,EF,UR])|(exfalso;omega)));refine⟨by simp,omg,omg,(i+(Ee s i).2,g,p++[(Ee s i).1]),⟨?_,?_,?_,?_,h4⟩,?_,?_⟩
   ·simp only;omega
   ·simp only;omega
   ·simp only[DC,WD];omega
   ·simp only[DC,WD];constructor
    ·intro h;omega
    ·intro h;omega
   ·simp only;omega
   simp only[DC,WD];exact CH
 ·have GQ:Fl s f i p=(p,i):=Gv fun h=>hc h.2.1
  have hb:=tW GQ;have hw:=UR;have EF:=UR;(refine CC ?_;simp only[go_sem,simprocAttr,Aq,DR,CS,EF]);(repeat'(first|(apply BY<;>intro h)|refine EA ?_|((refine BU EI ?_);simp only[go_sem,simprocAttr,Aq,DR,CS,CD.cells,EF])|(exfalso;omega)));rw[hb,AA omg];exact⟨rfl,rfl⟩
def Kfm:NO [46]=([],1):=by
 have e:Mp [46]=([],0):=rfl;unfold NO;rw[e];rfl
def J4g{s:List UInt8}:∀(f i:Nat) (p:List CD),i<=(Fl s f i p).2/\p.length<=(Fl s f i p).1.length/\((Fl s f i p).1.length=p.length->Fl s f i p=(p,i))
 |0,i,p=>⟨CS _,CS _,fun _=>rfl⟩
 |f+1,i,p=>by
  rw[Fl];split
  ·have:=J4g (s:=s) f (i+(Ee s i).2) (p++[(Ee s i).1]);rw[DC,WD]at this;exact⟨omg,omg,fun h=>by omega⟩
  ·exact⟨CS _,CS _,fun _=>rfl⟩
def J47(s:List UInt8)(hs:s.length<=1000000):CA cx 112 [.p (.str s)] [] (.tup [.sl (Bb (Je s).1),.int .i64 (Je s).2.1,.int .i64 (Je s).2.2]) []:=by
 refine CA.weak ?_;by_cases hd:s=[46]
 ·subst hd;have hB:=J70 [46] de;rw[Kfm]at hB;refine CB func112 ?_;(repeat'(first|refine CI hB ?_|fail));exact .inl rfl
 ·have PT:(s=[46])=False:=AD hd;have hB:=J70 s hs;have PD:=(J4g (s:=s) (s.length+1) 0 []).2.2;have hR0:(Mp s).1.length=0->Mp s=([],0):=PD;have cC:(NO s).1.length=0->(Mp s).1.length=0:=fun h=>by
   unfold NO at h;split at h
   ·exact h
   ·exact h
  have PB:¬(NO s).1.length=0->NO s=Mp s:=fun h=>by
   unfold NO at h⊢;split
   ·rename_i hc;rw[AB hc]at h;exact absurd hc.1 h
   ·rfl
  (refine CB func112 ?_);(repeat'(first|(apply BY<;>intro h)|((refine BU hB ?_);simp only[go_sem,simprocAttr,PT,Aq])|fail))
  ·have h0:=hR0 (cC omg);have e:Je s=([],0,1):=by
    unfold Je;rw[AA hd,h0];rw[AB (.inr rfl)]
   rw[e];exact fo ⟨.nil,.refl _,.refl _,trivial⟩
  ·have hb:=PB omg;have hq:(NO s).2<s.length:=omg;rw[hb]at hq⊢;have e:Je s=([],(Mp s).2,1):=by
    unfold Je;rw[AA hd,AB (.inl omg)]
   rw[e];exact fo ⟨.nil,.refl _,.refl _,trivial⟩
  ·have hb:=PB omg;have hq:¬(NO s).2<s.length:=omg;have hq2:¬(NO s).1.length=0:=omg;rw[hb]at hq hq2⊢;have e:Je s=((Mp s).1,0,0):=by
    unfold Je;rw[AA hd,AA omg]
   rw[e];exact .inl rfl
def F8(x y:CD):Prop:=x.part=y.part/\x.name=y.name/\x.n=y.n
instance (x y:CD):Decidable (F8 x y):=inferInstanceAs (Decidable (_/\_))
def Dc{y:CD}:F8 x y↔x=y:=by
 unfold F8;constructor
 ·rintro⟨h1,h2,h3⟩;cases x;cases y;simp_all
 ·rintro rfl;exact⟨rfl,rfl,rfl⟩
def B7:List CD->List CD->Bool|x::p,y::q=>!decide (F8 x y)|| B7 p q|_,_=>false
instance:DecidableEq CD:=fun x y=>decidable_of_iff _ (Dc (x:=x) (y:=y))
def Bp(p:List CD):∀x∈Bb p,x.length=3:=by
 intro x hx;obtain⟨y,-,rfl⟩:=FB.1 hx;rfl
def KS:BM->CD->Except Nat BM
 |.mk k _ _ _ BL,x =>
  if x.part=true then(if k≠5 then .error 5 else match BL.list[x.n.toNat]? with
   |some p=>.ok p.2
   |none=>.error 6)
  else(if k≠6 then .error 5 else match Ch x.name BL.list with
   |some t=>.ok t
   |none=>.error 6)
def Iz(hp:x.part=true)(hk:¬k=5):KS (.mk k s g e BL) x=.error 5:=by
 show(if x.part=true then(if k≠5 then Except.error 5 else _)else _)=_;rw[AB hp,AB hk]
def Iw(hp:x.part=false)(hk:¬k=6):KS (.mk k s g e BL) x=.error 5:=by
 show(if x.part=true then _ else(if k≠6 then Except.error 5 else _))=_;rw[AA (by simp[hp]),AB hk]
def Tm(hp:x.part=true):KS (.mk 5 s g e BL) x=match BL.list[x.n.toNat]? with
   |some p=>.ok p.2
   |none=>.error 6:=by
 show(if x.part=true then _ else _)=_;rw[AB hp];rfl
def Tp(hp:x.part=false):KS (.mk 6 s g e BL) x=match Ch x.name BL.list with
   |some t=>.ok t
   |none=>.error 6:=by
 show(if x.part=true then _ else _)=_;rw[AA (by simp[hp])];rfl
def BV:Except Nat BM->L|.ok t=>.tup [.sl (BP (t.enc [])),.int .i64 0]|.error e=>.tup [.snil,.int .i64 e]
def Hx{l:List (List UInt8×BM)}(h:l[i]?=some p):(A4 l)[i]?=some [.sl (BP (p.2.enc []))]:=by simp[A4,h]
def tX(t:BM)(x:CD)(hv:(t.enc []).length<=1500000000000)(hx:Bc x):CA cx 124 [.p (.sl (BP (t.enc []))),.p (.agg [.bool x.part,.str x.name,.int .i64 x.n])] [] (BV (KS t x)) []:=by
 cases t with
 |mk k s g e BL =>
 have YD:BL.enc.length<=1499999999999:=by rw[A6]at hv;simp at hv;omega
 have GB:=KE BL;have DV:=LU BL;unfold Bc at hx;cases hp:x.part
 ·by_cases hk:k=6
  ·subst hk;rw[Tp hp];cases hf:Ch x.name BL.list with
   |none =>
    have hF:=Τ [] s g e BL x.name YD;rw[hf]at hF;unfold Oo at hF;(refine CK func124 ?_;simp only[go_sem,simprocAttr,Cc]);(repeat'(first|refine CI hF ?_|fail))
    all_goals rfl
   |some t =>
    have hF:=Τ [] s g e BL x.name YD;rw[hf]at hF;unfold Oo at hF;(refine CK func124 ?_;simp only[go_sem,simprocAttr,Cc]);(repeat'(first|refine CI hF ?_|fail))
    all_goals rfl
  ·rw[Iw hp hk];(refine CK func124 ?_;simp only[go_sem,simprocAttr,Cc]);(repeat'(first|(apply BY<;>intro h)|(exfalso;omega)))
   all_goals rfl
 ·rw[AB hp]at hx;obtain⟨n,hn⟩:∃n:Nat,x.n=n:=⟨x.n.toNat,omg⟩
  by_cases hk:k=5
  ·subst hk;rw[Tm hp,hn];have HK:((n:Int)).toNat=n:=rfl;rw[HK];by_cases BZ:n<BL.len
   ·obtain⟨p,PG⟩:∃p,BL.list[n]?=some p:=⟨_,C' omg⟩
    have dt:=Hx PG;rw[PG];(refine CK func124 ?_;simp only[go_sem,simprocAttr,Cc]);(repeat'(first|(apply BY<;>intro h)|((first|refine EG ?_|(refine DS (Px [] 5 s g e BL YD) ?_));simp only[go_sem,simprocAttr,Cc,dt])|(exfalso;omega)))
    all_goals rfl
   ·rw[gR omg];have dt:=hn;(refine CK func124 ?_;simp only[go_sem,simprocAttr,Cc]);(repeat'(first|(exfalso;omega)|(apply BY<;>intro h)|((refine EG ?_);simp only[go_sem,simprocAttr,Cc])|fail))
    all_goals rfl
  ·rw[Iz hp hk,hn];have dt:=hn;(refine CK func124 ?_;simp only[go_sem,simprocAttr,Cc]);(repeat'(first|(apply BY<;>intro h)|((refine EG ?_);simp only[go_sem,simprocAttr,Cc])|(exfalso;omega)))
   all_goals rfl
def JX:List CD->BM->Except Nat BM
 |[],t=>.ok t
 |x::p,t=>match KS t x with
  |.ok u=>JX p u
  |.error e=>.error e
def YE:∀{f:BO} {p:List UInt8×BM},p∈f.list->(p.2.enc []).length<=f.enc.length
 |.nil,p,h=>by cases h
 |.cons nm t r,p,h=>by
  rw[A0,DC];rcases DN.1 h with rfl|h
  ·simp only;rw[G7 t nm];omega
  ·have:=YE h;omega
def H2{name:List UInt8}:∀{l:List (List UInt8×BM)} {t:BM},Ch name l=some t->∃p∈l,p.2=t/\p.1=name
 |[],t,h=>by cases h
 |p::l,t,h=>by
  rw[Ch]at h;split at h
  ·cases h;exact⟨p,DQ,rfl,by assumption⟩
  ·obtain⟨q,h1,h2⟩:=H2 h;exact⟨q,EW _ h1,h2⟩
def Jd5{u:BM}(h:KS (.mk k s g e BL) x=.ok u):∃p∈BL.list,p.2=u:=by
 cases hp:x.part
 ·by_cases hk:k=6
  ·subst hk;rw[Tp hp]at h;cases hf:Ch x.name BL.list with
   |none=>rw[hf]at h;cases h
   |some t =>
    rw[hf]at h;cases h;obtain⟨p,h1,h2,_⟩:=H2 hf;exact⟨p,h1,h2⟩
  ·rw[Iw hp hk]at h;cases h
 ·by_cases hk:k=5
  ·subst hk;rw[Tm hp]at h;cases hf:BL.list[x.n.toNat]? with
   |none=>rw[hf]at h;cases h
   |some p =>
    rw[hf]at h;cases h;exact⟨p,D4 hf,rfl⟩
  ·rw[Iz hp hk]at h;cases h
def M2{er:Nat}(h:KS t x=.error er):er=5\/er=6:=by
 cases t with
 |mk k s g e BL =>
  cases hp:x.part
  ·by_cases hk:k=6
   ·subst hk;rw[Tp hp]at h;cases hf:Ch x.name BL.list with
    |none=>rw[hf]at h;cases h;exact .inr rfl
    |some t=>rw[hf]at h;cases h
   ·rw[Iw hp hk]at h;cases h;exact .inl rfl
  ·by_cases hk:k=5
   ·subst hk;rw[Tm hp]at h;cases hf:BL.list[x.n.toNat]? with
    |none=>rw[hf]at h;cases h;exact .inr rfl
    |some p=>rw[hf]at h;cases h
   ·rw[Iz hp hk]at h;cases h;exact .inl rfl
def Q7{u:BM}(h:KS t x=.ok u):(u.enc []).length+1<=(t.enc []).length:=by
 cases t with
 |mk k s g e BL =>
  obtain⟨p,h1,rfl⟩:=Jd5 h;have:=YE h1;rw[A6,DH];omega
def M1(p:List CD)(t:BM)(hp:p.length<=1000000)(GZ:∀x∈p,Bc x)(hv:(t.enc []).length<=1500000000000):CA cx 66 [.p (.sl (Bb p)),.p (.sl (BP (t.enc [])))] [] (BV (JX p t)) []:=by
 (refine CK func66 ?_;simp only[go_sem,simprocAttr,Aq]);refine CL.loop (fun x:Nat×BM=>⟨Ba 28 [(0,.p (.sl (Bb p))),(1,.p (.sl (BP (x.2.enc [])))),(10,.p (.sl (Bb p))),(11,.p (.int .i64 p.length)),(12,.p (.int .i64 x.1))],[]⟩) (fun x=>x.1<=p.length/\(x.2.enc []).length<=1500000000000/\JX (p.drop x.1) x.2=JX p t) (fun x=>p.length-x.1) (0,t) CH ⟨EK _,hv,rfl⟩ ?_;rintro⟨i,u⟩ ⟨h1,h2,h3⟩;simp only at h1 h2 h3;by_cases hi:¬i<p.length
 ·have c1:((i:Int)<(p.length:Int))=False:=AD omg;rw[show p.drop i=[]from JD omg,JX]at h3;(refine CC ?_;simp only[go_sem,simprocAttr,c1]);rw[<-h3];rfl
 ·have hi:=JK.1 hi;obtain⟨x,hx⟩:∃x,p[i]?=some x:=⟨_,C' hi⟩
  have EH:=Dk hx;have VX:p.drop i=x::p.drop (i+1):=by rw[Mx hi];congr 1;rw[C' hi]at hx;exact L' hx
  have MP:=GZ x (D4 hx);rw[VX,JX]at h3;have FU:=tX u x h2 MP;have c1:((i:Int)<(p.length:Int))=True:=AE omg;cases hu:KS u x with
  |error er =>
   rw[hu]at FU h3;unfold BV at FU;(refine CC ?_;simp only[go_sem,simprocAttr,c1,EH,HL (i:=i) omg]);(repeat'(first|(apply BY<;>intro h)|((refine BU FU ?_);simp only[go_sem,simprocAttr,HL (i:=i) omg])|fail))
   ·rw[<-h3];rfl
   ·have:=M2 hu;omega
  |ok w =>
   rw[hu]at FU h3;unfold BV at FU;have DO:=Q7 hu;(refine CC ?_;simp only[go_sem,simprocAttr,c1,EH,HL (i:=i) omg]);(repeat'(first|((refine BU FU ?_);simp only[go_sem,simprocAttr,HL (i:=i) omg])|fail));exact⟨(i+1,w),⟨by simp only;omega,by simp only;omega,h3⟩,by simp only;omega,CH⟩
def Jcm{l:List (List UInt8×BM)}{k:Nat}(h:l[k]?=some p)(hn:p.1≠name)(ht:∀q∈l.take k,q.1≠name):∀q∈l.take (k+1),q.1≠name:=by
 intro q hq;rw[NA,h]at hq;rcases H'.1 hq with hq|hq
 ·exact ht q hq
 ·simp at hq;subst hq;exact hn
def Re(s:List UInt8)(g:Bool)(e:Int)(BL:BO)(name:List UInt8)(hv:BL.enc.length<=1499999999999):CA cx 74 [.p (.sl (BP ((BM.mk 6 s g e BL).enc nm))),.p (.str name)] [] (Oo (Ch name BL.list)) []:=by
 have GB:=KE BL;have DV:=LU BL;refine CB func74 ?_;(repeat'(first|refine CI (Ir nm s g e BL hv) ?_|fail));refine CL.loop (fun i:Nat=>⟨Ba 27 [(0,.p (.sl (BP ((BM.mk 6 s g e BL).enc nm)))),(1,.p (.str name)),(6,.p (.sl (Bd BL.list))),(7,.p (.int .i64 i))],[]⟩) (fun i=>i<=BL.list.length/\∀q∈BL.list.take i,q.1≠name) (fun i=>BL.list.length-i) 0 CH ⟨EK _,by simp⟩ ?_;rintro i ⟨h1,h2⟩;by_cases hi:¬i<BL.list.length
 ·have c1:((i:Int)<(BL.list.length:Int))=False:=AD omg;rw[DK omg]at h2;rw[Ls h2];(refine CC ?_;simp only[go_sem,simprocAttr,A9,c1]);rfl
 ·have hi:=JK.1 hi;obtain⟨p,hp⟩:∃p,BL.list[i]?=some p:=⟨_,C' hi⟩
  have JY:(Bd BL.list)[i]?=some [.str p.1]:=by simp[Bd,hp]
  have RQ:=Hx hp;have c1:((i:Int)<(BL.list.length:Int))=True:=AE omg;by_cases hn:p.1=name
  ·rw[Li hp hn h2];have hw:=hn;(refine CC ?_;simp only[go_sem,simprocAttr,A9,c1,JY,hw,HL (i:=i) omg]);(repeat'(first|((refine BU (Dy nm 6 s g e BL hv) ?_);simp only[go_sem,simprocAttr,RQ,HL (i:=i) omg])|fail))
   all_goals rfl
  ·have hw:(p.1=name)=False:=AD hn;(refine CC ?_;simp only[go_sem,simprocAttr,A9,c1,JY,hw,HL (i:=i) omg]);exact⟨i+1,⟨omg,Jcm hp hn h2⟩,omg,CH⟩
def P2(t:BM)(x:CD)(hv:(t.enc []).length<=1500000000000)(hx:Bc x):CA cx 128 [.p (.sl (BP (t.enc []))),.p (.agg [.bool x.part,.str x.name,.int .i64 x.n])] [] (BV (KS t x)) []:=by
 cases t with
 |mk k s g e BL =>
 have YD:BL.enc.length<=1499999999999:=by rw[A6]at hv;simp at hv;omega
 have GB:=KE BL;have DV:=LU BL;unfold Bc at hx;cases hp:x.part
 ·by_cases hk:k=6
  ·subst hk;rw[Tp hp];cases hf:Ch x.name BL.list with
   |none =>
    have hF:=Re [] s g e BL x.name YD;rw[hf]at hF;unfold Oo at hF;(refine CK func128 ?_;simp only[go_sem,simprocAttr,Cc]);(repeat'(first|refine CI hF ?_|fail))
    all_goals rfl
   |some t =>
    have hF:=Re [] s g e BL x.name YD;rw[hf]at hF;unfold Oo at hF;(refine CK func128 ?_;simp only[go_sem,simprocAttr,Cc]);(repeat'(first|refine CI hF ?_|fail))
    all_goals rfl
  ·rw[Iw hp hk];(refine CK func128 ?_;simp only[go_sem,simprocAttr,Cc]);(repeat'(first|(apply BY<;>intro h)|(exfalso;omega)))
   all_goals rfl
 ·rw[AB hp]at hx;obtain⟨n,hn⟩:∃n:Nat,x.n=n:=⟨x.n.toNat,omg⟩
  by_cases hk:k=5
  ·subst hk;rw[Tm hp,hn];have HK:((n:Int)).toNat=n:=rfl;rw[HK];have ë:=A5 BL.list;by_cases BZ:n<BL.len
   ·obtain⟨p,PG⟩:∃p,BL.list[n]?=some p:=⟨_,C' omg⟩
    have dt:=Hx PG;rw[PG];(refine CK func128 ?_;simp only[go_sem,simprocAttr,Cc]);(repeat'(first|(apply BY<;>intro h)|((refine BU (Dy [] 5 s g e BL YD) ?_);simp only[go_sem,simprocAttr,dt,ë])|(exfalso;omega)))
    all_goals rfl
   ·rw[gR omg];have dt:=hn;(refine CK func128 ?_;simp only[go_sem,simprocAttr,Cc]);(repeat'(first|(exfalso;omega)|(apply BY<;>intro h)|((refine BU (Dy [] 5 s g e BL YD) ?_);simp only[go_sem,simprocAttr,ë])|fail))
    all_goals rfl
  ·rw[Iz hp hk,hn];have dt:=hn;have ë:=hn;(refine CK func128 ?_;simp only[go_sem,simprocAttr,Cc]);(repeat'(first|(apply BY<;>intro h)|(exfalso;omega)))
   all_goals rfl
end
section
variable {X:Cx} {ro:Option Nat} {c:Code} {Q:Ex->St->Prop}
def J3k{s:St}(hd:Am d s.regs=some (.row T 1 es))(h0:0<es.length)(h:∀k,CL X ro c Q { s with regs:=Bs d (.lrow T 1 true (es.map (List.map L.p)++List.replicate k [L.junk])) s.regs }):CL X ro c Q s:=by
 intro Γ a w hG ⟨ms,CZ,β,Im,hx⟩;have CR:=Ax hd;rcases hx.fit.regs d _ CR with⟨_,rfl⟩|⟨loc,cur,CM,YZ,Pq,FI,DO,HW,EF,CP⟩
 ·simp at h0
 refine h (loc.tot-es.length) Γ a w hG ⟨ms,CZ,β,Im,hx.store CR CM rfl rfl rfl rfl (fun _ _=>rfl) (.inr ?_)⟩;have GB:(es.map (List.map L.p)++List.replicate (loc.tot-es.length) [L.junk]).length=loc.tot:=by simp;omega
 refine⟨loc,cur,CM,YZ,Pq,FI,by rw[GB];exact CS _,fun _=>GB,HW,fun e he=>?_,fun i e j l hi hj=>?_⟩
 ·rcases H'.1 he with he|he
  ·obtain⟨q,hq,rfl⟩:=FB.1 he;rw[HM];exact(EF q hq).1
  ·rw[List.eq_of_mem_replicate he];rfl
 ·by_cases BZ:i<es.length
  ·rw[NZ (by simpa using BZ),Eam]at hi;obtain⟨q,hq,rfl⟩:=HF.1 hi;rw[Eam]at hj;obtain⟨p,hp,rfl⟩:=HF.1 hj;obtain⟨v,hv,hr⟩:=CP i q j p hq hp;exact⟨v,hv,hr,.inl ((EF q (D4 hq)).2 p (D4 hp))⟩
  ·rw[Mr (by simpa using BZ)]at hi;simp only[HM]at hi;obtain⟨ak,rfl⟩:=DX.1 hi;simp only[aK]at ak;simp only[List.getElem_replicate]at hj;have TB:j=0:=by have:=(DX.1 hj).1;simp at this;exact this
   subst TB;simp at hj;subst hj;have hc:i*1+0<cur.length:=by rw[FI];omega
   exact⟨_,C' hc,trivial,.inr rfl⟩
def J5w{s:St}{f:Bool}{ls:List (List L)}(hd:Am d s.regs=some (.lrow T 1 f ls))(hp:Cb (ls.take n)=some es):s.Le { s with regs:=Bs d (.row T 1 es) s.regs }:=by
 rintro Γ a w ⟨ms,CZ,β,Im,hx⟩;have CR:=Ax hd;obtain⟨pl,pp⟩:=Dh hp;by_cases CM:∃loc,β d=some loc
 ·obtain⟨loc,CM⟩:=CM;refine⟨ms,CZ,β,Im,hx.store CR CM rfl rfl rfl rfl (fun _ _=>rfl) ?_⟩;rcases hx.fit.regs d _ CR with⟨hn,rfl⟩|⟨CO,cur,CF,YZ,Pq,FI,DO,UT,HW,EF,CP⟩
  ·rw[CM]at hn;cases hn
  ·rw[CM]at CF;cases CF;have key:∀(i:Nat) (q:List PV),es[i]?=some q->∃e,ls[i]?=some e/\e.length=q.length/\∀(j:Nat) (p:PV),q[j]?=some p->e[j]?=some (.p p):=by
    intro i q hq;obtain⟨e,he,ha⟩:=pp i q hq;have FO:ls[i]?=some e:=by
     rw[IQ]at he;split at he
     ·exact he
     ·cases he
    obtain⟨al,ag⟩:=Bh ha;refine⟨e,FO,al,fun j p hj=>?_⟩;obtain⟨l,DB⟩:=BQ al hj;have h1:=ag j l p DB hj;cases l<;>simp[L.pure?]at h1;subst h1;exact DB
   refine .inr ⟨loc,cur,CM,YZ,Pq,FI,by rw[<-pl,GF];omega,HW,fun q hq=>?_,fun i q j p hi hj=>?_⟩
   ·obtain⟨i,hi,rfl⟩:=PN hq;obtain⟨e,he,h1,h2⟩:=key i _ (C' hi);refine⟨by rw[<-h1];exact EF e (D4 he),fun p hp=>?_⟩;obtain⟨j,hj,rfl⟩:=PN hp;obtain⟨v,_,_,IY⟩:=CP i e j _ he (h2 j _ (C' hj));rcases IY with IY|IY
    ·exact IY
    ·cases IY
   ·obtain⟨e,he,h1,h2⟩:=key i q hi;obtain⟨v,hv,hr,_⟩:=CP i e j _ he (h2 j p hj);exact⟨v,hv,hr⟩
 ·have hn:β d=none:=by
   cases hb:β d with
   |none=>rfl
   |some loc=>exact absurd ⟨loc,hb⟩ CM
  have TA:ls=[]:=by
   rcases hx.fit.regs d _ CR with⟨_,h⟩|⟨CO,cur,CF,_⟩
   ·exact h
   ·rw[hn]at CF;cases CF
  subst TA;have:es=[]:=KH (by simpa using pl.symm);subst this;have hf:=hx.fit;refine⟨ms,CZ,β,Im,{ hx with fit:={ hf with regs:=fun e q hq=>?_,nodup:=by simp only[Kd];exact hf.nodup,live:=fun e q loc hq hl=>?_,apart:=fun e q e' q' l1 l2 hq FJ DA h1 h2=>?_ },regnew:=fun e q loc hq hl=>?_,marks:=fun D hD=>?_ }⟩
  all_goals
   have key:∀e q,(e,q)∈Bs d (.row T 1 []) s.regs->∃q',(e,q')∈s.regs:=by
    intro e q hq;rcases Ds hf.nodup hq with⟨rfl,rfl,q',FJ⟩|⟨DA,hm⟩
    ·exact⟨q',FJ⟩
    ·exact⟨q,hm⟩
  ·rcases Ds hf.nodup hq with⟨rfl,rfl,_⟩|⟨DA,hm⟩
   ·exact .inl ⟨hn,rfl⟩
   ·exact hf.regs e q hm
  ·obtain⟨q',FJ⟩:=key e q hq;exact hf.live e q' loc FJ hl
  ·obtain⟨p1,Q8⟩:=key e q hq;obtain⟨p2,aY⟩:=key e' q' FJ;exact hf.apart e p1 e' p2 l1 l2 Q8 aY DA h1 h2
  ·obtain⟨q',FJ⟩:=key e q hq;exact hx.regnew e q' loc FJ hl
  ·obtain⟨m1,m2,m3,m4⟩:=hx.marks D hD;exact⟨m1,m2,m3,fun e q loc hq hl=>by obtain⟨q',FJ⟩:=key e q hq;exact m4 e q' loc FJ hl⟩
def Jq:∀es:List (List PV),Cb (es.map (List.map L.p))=some es
 |[]=>rfl
 |e::es=>by
  have h:∀e:List PV,Bg L.pure? (e.map L.p)=some e:=by
   intro e
   induction e with
   |nil=>rfl
   |cons p e ih=>simp only[Fc,Bg,L.pure?,ih]
  simp only[Fc,Cb,h,Jq es]
def Gd{n:Nat}(h:n<=es.length):Cb ((es.map (List.map L.p)++r).take n)=some (es.take n):=by
 rw[YK (by simpa using h),<-aP,Jq]
def Me{o n:Nat}(h:o+n<=es.length):Cb (((es.map (List.map L.p)++r).drop o).take n)=some ((es.drop o).take n):=by
 rw[List.drop_append_of_le_length (by simp;omega),YK (by simp;omega),<-nH,<-aP,Jq]
end
def W9 {fn:Func} {tS tR e:TypeId} (hf:X.P.funcs[f]?=some fn) (G8:(fn.name == "runtime.NumGoroutine")=false) (hb:fn.body.isNone=true) (hn:Extern.findNext fn=none)
  (he:Extern.find fn=some (Extern.SlicesOverlaps.overlaps #[tS,tS] #[tR])) (ht:IW X.P tS=some (e,1)) {d1 o1 n1 d2 o2 n2:Nat} {T1 T2:TypeId} {f2:Bool}
  (h1:Am d1 rs=some (.row T1 1 fv)) (h2:Am d2 rs=some (.lrow T2 1 f2 fw)) (DA:d1≠d2) (Q8:0<fv.length) (aY:0<fw.length):Ad X f [.own d1 o1 n1,.own d2 o2 n2] rs (.p (.bool false)):=by
 intro β Im w vs EU;obtain⟨v,u,rfl,r1,r2⟩:=bN EU;have m1:=Ax h1;have m2:=Ax h2;obtain⟨ht0,IS,h0⟩:=Dw ht;rcases EU.regs d1 _ m1 with⟨_,rfl⟩|⟨l1,c1,b1,z1,k1,q1,y1,-⟩
 ·simp at Q8
 rcases EU.regs d2 _ m2 with⟨_,rfl⟩|⟨l2,c2,b2,z2,k2,q2,y2,-⟩
 ·simp at aY
 rcases r1 with⟨l1',ì,a1,b1',_,_,_,rfl⟩|⟨PW,_⟩
 rotate_left
 ·rw[b1]at PW;cases PW
 rcases r2 with⟨l2',í,a2,b2',_,_,_,rfl⟩|⟨S8,_⟩
 rotate_left
 ·rw[b2]at S8;cases S8
 rw[b1]at b1';cases b1';rw[b2]at b2';cases b2';have du:=EU.apart d1 _ d2 _ l1 l2 m1 m2 DA b1 b2;refine⟨.bool false,?_,BW.bool _⟩;rw[run_callFunc_extern hf G8 hb hn he,
  Lib.run_overlaps_apart w tS tR e ht0 1 (fun w=>Bk (P:=X.P) IS de w) ⟨l1.blk,a1,none⟩ ⟨l2.blk,a2,none⟩ n1 ì n2 í du T1 T2 c1.length c2.length (by simp[World.shape?,k1]) (by simp[World.shape?,k2]) omg (by simp[World.frozen?,k1]) (by simp[World.frozen?,k1])]
 rfl
def Jxo{BR:BX}{l:L}(h:Al X f args rs fun m q=>m=l/\(q=(900,.row T 1 es)::BR\/∃b ls,q=(900,.lrow T 1 b ls)::BR/\Cb (ls.take n)=some es)):CA X f args rs l ((900,.row T 1 es)::BR):=by
 refine⟨h.1,fun β Im w vs hg hf=>(h.2 β Im w vs hg hf).mono fun e w' ⟨v,m,DU,β',CX,he,⟨hm,hq⟩,hr,hc⟩=>?_⟩;rcases hq with rfl|⟨b,ls,rfl,hp⟩
 ·exact⟨v,m,_,β',CX,he,⟨hm,rfl⟩,hr,hc⟩
 ·refine⟨v,m,_,β',CX,he,⟨hm,rfl⟩,hr,?_⟩;obtain⟨pl,pp⟩:=Dh hp;have QU:=hc.fit;have key:∀d r,(d,r)∈(900,DG.row T 1 es)::BR->∃r',(d,r')∈(900,DG.lrow T 1 b ls)::BR:=by
   intro d r hd;rcases DN.1 hd with hd|hd
   ·cases hd;exact⟨_,DQ⟩
   ·exact⟨r,EW _ hd⟩
  have JE:Ci β' w' CX 900 (.row T 1 es):=by
   rcases QU.regs 900 _ DQ with⟨hn,rfl⟩|⟨loc,cur,CM,YZ,Pq,FI,DO,UT,HW,EF,CP⟩
   ·refine .inl ⟨hn,KH (by simpa using pl.symm)⟩
   ·have key:∀(i:Nat) (q:List PV),es[i]?=some q->∃e,ls[i]?=some e/\e.length=q.length/\∀(j:Nat) (p:PV),q[j]?=some p->e[j]?=some (.p p):=by
     intro i q hq;obtain⟨e,he,ha⟩:=pp i q hq;have FO:ls[i]?=some e:=by
      rw[IQ]at he;split at he
      ·exact he
      ·cases he
     obtain⟨al,ag⟩:=Bh ha;refine⟨e,FO,al,fun j p hj=>?_⟩;obtain⟨l,DB⟩:=BQ al hj;have h1:=ag j l p DB hj;cases l<;>simp[L.pure?]at h1;subst h1;exact DB
    refine .inr ⟨loc,cur,CM,YZ,Pq,FI,by rw[<-pl,GF];omega,HW,fun q hq=>?_,fun i q j p hi hj=>?_⟩
    ·obtain⟨i,hi,rfl⟩:=PN hq;obtain⟨e,he,h1,h2⟩:=key i _ (C' hi);refine⟨by rw[<-h1];exact EF e (D4 he),fun p hp=>?_⟩;obtain⟨j,hj,rfl⟩:=PN hp;obtain⟨v,_,_,IY⟩:=CP i e j _ he (h2 j _ (C' hj));rcases IY with IY|IY
     ·exact IY
     ·cases IY
    ·obtain⟨e,he,h1,h2⟩:=key i q hi;obtain⟨v,hv,hr,_⟩:=CP i e j _ he (h2 j p hj);exact⟨v,hv,hr⟩
  refine{ hc with keys:=fun d r hd=>(key d r hd).elim fun r' h'=>hc.keys d r' h',regnew:=fun d r loc hd hl=>(key d r hd).elim fun r' h'=>hc.regnew d r' loc h' hl,fit:={ size:=QU.size,tmps:=QU.tmps,im:=QU.im,regs:=fun d r hd=>?_,nodup:=QU.nodup,live:=fun d r loc hd hl=>(key d r hd).elim fun r' h'=>QU.live d r' loc h' hl,apart:=fun d r d' r' l1 l2 hd PT DA h1 h2=>(key d r hd).elim fun r1 gf=>(key d' r' PT).elim fun r2 UC=>QU.apart d r1 d' r2 l1 l2 gf UC DA h1 h2 } };rcases DN.1 hd with hd|hd
  ·cases hd;exact JE
  ·exact QU.regs d r (EW _ hd)
def Al.sub{Post OW:L->BX->Prop}(h:Al X f args rs Post)(hp:∀m q,Post m q->∃q0,q0.Sublist q/\OW m q0):Al X f args rs OW:=by
 refine⟨h.1,fun β Im w vs hg hf=>(h.2 β Im w vs hg hf).mono fun e w' ⟨v,m,DU,β',CX,he,hP,hr,hc⟩=>?_⟩;obtain⟨q0,hs,hP'⟩:=hp m DU hP;have QU:=hc.fit;have key:∀d r,(d,r)∈q0->(d,r)∈DU:=fun d r hd=>hs.subset hd
 exact⟨v,m,q0,β',CX,he,hP',hr,{ hc with keys:=fun d r hd=>hc.keys d r (key d r hd),regnew:=fun d r loc hd hl=>hc.regnew d r loc (key d r hd) hl,fit:={ size:=QU.size,tmps:=QU.tmps,im:=QU.im,regs:=fun d r hd=>QU.regs d r (key d r hd),nodup:=QU.nodup.sublist (hs.map _),live:=fun d r loc hd hl=>QU.live d r loc (key d r hd) hl,apart:=fun d r d' r' l1 l2 hd PT DA h1 h2=>QU.apart d r d' r' l1 l2 (key d r hd) (key d' r' PT) DA h1 h2 } }⟩
def Kj{f:L->L}(hp:∀p,f (.p p)=.p p)(hj:f .junk=.junk)(es:List (List PV))(k:Nat):List.map (fun e=>List.map f e) (es.map (List.map L.p)++List.replicate k [L.junk])=es.map (List.map L.p)++List.replicate k [L.junk]:=by
 rw[Ry,OT,List.map_replicate];have h1:(fun e=>List.map f e)∘List.map L.p=List.map L.p:=by
  funext e;simp only[Function.comp,OT];congr 1;funext p;exact hp p
 rw[h1];simp[hj]
def Z8{k:Nat}(hi:i<es.length)(hk:k≠0) :
  (es.map (List.map L.p)++List.replicate k [L.junk]).take (i+1)++(es.drop i).map (List.map L.p)++(es.map (List.map L.p)++List.replicate k [L.junk]).drop (i+1+(es.length-i))=(es.take (i+1)++es.drop i).map (List.map L.p)++List.replicate (k-1) [L.junk]:=by
 rw[YK (by simp;omega),show i+1+(es.length-i)=(es.map (List.map L.p)).length+1 by simp;omega,List.drop_append,JD (show(es.map (List.map L.p)).length<=(es.map (List.map L.p)).length+1 by omega),List.nil_append,List.drop_replicate,Ry,aP];congr 2;simp
def Xp{k:Nat}{q:List PV}(hi:i<es.length) :
  ((es.take (i+1)++es.drop i).map (List.map L.p)++List.replicate k [L.junk]).take i++[q.map L.p]++((es.take (i+1)++es.drop i).map (List.map L.p)++List.replicate k [L.junk]).drop (i+1)=(es.take i++[q]++es.drop i).map (List.map L.p)++List.replicate k [L.junk]:=by
 rw[YK (by simp;omega),List.drop_append_of_le_length (by simp;omega),<-aP,<-nH,YK (by simp;omega),List.drop_append_of_le_length (by simp;omega),List.take_take,JD (show(es.take (i+1)).length<=i+1 by simp;omega),b4 omg];simp
def dw:Option TypeDesc->Prop|some (.slice _)=>True|_=>False
def Hi{e:TypeId}:dw (some (.slice e))=True:=(rfl)
def bU(By:Nat)(K:L->Prop):Option DG->Prop|some (.lrow _ _ true es)=>K (.p (.int .i64 (es.length-By:Nat)))|_=>False
def dz(regs:BX)(K:L->Prop):L->Prop|.p .snil=>K (.p (.int .i64 0))|.own d By _=>bU By K (Am d regs)|_=>False
def K9{P:Program}{r:BX}{t:List L}{o:Operand}{ty:TypeId}:RC P r ⟨t,r⟩ (.call { callee:=.builtin .cap,args:=#[o],argTypes:=#[ty] }) K=(dw (P.underlying ty)/\dz r K ((St.mk t r).get o)):=by
 have h1:(∃e,P.underlying ty=some (.slice e))↔dw (P.underlying ty):=by
  unfold dw;split
  ·rename_i e h;exact⟨fun _=>trivial,fun _=>⟨e,h⟩⟩
  ·rename_i h;exact⟨fun⟨k,hk⟩=>h k hk,fun h=>h.elim⟩
 unfold RC XS;simp only[h1];apply pe;constructor
 ·rintro⟨l,⟨h,h'⟩,hK⟩;refine⟨h,?_⟩;split at h'
  ·rename_i hg;rw[hg];subst h';exact hK
  ·rename_i d By n hg;rw[hg];show bU By K (Am d r);split at h'
   ·rename_i T sz es hr;rw[hr];subst h';exact hK
   ·exact h'.elim
  ·exact h'.elim
 ·rintro⟨h,hK⟩;unfold dz at hK;split at hK
  ·rename_i hg;rw[hg];exact⟨_,⟨h,rfl⟩,hK⟩
  ·rename_i d By n hg;rw[hg];unfold bU at hK;split at hK
   ·rename_i T sz es hr;simp only[hr];exact⟨_,⟨h,rfl⟩,hK⟩
   ·exact hK.elim
  ·exact hK.elim
def Hf{r:BX}{n:Nat}:dz r K (.own d By n)=bU By K (Am d r):=(rfl)
def Kc{T sz:Nat}{es:List (List L)}:bU By K (some (.lrow T sz true es))=K (.p (.int .i64 (es.length-By:Nat))):=(rfl)
section
attribute [local irreducible] Al Bi CL
def Cq(x:List UInt8):List (List UInt8)->Nat|[]=>0|s::l=>if Op.bytesLess s x=true then Cq x l+1 else 0
def Qt(x:List UInt8):∀l,Cq x l<=l.length
 |[]=>CS _
 |s::l=>by have:=Qt x l;simp only[Cq,DH];split<;>omega
def Zr{x:List UInt8}:∀{l:List (List UInt8)} {k:Nat} {s:List UInt8},k<Cq x l->l[k]?=some s->Op.bytesLess s x=true
 |[],_,_,h,_=>by simp[Cq]at h
 |t::l,k,s,h,hk=>by
  simp only[Cq]at h;split at h
  ·cases k with
   |zero=>simp at hk;subst hk;assumption
   |succ k=>exact Zr (l:=l) (k:=k) omg (by simpa using hk)
  ·omega
def Wz{x:List UInt8}:∀{l:List (List UInt8)} {s:List UInt8},l[Cq x l]?=some s->Op.bytesLess s x=false
 |[],_,h=>by simp at h
 |t::l,s,h=>by
  simp only[Cq]at h;split at h
  ·exact Wz (l:=l) (by simpa using h)
  ·rename_i h1;simp only[List.getElem?_cons_zero,Option.some.injEq]at h;subst h;exact Bool.not_eq_true _▸h1
def ld(x:List UInt8)(l:List (List UInt8)):Prop:=∀(i j:Nat) (s t:List UInt8),i<=j->l[i]?=some s->l[j]?=some t->Op.bytesLess t x=true->Op.bytesLess s x=true
def Jel{x:List UInt8}{l:List (List UInt8)}(î:ld x l){k:Nat}(hk:l[k]?=some s):(Op.bytesLess s x=true↔k<Cq x l):=by
 constructor
 ·intro h;by_cases BZ:k<Cq x l
  ·exact BZ
  ·have DV:=(DX.1 hk).1;obtain⟨t,ht⟩:∃t,l[Cq x l]?=some t:=⟨_,C' (show Cq x l<l.length from Nat.lt_of_le_of_lt (Nat.le_of_not_lt BZ) DV)⟩
   have:=î (Cq x l) k t s omg ht hk h;rw[Wz ht]at this;cases this
 ·exact fun h=>Zr h hk
def DP(l:List (List UInt8)):List (List PV):=l.map fun s=>[.str s]
def lf(l:List (List UInt8)):(DP l).length=l.length:=by simp[DP]
def Mo(x:List UInt8)(l:List (List UInt8)):Bool:=match l[Cq x l]? with
 |some s=>s==x
 |none=>false
def ï(h:i+j<=4000000000000):IntKind.i64.wrap ((IntKind.u64.wrap (IntKind.i64.wrap ((i:Int)+(j:Int)))).fdiv (2^min 1 (B0 .u64)))=(((i+j)/2:Nat):Int):=by
 have e:(((i+j:Nat):Int)).fdiv (2^min 1 (B0 .u64))=(((i+j)/2:Nat):Int):=by
  rw[show min 1 (B0 .u64)=1 by decide,oX _ de];simp
 rw[Aa (n:=(i:Int)+j) omg omg,show((i:Int)+(j:Int))=((i+j:Nat):Int)by omega,Mf (n:=((i+j:Nat):Int)) omg omg];rw[e,Aa omg omg]
def Jdr:CA cx 155 [.p (.str a)] [] (.p (.bool false)) []:=by
 (refine CK func155 ?_;simp only[go_sem,simprocAttr])
def Mt:CA cx 179 [.p (.str a)] [] (.p (.bool false)) []:=by
 (refine CK func179 ?_;simp only[go_sem,simprocAttr])
def Jh8(a b:List UInt8):CA cx 178 [.p (.str a),.p (.str b)] [] (.p (.bool (Op.bytesLess a b))) []:=by
 (refine CB func178 ?_);(repeat'(first|((refine BU (Jdr a) ?_);simp only[go_sem,simprocAttr])|fail))
def Jmd(x:List UInt8)(l:List (List UInt8))(î:ld x l)(hn:l.length<=1500000000000):CA cx 142 [.own 1000 0 l.length,.p (.str x)] [(1000,.row 9 1 (DP l))] (.tup [.int .i64 (Cq x l),.bool (Mo x l)]) [(1000,.row 9 1 (DP l))]:=by
 have D':=Qt x l;refine CB func142 ?_;refine CL.loop (fun p:Nat×Nat=>⟨Ba 54 [(0,.own 1000 0 l.length),(1,.p (.str x)),(5,.p (.bool false)),(6,.p (.int .i64 l.length)),(7,.p (.int .i64 p.1)),(8,.p (.int .i64 p.2))],[(1000,.row 9 1 (DP l))]⟩) (fun p=>p.1<=Cq x l/\Cq x l<=p.2/\p.2<=l.length) (fun p=>p.2-p.1) (0,l.length) CH ⟨EK _,D',CS _⟩ ?_;rintro⟨i,j⟩ ⟨h1,h2,h3⟩;simp only at h1 h2 h3;by_cases hi:i<j
 ·have hh:=ï (i:=i) (j:=j) omg;obtain⟨s,hs⟩:∃s,l[(i+j)/2]?=some s:=⟨_,C' (show(i+j)/2<l.length by omega)⟩
  have hg:(DP l)[(i+j)/2]?=some [.str s]:=by simp[DP,hs]
  have tY:=Jel î hs;have c1:((i:Int)<(j:Int))=True:=AE omg;have c2:=c1;(refine CC ?_;simp only[go_sem,simprocAttr,hh,hg,c1]);(repeat'(first|(apply BY<;>intro h)|refine EA ?_|refine CI (Jh8 s x) ?_|fail))
  ·have BZ:=tY.1 AN;exact⟨((i+j)/2+1,j),⟨by simp only;omega,by simp only;omega,by simp only;omega⟩,by simp only;omega,CH⟩
  ·have BZ:¬(i+j)/2<Cq x l:=fun h=>by have:=tY.2 h;simp_all
   exact⟨(i,(i+j)/2),⟨by simp only;omega,by simp only;omega,by simp only;omega⟩,by simp only;omega,CH⟩
 ·have c1:((i:Int)<(j:Int))=False:=AD omg;have QS:i=Cq x l:=omg;subst QS;have hh:=c1;by_cases hl:Cq x l<l.length
  ·have c2:((Cq x l:Int)<(l.length:Int))=True:=AE omg;obtain⟨s,hs⟩:∃s,l[Cq x l]?=some s:=⟨_,C' hl⟩
   have hg:(DP l)[Cq x l]?=some [.str s]:=by simp[DP,hs]
   have hf:Mo x l=(s==x):=by unfold Mo;rw[hs]
   (refine CC ?_;simp only[go_sem,simprocAttr,hh,hg,c2]);(repeat'(first|(apply BY<;>intro h)|refine CI (Mt s) ?_|fail))
   all_goals simp[hf, *]
  ·have hg:=c1;have c2:((Cq x l:Int)<(l.length:Int))=False:=AD omg;have hf:Mo x l=false:=by unfold Mo;rw[gR omg]
   (refine CC ?_;simp only[go_sem,simprocAttr,hh,c2])
   all_goals exact hf.symm
def Jbo{d1 o1 n1 d2 o2 n2:Nat}{T1 T2:TypeId}{f2:Bool}(h1:Am d1 rs=some (.row T1 1 fv))(h2:Am d2 rs=some (.lrow T2 1 f2 fw))(DA:d1≠d2)(Q8:0<fv.length)(aY:0<fw.length) :
  Ad cx 180 [.own d1 o1 n1,.own d2 o2 n2] rs (.p (.bool false)):=
 W9 (X:=cx) func180 kr kr kr (tS:=61) (tR:=4) (e:=9) kr so h1 h2 DA Q8 aY
def Yh(es:List (List PV))(n i:Nat)(x:List UInt8)(h:es.length=n)(hi:i<n)(hn:n<=1500000000000)(h1:∀q∈es,q.length=1):CA cx 143 [.own 1000 0 n,.p (.int .i64 i),.own 1001 0 1] [(1001,.row 9 1 [[.str x]]),(1000,.row 9 1 es)] (.own 900 0 (n+1)) [(900,.row 9 1 (es.take i++[[.str x]]++es.drop i)),(1001,.row 9 1 [[.str x]])]:=by
 refine Jxo (n+1) ?_;refine Al.sub (Post:=fun m q=>m=.own 900 0 (n+1)/\((∃r,q=[(900,.row 9 1 (es.take i++[[.str x]]++es.drop i)),(1001,.row 9 1 [[.str x]]),(1000,r)])\/∃b ls,q=[(900,.lrow 9 1 b ls),(1001,.row 9 1 [[.str x]])]/\Cb (ls.take (n+1))=some (es.take i++[[.str x]]++es.drop i))) ?_ (by
  rintro m q ⟨rfl,⟨r,rfl⟩|⟨b,ls,rfl,hp⟩⟩
  ·exact⟨_,((List.nil_sublist _).cons_cons _).cons_cons _,rfl,.inl rfl⟩
  ·exact⟨_,List.Sublist.refl _,rfl,.inr ⟨b,ls,rfl,hp⟩⟩)
 refine zt (X:=cx) true [(40,900)] sm func143 kr rfl (by simp only[DH,KM,ntmps143];decide) sm ?_;refine J3k (d:=1000) (T:=9) (es:=es) rfl omg fun k=>?_
 generalize TA:es.map (List.map L.p)++List.replicate k [L.junk]=ls;have GB:ls.length=n+k:=by rw[<-TA];simp[h]
 have c1:((i:Int)=(n:Int))=False:=AD omg;have SW:(0<ls.length)=True:=AE omg;have Zk:Cb (ls.take i)=some (es.take i):=by rw[<-TA];exact Gd omg
 have w1:IntKind.i64.wrap ((n:Int)+((1:Nat):Int))=((n+1:Nat):Int):=by rw[Aa omg omg];omega
 have w3:IntKind.i64.wrap ((i:Int)+((1:Nat):Int))=((i+1:Nat):Int):=by rw[Aa omg omg];omega
 have c4:(((1:Nat):Int)=0)=False:=sm;have c7:((1:Nat)=0)=False:=sm;have c6:(n-i=0)=False:=AD omg;have e2:List.take (n+1-i) [[PV.str x]]=[[PV.str x]]:=DK (by simp;omega);have e3:n+1-(i+1)=n-i:=omg;have e5:(es.drop i).length=n-i:=by simp[h]
 have MH:Cb ((ls.drop i).take (n-i))=some (es.drop i):=by rw[<-TA,Me omg,DK (by simp;omega)]
 by_cases hk:k=0
 ·subst hk;have c2:((ls.length:Int)<((n+1:Nat):Int))=True:=AE omg;have c3:((n:Int)<((n+1:Nat):Int))=True:=AE omg;have w2:IntKind.i64.wrap (((n+1:Nat):Int)-(i:Int))=((n+1-i:Nat):Int):=by rw[Aa omg omg];omega
  simp only[Nat.add_zero]at GB;have e1:i+(n+1-i)=n+1:=omg;have hT:(es.take i++List.replicate (n+1-i) [PV.str []]).take i=es.take i:=by rw[YK (by simp;omega),List.take_take,Nat.min_self]
  have hD:(es.take i++List.replicate (n+1-i) [PV.str []]).drop (i+1)=List.replicate (n-i) [PV.str []]:=by
   rw[List.drop_append,JD (by simp;omega),List.nil_append,List.drop_replicate];congr 1;simp;omega
  have hF:List.map (fun e=>List.map (L.forget 40) e) ls=ls:=by rw[<-TA];exact Kj (fun _=>rfl) rfl _ _
  have c5:(i+(n-i)<=n)=True:=AE omg;have e4:min (n-i) (n-i)=n-i:=Nat.min_self _;have hB:(es.take i++[[PV.str x]]++List.replicate (n-i) [PV.str []]).take (i+1)++es.drop i++(es.take i++[[PV.str x]]++List.replicate (n-i) [PV.str []]).drop (i+1+(n-i))=es.take i++[[PV.str x]]++es.drop i:=by
   have l1:(es.take i++[[PV.str x]]).length=i+1:=by simp;omega
   rw[YK omg,DK (l:=es.take i++[[PV.str x]]) omg,JD (show(es.take i++[[PV.str x]]++List.replicate (n-i) [PV.str []]).length<=i+1+(n-i)by simp;omega),ID]
  have hC:=hB;simp only[ntmps143,results143,go_sem,Nat.reduceLT,Nat.reduceLeDiff,Nat.reduceEqDiff,Nat.reduceAdd,Nat.reduceSub,Nat.reduceMul,Nat.reduceBEq,Int.reduceToNat,Int.reduceLT,Int.reduceLE,Int.reduceEq,Int.reduceAdd,Int.reduceSub,Int.reduceNeg,↓reduceIte,reduceCtorEq,K9,Hf,Kc,Hi,GB,c1,c2,c3,c4,c5,c6,c7,w1,w2,w3,Zk,MH,SW,if_true,if_false,Nat.sub_zero,aK,e1,e2,e3,e4,e5,hT,hD,hF,hB,hC];(refine CC ?_;simp only[go_sem,Nat.reduceLT,Nat.reduceLeDiff,Nat.reduceEqDiff,↓reduceIte,reduceCtorEq,K9,Hf,Kc,Hi,GB,c1,c3,c4,c7,w1,w2,Zk,Nat.sub_zero,aK,e1,e2,hT,hD,hF]);(repeat'(first|(refine And.intro (by first|omega|(simp;done)|(simp;omega)|(intro q hq;exact h1 q (OR hq))|(intro q hq;exact h1 q hq)|(intro q hq;simp at hq;subst hq;rfl)) ?_)|fail));(refine Gi 8 hm kr kr ?_;simp only[go_sem,Nat.reduceLT,Nat.reduceEqDiff,Nat.reduceAdd,↓reduceIte,reduceCtorEq,GB,c5,c6,w3,MH,e3,e4,e5,hB]);(repeat'(first|(refine And.intro (by first|omega|(simp;done)|(simp;omega)|(intro q hq;exact h1 q (OR hq))|(intro q hq;exact h1 q hq)|(intro q hq;simp at hq;subst hq;rfl)) ?_)|fail));exact .inl ⟨_,rfl⟩
 ·have c2:((ls.length:Int)<((n+1:Nat):Int))=False:=AD omg;have c3:(((n+k:Nat):Int)<((n+1:Nat):Int))=False:=AD omg;have w2:=c4;have e1:=c4;have hT:=c4;have hD:=c4;have hF:List.map (fun e=>List.map (L.map (Fb 1000 40)) e) ls=ls:=by rw[<-TA];exact Kj (fun _=>rfl) rfl _ _
  have c5:(i+(n+1-i)<=n+k)=True:=AE omg;have e4:min (n+1-i) (n-i)=n-i:=omg;have hB:ls.take (i+1)++(es.drop i).map (List.map L.p)++ls.drop (i+1+(n-i))=(es.take (i+1)++es.drop i).map (List.map L.p)++List.replicate (k-1) [L.junk]:=by
   have:=Z8 (es:=es) (i:=i) (k:=k) omg hk;rw[TA,h]at this;exact this
  have hC:((es.take (i+1)++es.drop i).map (List.map L.p)++List.replicate (k-1) [L.junk]).take i++[[L.p (.str x)]]++((es.take (i+1)++es.drop i).map (List.map L.p)++List.replicate (k-1) [L.junk]).drop (i+1)=(es.take i++[[PV.str x]]++es.drop i).map (List.map L.p)++List.replicate (k-1) [L.junk]:=Xp (q:=[PV.str x]) omg;simp only[ntmps143,results143,go_sem,Nat.reduceLT,Nat.reduceLeDiff,Nat.reduceEqDiff,Nat.reduceAdd,Nat.reduceSub,Nat.reduceMul,Nat.reduceBEq,Int.reduceToNat,Int.reduceLT,Int.reduceLE,Int.reduceEq,Int.reduceAdd,Int.reduceSub,Int.reduceNeg,↓reduceIte,reduceCtorEq,K9,Hf,Kc,Hi,GB,c1,c2,c3,c4,c5,c6,c7,w1,w2,w3,Zk,MH,SW,if_true,if_false,Nat.sub_zero,aK,e1,e2,e3,e4,e5,hT,hD,hF,hB,hC];(refine CC ?_;simp only[go_sem,Nat.reduceLT,Nat.reduceEqDiff,↓reduceIte,reduceCtorEq,K9,Hf,Kc,Hi,GB,c1,c3,c4,w1,w3,Nat.sub_zero,e3]);(repeat'(first|(refine And.intro (by first|omega|(simp;done)|(simp;omega)|(intro q hq;exact h1 q (OR hq))|(intro q hq;exact h1 q hq)|(intro q hq;simp at hq;subst hq;rfl)) ?_)|fail));refine Jyr (l:=.p (.bool false)) ?_ ?_
  ·exact Jbo rfl rfl de sm omg
  simp only[go_sem,Nat.reduceLT,↓reduceIte];refine HD (B1 [(1000,40)] _ sm) ?_;simp only[go_sem,Nat.reduceEqDiff,↓reduceIte,hF];(refine Gi 8 hm kr kr ?_;simp only[go_sem,Nat.reduceLT,Nat.reduceLeDiff,Nat.reduceEqDiff,Nat.reduceAdd,↓reduceIte,reduceCtorEq,GB,c5,c6,c7,w3,MH,e2,e3,e4,e5,hB,hC]);(repeat'(first|(refine And.intro (by first|omega|(simp;done)|(simp;omega)|(intro q hq;exact h1 q (OR hq))|(intro q hq;exact h1 q hq)|(intro q hq;simp at hq;subst hq;rfl)) ?_)|fail));rw[Kj (fun _=>rfl) rfl];exact .inr ⟨_,_,rfl,by rw[Gd (by simp;omega),DK (by simp;omega)]⟩
def Jod{d1 o1 n1 d2 o2 n2:Nat}{T1 T2:TypeId}{f2:Bool}(h1:Am d1 rs=some (.row T1 1 fv))(h2:Am d2 rs=some (.lrow T2 1 f2 fw))(DA:d1≠d2)(Q8:0<fv.length)(aY:0<fw.length) :
  Ad cx 182 [.own d1 o1 n1,.own d2 o2 n2] rs (.p (.bool false)):=
 W9 (X:=cx) func182 kr kr kr (tS:=53) (tR:=4) (e:=25) kr sn h1 h2 DA Q8 aY
def Jba(es:List (List PV))(n i:Nat)(x:PV)(hx:x.scalar=true)(h:es.length=n)(hi:i<n)(hn:n<=1500000000000)(h1:∀q∈es,q.length=1):CA cx 144 [.own 1000 0 n,.p (.int .i64 i),.own 1001 0 1] [(1001,.row 25 1 [[x]]),(1000,.row 25 1 es)] (.own 900 0 (n+1)) [(900,.row 25 1 (es.take i++[[x]]++es.drop i)),(1001,.row 25 1 [[x]])]:=by
 refine Jxo (n+1) ?_;refine Al.sub (Post:=fun m q=>m=.own 900 0 (n+1)/\((∃r,q=[(900,.row 25 1 (es.take i++[[x]]++es.drop i)),(1001,.row 25 1 [[x]]),(1000,r)])\/∃b ls,q=[(900,.lrow 25 1 b ls),(1001,.row 25 1 [[x]])]/\Cb (ls.take (n+1))=some (es.take i++[[x]]++es.drop i))) ?_ (by
  rintro m q ⟨rfl,⟨r,rfl⟩|⟨b,ls,rfl,hp⟩⟩
  ·exact⟨_,((List.nil_sublist _).cons_cons _).cons_cons _,rfl,.inl rfl⟩
  ·exact⟨_,List.Sublist.refl _,rfl,.inr ⟨b,ls,rfl,hp⟩⟩)
 refine zt (X:=cx) true [(40,900)] sm func144 kr rfl (by simp only[DH,KM,ntmps144];decide) sm ?_;refine J3k (d:=1000) (T:=25) (es:=es) rfl omg fun k=>?_
 generalize TA:es.map (List.map L.p)++List.replicate k [L.junk]=ls;have GB:ls.length=n+k:=by rw[<-TA];simp[h]
 have c1:((i:Int)=(n:Int))=False:=AD omg;have SW:(0<ls.length)=True:=AE omg;have Zk:Cb (ls.take i)=some (es.take i):=by rw[<-TA];exact Gd omg
 have w1:IntKind.i64.wrap ((n:Int)+((1:Nat):Int))=((n+1:Nat):Int):=by rw[Aa omg omg];omega
 have w3:IntKind.i64.wrap ((i:Int)+((1:Nat):Int))=((i+1:Nat):Int):=by rw[Aa omg omg];omega
 have c4:(((1:Nat):Int)=0)=False:=sm;have c7:((1:Nat)=0)=False:=sm;have c6:(n-i=0)=False:=AD omg;have e2:List.take (n+1-i) [[x]]=[[x]]:=DK (by simp;omega);have e3:n+1-(i+1)=n-i:=omg;have e5:(es.drop i).length=n-i:=by simp[h]
 have MH:Cb ((ls.drop i).take (n-i))=some (es.drop i):=by rw[<-TA,Me omg,DK (by simp;omega)]
 by_cases hk:k=0
 ·subst hk;have c2:((ls.length:Int)<((n+1:Nat):Int))=True:=AE omg;have c3:((n:Int)<((n+1:Nat):Int))=True:=AE omg;have w2:IntKind.i64.wrap (((n+1:Nat):Int)-(i:Int))=((n+1-i:Nat):Int):=by rw[Aa omg omg];omega
  simp only[Nat.add_zero]at GB;have e1:i+(n+1-i)=n+1:=omg;have hT:(es.take i++List.replicate (n+1-i) [PV.snil]).take i=es.take i:=by rw[YK (by simp;omega),List.take_take,Nat.min_self]
  have hD:(es.take i++List.replicate (n+1-i) [PV.snil]).drop (i+1)=List.replicate (n-i) [PV.snil]:=by
   rw[List.drop_append,JD (by simp;omega),List.nil_append,List.drop_replicate];congr 1;simp;omega
  have hF:List.map (fun e=>List.map (L.forget 40) e) ls=ls:=by rw[<-TA];exact Kj (fun _=>rfl) rfl _ _
  have c5:(i+(n-i)<=n)=True:=AE omg;have e4:min (n-i) (n-i)=n-i:=Nat.min_self _;have hB:(es.take i++[[x]]++List.replicate (n-i) [PV.snil]).take (i+1)++es.drop i++(es.take i++[[x]]++List.replicate (n-i) [PV.snil]).drop (i+1+(n-i))=es.take i++[[x]]++es.drop i:=by
   have l1:(es.take i++[[x]]).length=i+1:=by simp;omega
   rw[YK omg,DK (l:=es.take i++[[x]]) omg,JD (show(es.take i++[[x]]++List.replicate (n-i) [PV.snil]).length<=i+1+(n-i)by simp;omega),ID]
  have hC:=hB;simp only[ntmps144,results144,go_sem,Nat.reduceLT,Nat.reduceLeDiff,Nat.reduceEqDiff,Nat.reduceAdd,Nat.reduceSub,Nat.reduceMul,Nat.reduceBEq,Int.reduceToNat,Int.reduceLT,Int.reduceLE,Int.reduceEq,Int.reduceAdd,Int.reduceSub,Int.reduceNeg,↓reduceIte,reduceCtorEq,K9,Hf,Kc,Hi,GB,c1,c2,c3,c4,c5,c6,c7,w1,w2,w3,Zk,MH,SW,if_true,if_false,Nat.sub_zero,aK,e1,e2,e3,e4,e5,hT,hD,hF,hB,hC];(refine CC ?_;simp only[go_sem,Nat.reduceLT,Nat.reduceLeDiff,Nat.reduceEqDiff,↓reduceIte,reduceCtorEq,K9,Hf,Kc,Hi,GB,c1,c3,c4,c7,w1,w2,Zk,Nat.sub_zero,aK,e1,e2,hT,hD,hF]);(repeat'(first|(refine And.intro (by first|omega|(simp;done)|(simp;omega)|(intro q hq;exact h1 q (OR hq))|(intro q hq;exact h1 q hq)|(intro q hq;simp at hq;subst hq;rfl)) ?_)|fail));(refine Gi 8 hm kr kr ?_;simp only[go_sem,Nat.reduceLT,Nat.reduceEqDiff,Nat.reduceAdd,↓reduceIte,reduceCtorEq,GB,c5,c6,w3,MH,e3,e4,e5,hB]);(repeat'(first|(refine And.intro (by first|omega|(simp;done)|(simp;omega)|(intro q hq;exact h1 q (OR hq))|(intro q hq;exact h1 q hq)|(intro q hq;simp at hq;subst hq;rfl)) ?_)|fail));exact .inl ⟨_,rfl⟩
 ·have c2:((ls.length:Int)<((n+1:Nat):Int))=False:=AD omg;have c3:(((n+k:Nat):Int)<((n+1:Nat):Int))=False:=AD omg;have w2:=c4;have e1:=c4;have hT:=c4;have hD:=c4;have hF:List.map (fun e=>List.map (L.map (Fb 1000 40)) e) ls=ls:=by rw[<-TA];exact Kj (fun _=>rfl) rfl _ _
  have c5:(i+(n+1-i)<=n+k)=True:=AE omg;have e4:min (n+1-i) (n-i)=n-i:=omg;have hB:ls.take (i+1)++(es.drop i).map (List.map L.p)++ls.drop (i+1+(n-i))=(es.take (i+1)++es.drop i).map (List.map L.p)++List.replicate (k-1) [L.junk]:=by
   have:=Z8 (es:=es) (i:=i) (k:=k) omg hk;rw[TA,h]at this;exact this
  have hC:((es.take (i+1)++es.drop i).map (List.map L.p)++List.replicate (k-1) [L.junk]).take i++[[L.p x]]++((es.take (i+1)++es.drop i).map (List.map L.p)++List.replicate (k-1) [L.junk]).drop (i+1)=(es.take i++[[x]]++es.drop i).map (List.map L.p)++List.replicate (k-1) [L.junk]:=Xp (q:=[x]) omg;simp only[ntmps144,results144,go_sem,Nat.reduceLT,Nat.reduceLeDiff,Nat.reduceEqDiff,Nat.reduceAdd,Nat.reduceSub,Nat.reduceMul,Nat.reduceBEq,Int.reduceToNat,Int.reduceLT,Int.reduceLE,Int.reduceEq,Int.reduceAdd,Int.reduceSub,Int.reduceNeg,↓reduceIte,reduceCtorEq,K9,Hf,Kc,Hi,GB,c1,c2,c3,c4,c5,c6,c7,w1,w2,w3,Zk,MH,SW,if_true,if_false,Nat.sub_zero,aK,e1,e2,e3,e4,e5,hT,hD,hF,hB,hC];(refine CC ?_;simp only[go_sem,Nat.reduceLT,Nat.reduceEqDiff,↓reduceIte,reduceCtorEq,K9,Hf,Kc,Hi,GB,c1,c3,c4,w1,w3,Nat.sub_zero,e3]);(repeat'(first|(refine And.intro (by first|omega|(simp;done)|(simp;omega)|(intro q hq;exact h1 q (OR hq))|(intro q hq;exact h1 q hq)|(intro q hq;simp at hq;subst hq;rfl)) ?_)|fail));refine Jyr (l:=.p (.bool false)) ?_ ?_
  ·exact Jod rfl rfl de sm omg
  simp only[go_sem,Nat.reduceLT,↓reduceIte];refine HD (B1 [(1000,40)] _ sm) ?_;simp only[go_sem,Nat.reduceEqDiff,↓reduceIte,hF];(refine Gi 8 hm kr kr ?_;simp only[go_sem,Nat.reduceLT,Nat.reduceLeDiff,Nat.reduceEqDiff,Nat.reduceAdd,↓reduceIte,reduceCtorEq,GB,c5,c6,c7,w3,MH,e2,e3,e4,e5,hB,hC]);(repeat'(first|(refine And.intro (by first|omega|(simp;done)|(simp;omega)|(intro q hq;exact h1 q (OR hq))|(intro q hq;exact h1 q hq)|(intro q hq;simp at hq;subst hq;rfl)) ?_)|fail));rw[Kj (fun _=>rfl) rfl];exact .inr ⟨_,_,rfl,by rw[Gd (by simp;omega),DK (by simp;omega)]⟩
end
def E0:∀a:List UInt8,Op.bytesLess a a=false
 |[]=>rfl
 |x::a=>by simp[Op.bytesLess,E0 a]
def H8:∀{a b c:List UInt8},Op.bytesLess a b=true->Op.bytesLess b c=true->Op.bytesLess a c=true
 |_,[],_,h,_=>by simp[Op.bytesLess]at h
 |_,_::_,[],_,h=>by simp[Op.bytesLess]at h
 |[],_::_,_::_,_,_=>rfl
 |x::a,y::b,z::c,h1,h2=>by
  simp only[Op.bytesLess,WG,AF,OS,AK]at h1 h2⊢;rcases h1 with h1|⟨rfl,h1⟩
  ·rcases h2 with h2|⟨rfl,h2⟩
   ·exact .inl (UInt8.lt_trans h1 h2)
   ·exact .inl h1
  ·rcases h2 with h2|⟨rfl,h2⟩
   ·exact .inl h2
   ·exact .inr ⟨rfl,H8 h1 h2⟩
def L3{a b:List UInt8}(h:Op.bytesLess a b=true):Op.bytesLess b a=false:=by
 cases h':Op.bytesLess b a with
 |false=>rfl
 |true=>have:=H8 h h';rw[E0]at this;cases this
def tZ{a b:List UInt8}(h:Op.bytesLess a b=true):a≠b:=by
 rintro rfl;rw[E0]at h;cases h
def Qf:∀{a b:List UInt8},Op.bytesLess a b=false->a≠b->Op.bytesLess b a=true
 |[],[],_,h=>absurd rfl h
 |[],_::_,h,_=>by simp[Op.bytesLess]at h
 |_::_,[],_,_=>rfl
 |x::a,y::b,h1,h2=>by
  simp only[Op.bytesLess,Bool.or_eq_false_iff,AI,Bool.and_eq_false_imp,AK]at h1;simp only[Op.bytesLess,WG,AF,OS,AK];obtain⟨h3,h4⟩:=h1;by_cases QC:x=y
  ·subst QC;exact .inr ⟨rfl,Qf (h4 rfl) (by rintro rfl;exact h2 rfl)⟩
  ·left;rcases UInt8.lt_or_lt_of_ne QC with h|h
   ·exact absurd h h3
   ·exact h
def fx(a b:List UInt8):Prop:=Op.bytesLess b a=false
def Jg7{a b c:List UInt8}(h1:fx a b)(h2:fx b c):fx a c:=by
 unfold fx at *
 cases h:Op.bytesLess c a with
 |false=>rfl
 |true =>
  by_cases e:b=c
  ·subst e;rw[h1]at h;cases h
  ·have h3:=Qf h2 (Ne.symm e);have:=H8 h3 h;rw[h1]at this;cases this
abbrev KT:=List UInt8×BM
variable {l:List KT}
def EJ(l:List KT):Prop:=l.Pairwise fun a b=>Op.bytesLess a.1 b.1=true
def EJ.tail{p:KT}(h:EJ (p::l)):EJ l:=(NC.1 h).2
def EJ.nodup(h:EJ l):(l.map (·.1)).Nodup:=by
 unfold List.Nodup;rw[fG];exact List.Pairwise.imp (fun h=>tZ h) h
def EV(name:List UInt8)(t:BM):List KT->List KT|[]=>[(name,t)]|p::l=>if Op.bytesLess p.1 name=true then p::EV name t l else(name,t)::p::l
def Hv(name:List UInt8)(t:BM):∀l,(EV name t l).Perm ((name,t)::l)
 |[]=>.refl _
 |p::l=>by
  unfold EV;split
  ·exact((Hv name t l).cons p).trans (.swap _ _ _)
  ·exact .refl _
def Jjz{q:KT}:q∈EV name t l↔q=(name,t)\/q∈l:=by
 rw[(Hv name t l).mem_iff,DN]
def Lz(name:List UInt8)(t:BM)(l:List KT):(EV name t l).length=l.length+1:=by
 rw[(Hv name t l).length_eq];rfl
def Kh{name:List UInt8}{t:BM}:∀{l:List KT},EJ l->(∀p∈l,p.1≠name)->EJ (EV name t l)
 |[],_,_=>List.pairwise_singleton _ _
 |p::l,h,hn=>by
  unfold EV;obtain⟨h1,h2⟩:=NC.1 h;split
  ·rename_i BZ;refine NC.2 ⟨fun q hq=>?_,Kh h2 fun q hq=>hn q (EW _ hq)⟩;rcases Jjz.1 hq with rfl|hq
   ·exact BZ
   ·exact h1 q hq
  ·rename_i BZ;have h3:=Qf (a:=p.1) (b:=name) (by simpa using BZ) (hn p DQ);refine NC.2 ⟨fun q hq=>?_,h⟩;rcases DN.1 hq with rfl|hq
   ·exact h3
   ·exact H8 h3 (h1 q hq)
def Jy:∀{a b:List KT},EJ a->EJ b->a.Perm b->a=b
 |[],b,_,_,h=>(List.nil_perm.1 h).symm
 |p::a,[],_,_,h=>by simp at h
 |p::a,q::b,h1,h2,h=>by
  obtain⟨g1,g2⟩:=NC.1 h1;obtain⟨k1,k2⟩:=NC.1 h2;have e:p=q:=by
   have m1:p∈q::b:=h.mem_iff.1 DQ;have m2:q∈p::a:=h.mem_iff.2 DQ;rcases DN.1 m1 with e|m1
   ·exact e
   ·rcases DN.1 m2 with e|m2
    ·exact e.symm
    ·have:=L3 (g1 q m2);rw[k1 p m1]at this;cases this
  subst e;rw[Jy g2 k2 (List.Perm.cons_inv h)]
def Lp:List KT->List KT|[]=>[]|p::l=>EV p.1 p.2 (Lp l)
def E3:∀l,(Lp l).Perm l
 |[]=>.refl _
 |p::l=>(Hv _ _ _).trans ((E3 l).cons p)
def Jj:∀{l:List KT},(l.map (·.1)).Nodup->EJ (Lp l)
 |[],_=>.nil
 |p::l,h=>by
  rw[Fc,UO]at h;refine Kh (Jj h.2) fun q hq e=>h.1 ?_
  rw[<-e];exact List.mem_map_of_mem ((E3 l).mem_iff.1 hq)
def Jwx(h:EJ l):Lp l=l:=Jy (Jj h.nodup) h (E3 l)
def Jay(h:EJ l)(hn:∀p∈l,p.1≠name):Lp (l++[(name,t)])=EV name t l:=by
 refine Jy (Jj ?_) (Kh h hn) ((E3 _).trans ?_)
 ·rw[Ry,bw];refine⟨h.nodup,by simp,fun a ha b hb=>?_⟩;obtain⟨p,hp,rfl⟩:=FB.1 ha;simp at hb;subst hb;exact hn p hp
 ·exact(List.perm_append_comm (l₁:=l) (l₂:=[(name,t)])).trans (Hv name t l).symm
def E1:List Bool->List KT->List KT|b::D,p::l=>if b=true then E1 D l else p::E1 D l|_,_=>[]
def LZ:List Bool->Nat|[]=>0|b::D=>if b=true then LZ D+1 else LZ D
def Jdj:∀D,LZ D<=D.length
 |[]=>CS _
 |b::D=>by have:=Jdj D;simp only[LZ,DH];split<;>omega
def Ya:∀{D:List Bool} {b:Nat},D[b]?=some false->LZ (D.set b true)=LZ D+1
 |[],b,h=>by simp at h
 |x::D,0,h=>by simp at h;subst h;simp[LZ]
 |x::D,b+1,h=>by
  simp only[List.set_cons_succ,LZ,Ya (D:=D) (b:=b) (by simpa using h)];split<;>rfl
def Y8:∀{D:List Bool},(∀j,j<D.length->D[j]?=some true)->LZ D=D.length
 |[],_=>rfl
 |x::D,h=>by
  have h0:=h 0 sm;simp at h0;subst h0;simp only[LZ,if_true,DH];rw[Y8 fun j hj=>by simpa using h (j+1) (by simp;omega)]
def Rn:∀{D:List Bool} {l:List KT},LZ D=D.length->E1 D l=[]
 |[],_,_=>rfl
 |x::D,[],_=>rfl
 |x::D,p::l,h=>by
  have:=Jdj D;cases x
  ·simp[LZ]at h;omega
  ·simp[LZ]at h;simp only[E1,if_true];exact Rn h
def R1:∀l:List KT,E1 (List.replicate l.length false) l=l
 |[]=>rfl
 |p::l=>by simp only[DH,List.replicate_succ,E1,VM,if_false,R1 l]
def Tn:∀n,LZ (List.replicate n false)=0
 |0=>rfl
 |n+1=>by simp[List.replicate_succ,LZ,Tn n]
def Nf:∀{D:List Bool} {l:List KT} {p:KT},p∈E1 D l->∃j:Nat,l[j]?=some p/\D[j]?=some false
 |[],_,p,h=>by simp[E1]at h
 |x::D,[],p,h=>by simp[E1]at h
 |x::D,q::l,p,h=>by
  unfold E1 at h;split at h
  ·obtain⟨j,h1,h2⟩:=Nf h;exact⟨j+1,by simpa using h1,by simpa using h2⟩
  ·rename_i hx;rcases DN.1 h with rfl|h
   ·exact⟨0,rfl,by simpa using hx⟩
   ·obtain⟨j,h1,h2⟩:=Nf h;exact⟨j+1,by simpa using h1,by simpa using h2⟩
def Ol:∀{D:List Bool} {l:List KT} {p:KT} {j:Nat},l[j]?=some p->D[j]?=some false->p∈E1 D l
 |[],_,_,_,_,h=>by simp at h
 |_::_,[],_,_,h,_=>by simp at h
 |x::D,q::l,p,0,h,h'=>by
  simp at h h';subst h;subst h';simp[E1]
 |x::D,q::l,p,j+1,h,h'=>by
  have:=Ol (D:=D) (l:=l) (j:=j) (by simpa using h) (by simpa using h');unfold E1;split
  ·exact this
  ·exact EW _ this
def Qi:∀{D:List Bool} {l:List KT} {p:KT} {j:Nat},l[j]?=some p->D[j]?=some false->(E1 D l).Perm (p::E1 (D.set j true) l)
 |[],_,_,_,_,h=>by simp at h
 |_::_,[],_,_,h,_=>by simp at h
 |x::D,q::l,p,0,h,h'=>by
  simp at h h';subst h;subst h';simp[E1]
 |x::D,q::l,p,j+1,h,h'=>by
  have:=Qi (D:=D) (l:=l) (j:=j) (by simpa using h) (by simpa using h');simp only[List.set_cons_succ,E1];split
  ·exact this
  ·exact(this.cons q).trans (.swap _ _ _)
structure NQ (l S:List KT) (D:List Bool):Prop where
 len:D.length=l.length
 cnt:LZ D=S.length
 perm:(S++E1 D l).Perm l
 rise:EJ S
 low:∀s∈S,∀p∈E1 D l,fx s.1 p.1
def J6c(l:List KT):NQ l [] (List.replicate l.length false):=
 ⟨by simp,Tn _,by rw[List.nil_append,R1],.nil,by simp⟩
def NQ.done{S:List KT}(h:NQ l S D)(hn:S.length=l.length):S.Perm l:=by
 have:=h.perm;rw[Rn (by rw[h.cnt,hn,h.len]),ID]at this;exact this
def NQ.next{S:List KT}(h:NQ l S D){p:KT}(hp:l[b]?=some p)(hb:D[b]?=some false)(hm:∀(j:Nat) (q:KT),l[j]?=some q->D[j]?=some false->fx p.1 q.1)(hl:∀q,S.getLast?=some q->q.1≠p.1):NQ l (S++[p]) (D.set b true):=by
 have gW:=Ol hp hb;have ht:=Qi hp hb;refine⟨by simp[h.len],by rw[Ya hb,h.cnt];simp,?_,?_,?_⟩
 ·rw[KJ];exact((List.Perm.append_left S ht.symm)).trans h.perm
 ·refine fE.2 ⟨h.rise,List.pairwise_singleton _ _,fun s hs q hq=>?_⟩;rw[KI]at hq;subst hq;have h1:=h.low s hs q gW;by_cases e:s.1=q.1
  ·exfalso;obtain⟨S',z,rfl⟩:∃S' z,S=S'++[z]:=by
    rcases List.eq_nil_or_concat S with rfl|⟨S',z,rfl⟩
    ·cases hs
    ·exact⟨S',z,by simp⟩
   have hz:=hl z sm;have h2:=h.low z sm q gW;have h3:=Qf (a:=q.1) (b:=z.1) h2 (Ne.symm hz);rcases H'.1 hs with hs|hs
   ·have h4:=(fE.1 h.rise).2.2 s hs z sm;rw[e]at h4;have:=L3 h4;rw[h3]at this;cases this
   ·rw[KI]at hs;subst hs;exact hz e
  ·exact Qf (a:=q.1) (b:=s.1) h1 (Ne.symm e)
 ·intro s hs q hq;have FJ:q∈E1 D l:=ht.mem_iff.2 (EW _ hq);rcases H'.1 hs with hs|hs
  ·exact h.low s hs q FJ
  ·rw[KI]at hs;subst hs;obtain⟨j,h1,h2⟩:=Nf FJ;exact hm j q h1 h2
def NQ.twice{S:List KT}(h:NQ l S D){p q:KT}(hp:l[b]?=some p)(hb:D[b]?=some false)(hl:S.getLast?=some q)(he:q.1=p.1):¬(l.map (·.1)).Nodup:=by
 intro hn;have h1:=(h.perm.map (·.1)).nodup_iff.2 hn;rw[Ry,bw]at h1;exact h1.2.2 q.1 (List.mem_map_of_mem (List.mem_of_getLast? hl)) p.1 (List.mem_map_of_mem (Ol hp hb)) he
section
attribute [local irreducible] Al Bi CL
def Se(es:List (List PV))(n i:Nat)(x:List UInt8)(h:es.length=n)(hi:i<=n)(hn:n<=1500000000000)(h1:∀q∈es,q.length=1):CA cx 143 [.own 1000 0 n,.p (.int .i64 i),.own 1001 0 1] [(1001,.row 9 1 [[.str x]]),(1000,.row 9 1 es)] (.own 900 0 (n+1)) [(900,.row 9 1 (es.take i++[[.str x]]++es.drop i)),(1001,.row 9 1 [[.str x]])]:=by
 by_cases h2:i<n
 ·exact Yh es n i x h h2 hn h1
 ·obtain rfl:i=n:=omg;have:=Qn es i x h hn;rw[DK omg,JD omg,ID];exact this
def Ss(es:List (List PV))(n i:Nat)(x:PV)(hx:x.scalar=true)(h:es.length=n)(hi:i<=n)(hn:n<=1500000000000)(h1:∀q∈es,q.length=1):CA cx 144 [.own 1000 0 n,.p (.int .i64 i),.own 1001 0 1] [(1001,.row 25 1 [[x]]),(1000,.row 25 1 es)] (.own 900 0 (n+1)) [(900,.row 25 1 (es.take i++[[x]]++es.drop i)),(1001,.row 25 1 [[x]])]:=by
 by_cases h2:i<n
 ·exact Jba es n i x hx h h2 hn h1
 ·obtain rfl:i=n:=omg;have:=S0 es i x hx h hn;rw[DK omg,JD omg,ID];exact this
def Vn(name:List UInt8)(t:BM):∀l:List KT,EV name t l=l.take (Cq name (l.map (·.1)))++[(name,t)]++l.drop (Cq name (l.map (·.1)))
 |[]=>rfl
 |p::l=>by
  simp only[EV,Fc,Cq];split
  ·rw[Vn name t l];rfl
  ·rfl
def U8(h:EJ l):ld name (l.map (·.1)):=by
 intro i j s t QS hi hj BZ;rw[Eam]at hi hj;obtain⟨p,hp,rfl⟩:=HF.1 hi;obtain⟨q,hq,rfl⟩:=HF.1 hj;rcases Nat.lt_or_eq_of_le QS with h2|rfl
 ·obtain⟨Q8,rfl⟩:=DX.1 hp;obtain⟨nZ,rfl⟩:=DX.1 hq;exact H8 (List.pairwise_iff_getElem.1 h i j Q8 nZ h2) BZ
 ·rw[hp]at hq;cases hq;exact BZ
def xi(l:List KT):Bd l=DP (l.map (·.1)):=by simp[Bd,DP]
def Om{name:List UInt8}:∀{l:List KT} {p:KT},p∈A8 name l↔p∈l/\p.1≠name
 |[],p=>by simp[A8]
 |q::l,p=>by
  simp only[A8];split
  ·rename_i h;rw[Om];constructor
   ·exact fun⟨h1,h2⟩=>⟨EW _ h1,h2⟩
   ·rintro⟨h1,h2⟩;rcases DN.1 h1 with rfl|h1
    ·exact absurd h h2
    ·exact⟨h1,h2⟩
  ·rename_i h;rw[DN,Om,DN];constructor
   ·rintro(rfl|⟨h1,h2⟩)
    ·exact⟨.inl rfl,h⟩
    ·exact⟨.inr h1,h2⟩
   ·rintro⟨rfl|h1,h2⟩
    ·exact .inl rfl
    ·exact .inr ⟨h1,h2⟩
def N8(name:List UInt8):∀l:List KT,(A8 name l).Sublist l
 |[]=>.slnil
 |p::l=>by
  simp only[A8];split
  ·exact(N8 name l).cons _
  ·exact(N8 name l).cons_cons _
def EJ.kept(h:EJ l)(name:List UInt8):EJ (A8 name l):=List.Pairwise.sublist (N8 name l) h
def Iv(name:List UInt8)(t:BM):∀l:List KT,(A1 (EV name t l)).enc.length=(A1 l).enc.length+(t.enc []).length
 |[]=>by simp only[EV,A1,A0,Bl,DC,KM,G7 t name];omega
 |p::l=>by
  unfold EV;split
  ·simp only[A1,A0,DC,Iv name t l];omega
  ·simp only[A1,A0,DC,G7 t name];omega
def Ker(s:List UInt8)(g:Bool)(e:Int)(BL:BO)(name:List UInt8)(t:BM)(hv:BL.enc.length<=600000000000)(ht:(t.enc []).length<=600000000000)(hr:EJ (A8 name BL.list)):CA cx 93 [.p (.sl (BP ((BM.mk 6 s g e BL).enc nm))),.p (.str name),.p (.sl (BP (t.enc [])))] [] (.p (.sl (BP ((BM.mk 6 [] false 0 (A1 (EV name t (A8 name BL.list)))).enc [])))) []:=by
 have hw:=Jfw nm s g e BL name omg;have DV:=El name BL;have RL:=KE (A1 (A8 name BL.list));rw[Ca]at RL;generalize hK:A8 name BL.list=K at *
 have hp:=Ñ [] 6 [] false 0 (A1 K) omg;have LC:=Jnc [] [] false 0 (A1 K) omg;rw[Hd,Ca]at hp LC;have hb:=Jmd name (K.map (·.1)) (U8 hr) (by simp;omega);rw[<-xi,HM]at hb;have cL:=Qt name (K.map (·.1));rw[HM]at cL;have i1:=Se (Bd K) K.length (Cq name (K.map (·.1))) name (A9 K) cL omg (by intro q hq;obtain⟨p,_,rfl⟩:=FB.1 hq;rfl);have i2:=Ss (A4 K) K.length (Cq name (K.map (·.1))) (.sl (BP (t.enc []))) rfl (A5 K) cL omg (by intro q hq;obtain⟨p,_,rfl⟩:=FB.1 hq;rfl);have e1:(Bd K).take (Cq name (K.map (·.1)))++[[PV.str name]]++(Bd K).drop (Cq name (K.map (·.1)))=Bd (EV name t K):=by
  rw[Vn];simp[Bd,aP,nH]
 have e2:(A4 K).take (Cq name (K.map (·.1)))++[[PV.sl (BP (t.enc []))]]++(A4 K).drop (Cq name (K.map (·.1)))=A4 (EV name t K):=by
  rw[Vn];simp[A4,aP,nH]
 rw[e1]at i1;rw[e2]at i2;have ð:=Φ (EV name t K) (by rw[Iv];omega);have l1:(K.length+1<=(Bd (EV name t K)).length)=True:=AE (by rw[A9,Lz];omega);have l2:(K.length+1<=(A4 (EV name t K)).length)=True:=AE (by rw[A5,Lz];omega);have t1:(Bd (EV name t K)).take (K.length+1)=Bd (EV name t K):=DK (by rw[A9,Lz];omega);have t2:(A4 (EV name t K)).take (K.length+1)=A4 (EV name t K):=DK (by rw[A5,Lz];omega);refine CB func93 ?_;(repeat'(first|((first|refine BU hw ?_|refine BU hp ?_|refine BU LC ?_|refine BU hb ?_|refine BU i1 ?_|refine BU i2 ?_|refine BU ð ?_);simp only[go_sem,simprocAttr,l1,l2,t1,t2])|fail))
open Classical in
noncomputable def M3 (l:List KT):Bool:=decide ((∀p∈l,valid p.1=true)/\(l.map (·.1)).Nodup)
noncomputable def RS (l:List KT):L:=if M3 l=true then .tup [.sl (BP ((BM.mk 6 [] false 0 (A1 (Lp l))).enc [])),.int .i64 0]else .tup [.snil,.int .i64 4]
def J7(D:List Bool):List (List PV):=D.map fun b=>[.bool b]
def Hm{a b:List KT}(h:a.Perm b):(A1 a).enc.length=(A1 b).enc.length:=by
 induction h with
 |nil=>rfl
 |cons x _ ih=>simp only[A1,A0,DC,ih]
 |swap x y l=>simp only[A1,A0,DC];omega
 |trans _ _ h1 h2=>exact h1.trans h2
def Zc(l:List KT)(hv:(A1 l).enc.length<=1350000000000)(hs:∀p∈l,p.1.length<=1000000):CA cx 34 [.p (.sl (Bd l)),.p (.sl (A4 l))] [] (RS l) []:=by
 have GB:=KE (A1 l);rw[Ca]at GB;have rep:List.replicate l.length [PV.bool false]=J7 (List.replicate l.length false):=by simp[J7]
 have cz:((0:Int)<=(l.length:Int))=True:=AE omg;(refine CK func34 ?_;simp only[go_sem,simprocAttr,A9,A5,rep,cz]);(repeat'(first|refine EA ?_|fail));refine HD (B1 [(16,86),(17,93)] _ sm) ?_;simp only[go_sem,simprocAttr];refine CL.loop (fun x:List KT×List Bool=>⟨Ba 97 [(0,.p (.sl (Bd l))),(1,.p (.sl (A4 l))),(6,.own 86 0 x.1.length),(7,.own 93 0 x.1.length),(8,.own 20 0 l.length)],[(20,.row 4 1 (J7 x.2)),(93,.row 25 1 (A4 x.1)),(86,.row 9 1 (Bd x.1))]⟩) (fun x=>NQ l x.1 x.2/\(∀p∈x.1,valid p.1=true)/\x.1.length<=l.length) (fun x=>l.length-x.1.length) ([],List.replicate l.length false) CH ⟨J6c l,by simp,EK _⟩ ?_;rintro⟨S,D⟩ ⟨hP,hV,hS⟩;simp only at hP hV hS;have hDl:=hP.len;by_cases BZ:¬S.length<l.length
 ·have c1:((S.length:Int)<(l.length:Int))=False:=AD omg;have hSl:S.length=l.length:=omg;have tc:=hP.done hSl;have td:M3 l=true:=by
   unfold M3;rw[AF];exact⟨fun p hp=>hV p (tc.mem_iff.2 hp),(tc.map (·.1)).nodup_iff.1 hP.rise.nodup⟩
  have hso:Lp l=S:=Jy (Jj ((tc.map (·.1)).nodup_iff.1 hP.rise.nodup)) hP.rise ((E3 l).trans tc.symm);have tn:(Bd S).take S.length=Bd S:=DK (by rw[A9];omega);have tp:(A4 S).take S.length=A4 S:=DK (by rw[A5];omega);have ln:(S.length<=S.length)=True:=AE (CS _);have lp:=ln;(refine CC ?_;simp only[go_sem,simprocAttr,A9,A5,c1,tn,tp,ln]);(repeat'(first|((refine BU (Iy S (by rw[Hm tc];omega)) ?_);simp only[go_sem,simprocAttr])|fail));unfold RS;rw[AB td,hso]
 ·have BZ:=JK.1 BZ;have c1:((S.length:Int)<(l.length:Int))=True:=AE omg;have tn:=c1;have tp:=c1;have ln:=c1;have lp:=c1;(refine CC ?_;simp only[go_sem,simprocAttr,A9,c1]);refine CL.loop (fun x:Nat×Int=>⟨Ba 97 [(0,.p (.sl (Bd l))),(1,.p (.sl (A4 l))),(6,.own 86 0 S.length),(7,.own 93 0 S.length),(8,.own 20 0 l.length),(9,.p (.int .i64 x.2)),(10,.p (.int .i64 x.1))],[(20,.row 4 1 (J7 D)),(93,.row 25 1 (A4 S)),(86,.row 9 1 (Bd S))]⟩) (fun x=>x.1<=l.length/\((x.2 = -1/\∀j,j<x.1->D[j]?=some true)\/∃b:Nat,x.2=b/\b<x.1/\D[b]?=some false/\∃p,l[b]?=some p/\∀(j:Nat) (q:KT),j<x.1->l[j]?=some q->D[j]?=some false->fx p.1 q.1)) (fun x=>l.length-x.1) (0,-1) CH ⟨EK _,.inl ⟨rfl,fun j h=>by omega⟩⟩ ?_;rintro⟨i,z⟩ ⟨hi,hz⟩;simp only at hi hz;by_cases FU:¬i<l.length
  ·have c2:((i:Int)<(l.length:Int))=False:=AD omg;obtain rfl:i=l.length:=omg;rcases hz with⟨_,hz⟩|⟨b,rfl,hb,xj,p,hp,II⟩
   ·have:=Y8 (D:=D) (fun j hj=>hz j omg);have:=hP.cnt;omega
   ·have JY:(Bd l)[b]?=some [.str p.1]:=by simp[Bd,hp]
    have RQ:(A4 l)[b]?=some [.sl (BP (p.2.enc []))]:=by simp[A4,hp]
    have lg:(J7 D)[b]?=some [.bool false]:=by simp[J7,xj]
    have dE:∀(j:Nat) (q:KT),l[j]?=some q->D[j]?=some false->fx p.1 q.1:=fun j q h1 h2=>II j q (DX.1 h1).1 h1 h2
    have KX:=D4 hp;have cu:(J7 D).set b [.bool true]=J7 (D.set b true):=by simp[J7,fH]
    have dC:∀(S:List KT),Bd S++[[.str p.1]]=Bd (S++[p]):=fun S=>by simp[Bd]
    have xk:∀(S:List KT),A4 S++[[.sl (BP (p.2.enc []))]]=A4 (S++[p]):=fun S=>by simp[A4]
    have w1:IntKind.i64.wrap ((S.length:Int)-1)=(S.length:Int)-1:=Aa omg omg;cases aa:valid p.1 with
    |false =>
     have td:M3 l=false:=by
      unfold M3;rw[AI];rintro⟨h,_⟩;rw[h p KX]at aa;cases aa
     have SH:=c2;have TN:=c2;have c8:=c2;have bV:=c2;(refine CC ?_;simp only[go_sem,simprocAttr,A9,c2]);refine Ah hm (by rfl) kr ?_;simp only[go_sem,simprocAttr,JY];refine DS (Cn p.1 (hs p KX)) ?_;simp only[go_sem,simprocAttr,aa];unfold RS;rw[td];simp
    |true =>
     cases hg:S.getLast? with
     |none =>
      have ñ:S=[]:=List.getLast?_eq_none_iff.1 hg;subst ñ;have SH:=c2;have TN:=c2;have c8:((0:Int)<((0:Nat):Int))=False:=sm;have bV:=c2;have hN:=hP.next hp xj dE (fun q hq=>by simp at hq);(refine CC ?_;simp only[go_sem,simprocAttr,A9,c2]);refine Ah hm (by rfl) kr ?_;simp only[go_sem,simprocAttr,JY];refine DS (Cn p.1 (hs p KX)) ?_;simp only[go_sem,simprocAttr,A9,A5,JY,RQ,lg,cu,dC,xk,aa];(repeat'(first|(refine And.intro (by first|omega|(simp;done)|(simp;omega)) ?_)|fail));exact⟨([p],D.set b true),⟨hN,by simp[aa],by simp;omega⟩,by simp;omega,CH⟩
     |some q =>
      have SH:(Bd S)[S.length-1]?=some [.str q.1]:=by
       rw[List.getLast?_eq_getElem?]at hg;simp[Bd,hg]
      have TN:((S.length:Int)-1).toNat=S.length-1:=omg;have hSp:0<S.length:=by cases S with
       |nil=>simp at hg
       |cons a S=>simp
      have c8:((0:Int)<(S.length:Int))=True:=AE omg;by_cases xl:q.1=p.1
      ·have bV:(q.1==p.1)=true:=by rw[xl];simp
       have td:M3 l=false:=by
        unfold M3;rw[AI];exact fun h=>hP.twice hp xj hg xl h.2
       (refine CC ?_;simp only[go_sem,simprocAttr,A9,c2]);refine Ah hm (by rfl) kr ?_;simp only[go_sem,simprocAttr,JY];refine DS (Cn p.1 (hs p KX)) ?_;simp only[go_sem,simprocAttr,JY,w1,SH,TN,aa,c8,bV];(repeat'(first|(refine And.intro (by first|omega|(simp;done)|(simp;omega)) ?_)|fail));unfold RS;rw[td];simp
      ·have bV:(q.1==p.1)=false:=by simpa using xl
       have hN:=hP.next hp xj dE (fun q' hq=>by rw[hg]at hq;cases hq;exact xl);(refine CC ?_;simp only[go_sem,simprocAttr,A9,c2]);refine Ah hm (by rfl) kr ?_;simp only[go_sem,simprocAttr,JY];refine DS (Cn p.1 (hs p KX)) ?_;simp only[go_sem,simprocAttr,A9,A5,JY,RQ,lg,cu,dC,xk,w1,SH,TN,aa,c8,bV];(repeat'(first|(refine And.intro (by first|omega|(simp;done)|(simp;omega)) ?_)|fail));refine⟨(S++[p],D.set b true),⟨hN,fun x hx=>?_,by simp;omega⟩,by simp;omega,CH⟩;rcases H'.1 hx with hx|hx
       ·exact hV x hx
       ·rw[KI]at hx;subst hx;exact aa
  ·have FU:=JK.1 FU;have c2:((i:Int)<(l.length:Int))=True:=AE omg;obtain⟨q,hq⟩:∃q,l[i]?=some q:=⟨_,C' FU⟩
   obtain⟨f,hf⟩:∃f,D[i]?=some f:=⟨_,C' omg⟩
   have JY:(Bd l)[i]?=some [.str q.1]:=by simp[Bd,hq]
   have lg:(J7 D)[i]?=some [.bool f]:=by simp[J7,hf]
   have w1:IntKind.i64.wrap ((i:Int)+((1:Nat):Int))=((i+1:Nat):Int):=by rw[Aa omg omg];omega
   have w1':IntKind.i64.wrap ((i:Int)+1)=((i+1:Nat):Int):=by rw[Aa omg omg];omega
   have RQ:=w1;have cu:=w1;have dC:=w1;have xk:=w1;have TN:=w1';have aa:=w1;cases f with
   |true =>
    have SH:=w1;have c8:=w1;have bV:=w1;(refine CC ?_;simp only[go_sem,simprocAttr,A9,c2]);refine Ah hm (by rfl) kr ?_;simp only[go_sem,simprocAttr,c2,lg,TN];refine⟨(i+1,z),⟨by simp only;omega,?_⟩,by simp only;omega,CH⟩;simp only;rcases hz with⟨h1,h2⟩|⟨b,h1,h2,h3,p,h4,h5⟩
    ·refine .inl ⟨h1,fun j hj=>?_⟩;by_cases HC:j=i
     ·subst HC;exact hf
     ·exact h2 j omg
    ·refine .inr ⟨b,h1,omg,h3,p,h4,fun j r hj hr hd=>?_⟩;by_cases HC:j=i
     ·subst HC;rw[hf]at hd;cases hd
     ·exact h5 j r omg hr hd
   |false =>
    rcases hz with⟨rfl,h2⟩|⟨b,rfl,h2,h3,p,h4,h5⟩
    ·have SH:=w1;have c8:((-1:Int)<0)=True:=sm;have bV:=w1;(refine CC ?_;simp only[go_sem,simprocAttr,A9,c2]);refine Ah hm (by rfl) kr ?_;simp only[go_sem,simprocAttr,c2,lg,TN,c8];refine⟨(i+1,i),⟨by simp only;omega,.inr ⟨i,rfl,by simp only;omega,hf,q,hq,fun j r hj hr hd=>?_⟩⟩,by simp only;omega,CH⟩;simp only at hj;by_cases HC:j=i
     ·subst HC;rw[hq]at hr;cases hr;exact E0 _
     ·rw[h2 j omg]at hd;cases hd
    ·have SH:(Bd l)[b]?=some [.str p.1]:=by simp[Bd,h4]
     have c8:((b:Int)<0)=False:=AD omg;cases MQ:Op.bytesLess q.1 p.1 with
     |true =>
      have bV:=MQ;(refine CC ?_;simp only[go_sem,simprocAttr,A9,c2]);refine Ah hm (by rfl) kr ?_;simp only[go_sem,simprocAttr,c2,JY,lg,SH,TN,c8,bV];refine⟨(i+1,i),⟨by simp only;omega,.inr ⟨i,rfl,by simp only;omega,hf,q,hq,fun j r hj hr hd=>?_⟩⟩,by simp only;omega,CH⟩;simp only at hj;by_cases HC:j=i
      ·subst HC;rw[hq]at hr;cases hr;exact E0 _
      ·exact Jg7 (L3 MQ) (h5 j r omg hr hd)
     |false =>
      have bV:=MQ;(refine CC ?_;simp only[go_sem,simprocAttr,A9,c2]);refine Ah hm (by rfl) kr ?_;simp only[go_sem,simprocAttr,c2,JY,lg,SH,TN,c8,bV];refine⟨(i+1,b),⟨by simp only;omega,.inr ⟨b,rfl,by simp only;omega,h3,p,h4,fun j r hj hr hd=>?_⟩⟩,by simp only;omega,CH⟩;simp only at hj;by_cases HC:j=i
      ·subst HC;rw[hq]at hr;cases hr;exact MQ
      ·exact h5 j r omg hr hd
def Jy6(s:List UInt8)(g:Bool)(e:Int)(BL:BO)(name:List UInt8)(hv:BL.enc.length<=1350000000000):CA cx 76 [.p (.sl (BP ((BM.mk 6 s g e BL).enc nm))),.p (.str name)] [] (.p (.sl (BP ((BM.mk 6 [] false 0 (A1 (A8 name BL.list))).enc [])))) []:=by
 have GB:=KE BL;have DV:=LU BL;refine CB func76 ?_;(repeat'(first|(first|refine CI (Ir nm s g e BL omg) ?_|refine CI (Dy nm 6 s g e BL omg) ?_)|fail));refine HD (B1 [(14,34),(15,41)] _ sm) ?_;simp only[go_sem,simprocAttr];refine CL.loop (fun k:Nat=>⟨Ba 45 [(0,.p (.sl (BP ((BM.mk 6 s g e BL).enc nm)))),(1,.p (.str name)),(5,.p (.sl (Bd BL.list))),(6,.p (.sl (A4 BL.list))),(7,.own 34 0 (A8 name (BL.list.take k)).length),(8,.own 41 0 (A8 name (BL.list.take k)).length),(9,.p (.int .i64 k))],[(41,.row 25 1 (A4 (A8 name (BL.list.take k)))),(34,.row 9 1 (Bd (A8 name (BL.list.take k))))]⟩) (fun k=>k<=BL.list.length) (fun k=>BL.list.length-k) 0 (by simp only[QN,A8,Jen,Jet,KM];exact CH) (EK _) ?_;intro k hk;have HE:=Rg name (BL.list.take k);rw[GF]at HE;by_cases BZ:¬k<BL.list.length
 ·have c1:((k:Int)<(BL.list.length:Int))=False:=AD omg;have tk:BL.list.take k=BL.list:=DK omg;rw[tk];have tn:(Bd (A8 name BL.list)).take (A8 name BL.list).length=Bd (A8 name BL.list):=DK (by rw[A9];omega);have tp:(A4 (A8 name BL.list)).take (A8 name BL.list).length=A4 (A8 name BL.list):=DK (by rw[A5];omega);have ln:((A8 name BL.list).length<=(Bd (A8 name BL.list)).length)=True:=AE (by rw[A9];omega);have lp:((A8 name BL.list).length<=(A4 (A8 name BL.list)).length)=True:=AE (by rw[A5];omega);have ll:((A8 name BL.list).length<=(A8 name BL.list).length)=True:=AE (CS _);have lM:=El name BL;have JY:=c1;have RQ:=c1;have DA:=c1;have w1:=c1;have e1:=c1;have e2:=c1;have e3:=c1;(refine CC ?_;simp only[go_sem,simprocAttr,A9,c1,tn,tp,lp,ll]);(repeat'(first|((refine BU (Iy (A8 name BL.list) omg) ?_);simp only[go_sem,simprocAttr])|fail))
 ·have BZ:=JK.1 BZ;have c1:((k:Int)<(BL.list.length:Int))=True:=AE omg;obtain⟨p,hp⟩:∃p,BL.list[k]?=some p:=⟨_,C' BZ⟩
  have JY:(Bd BL.list)[k]?=some [.str p.1]:=by simp[Bd,hp]
  have RQ:(A4 BL.list)[k]?=some [.sl (BP (p.2.enc []))]:=by simp[A4,hp]
  have w1:=HL (i:=k) omg;have tn:=c1;have tp:=c1;have lp:=c1;by_cases hn:p.1=name
  ·have DA:(p.1=name)=True:=AE hn;have ln:=c1;have ll:=c1;have e1:=c1;have e2:=c1;have e3:=c1;(refine CC ?_;simp only[go_sem,simprocAttr,A9,c1,JY,DA,w1]);refine⟨k+1,BZ,omg,?_⟩;rw[Ld hp hn];exact CH
  ·have DA:(p.1=name)=False:=AD hn;have e1:(Bd (A8 name (BL.list.take k))).length=(A8 name (BL.list.take k)).length:=A9 _;have e2:(A4 (A8 name (BL.list.take k))).length=(A8 name (BL.list.take k)).length:=A5 _;have e3:=c1;have ln:=c1;have ll:=c1;have t1:A4 (A8 name (BL.list.take (k+1)))=A4 (A8 name (BL.list.take k))++[[.sl (BP (p.2.enc []))]]:=by rw[C8 hp hn,Tj];rfl
   have t2:Bd (A8 name (BL.list.take (k+1)))=Bd (A8 name (BL.list.take k))++[[.str p.1]]:=by rw[C8 hp hn,T6];rfl
   have t3:(A8 name (BL.list.take (k+1))).length=(A8 name (BL.list.take k)).length+1:=by rw[C8 hp hn,DC];rfl
   (refine CC ?_;simp only[go_sem,simprocAttr,A9,c1,JY,RQ,DA,w1,e1,e2]);(repeat'(first|(refine And.intro (by first|omega|(simp;done)|(simp;omega)) ?_)|fail));refine⟨k+1,BZ,omg,?_⟩;rw[t1,t2,t3];exact CH
def Tl(s:List UInt8)(g:Bool)(e:Int)(BL:BO)(name:List UInt8)(t:BM)(hv:BL.enc.length<=600000000000)(ht:(t.enc []).length<=600000000000)(hr:EJ (A8 name BL.list))(hs:∀p∈BL.list,p.1.length<=1000000)(gY:∀p∈BL.list,valid p.1=true)(hn:name.length<=1000000)(oA:valid name=true):CA cx 106 [.p (.sl (BP ((BM.mk 6 s g e BL).enc nm))),.p (.str name),.p (.sl (BP (t.enc [])))] [] (.p (.sl (BP ((BM.mk 6 [] false 0 (A1 (EV name t (A8 name BL.list)))).enc [])))) []:=by
 have hw:=Jy6 nm s g e BL name omg;have DV:=El name BL;have RL:=KE (A1 (A8 name BL.list));rw[Ca]at RL;have xm:∀p∈A8 name BL.list,p∈BL.list/\p.1≠name:=fun p hp=>Om.1 hp
 generalize hK:A8 name BL.list=K at *
 have hp:=Qx [] 6 [] false 0 (A1 K) omg;have LC:=Jau [] [] false 0 (A1 K) omg;rw[Hd,Ca]at hp LC;have e1:Bd K++[[PV.str name]]=Bd (K++[(name,t)]):=by simp[Bd]
 have e2:A4 K++[[PV.sl (BP (t.enc []))]]=A4 (K++[(name,t)]):=by simp[A4]
 have ò:Lp (K++[(name,t)])=EV name t K:=Jay hr fun p hp=>(xm p hp).2
 have GZ:M3 (K++[(name,t)])=true:=by
  unfold M3;rw[AF];refine⟨fun p hp=>?_,?_⟩
  ·rcases H'.1 hp with hp|hp
   ·exact gY p (xm p hp).1
   ·rw[KI]at hp;subst hp;exact oA
  ·have:=(E3 (K++[(name,t)])).map (·.1);rw[ò]at this;exact this.nodup_iff.1 (Kh hr fun p hp=>(xm p hp).2).nodup
 have hO:=Zc (K++[(name,t)]) (by
  have:=Hm (E3 (K++[(name,t)]));rw[ò,Iv]at this;omega) (fun p hp=>by
  rcases H'.1 hp with hp|hp
  ·exact hs p (xm p hp).1
  ·rw[KI]at hp;subst hp;exact hn)
 unfold RS at hO;rw[AB GZ,ò]at hO;have l1:(K.length+1<=(Bd (K++[(name,t)])).length)=True:=AE (by rw[A9];simp);have l2:(K.length+1<=(A4 (K++[(name,t)])).length)=True:=AE (by rw[A5];simp);have t1:(Bd (K++[(name,t)])).take (K.length+1)=Bd (K++[(name,t)]):=DK (by rw[A9];simp);have t2:(A4 (K++[(name,t)])).take (K.length+1)=A4 (K++[(name,t)]):=DK (by rw[A5];simp);have n1:(Bd K).length=K.length:=A9 _;have n2:(A4 K).length=K.length:=A5 _;refine CB func106 ?_;(repeat'(first|((first|refine BU hw ?_|refine BU LC ?_);simp only[go_sem,simprocAttr,e1,n1])|fail));(repeat'(first|(refine And.intro (by first|omega|(simp;done)|(simp;omega)) ?_)|fail));(repeat'(first|((refine BU hp ?_);simp only[go_sem,simprocAttr,l1,l2,t1,t2,e2,n2])|fail));(repeat'(first|(refine And.intro (by first|omega|(simp;done)|(simp;omega)) ?_)|fail));(repeat'(first|((refine BU hO ?_);simp only[go_sem,simprocAttr])|fail))
end
def tf(c:UInt8):Bool:=decide (48<=c.toNat)&&decide (c.toNat<=57)
def Pk(s:List UInt8):Bool:=s.all tf
def Yz(s:List UInt8)(g:Bool)(e:Int):Prop := Pk s=true/\s.length<=100/\-1000<=e/\e<=1000/\(s.length:Int)+e<=1000/\(if s=[]then g=false/\e=0 else BS s 0≠48/\BS s (s.length-1)≠48)
instance (s:List UInt8) (g:Bool) (e:Int):Decidable (Yz s g e):=by unfold Yz;infer_instance
def G3(k:Int)(s:List UInt8)(g:Bool)(e:Int)(m:Int):Prop := if k=0\/k=1\/k=2 then m=0/\s=[]/\g=false/\e=0 else if k=3 then m=0/\Yz s g e else if k=4 then valid s=true/\m=0/\g=false/\e=0 else if k=5\/k=6 then 0<=m/\s=[]/\g=false/\e=0 else False
instance (k:Int) (s:List UInt8) (g:Bool) (e m:Int):Decidable (G3 k s g e m):=by unfold G3;infer_instance
def Eh(k:Int)(l:List KT):Prop:=(k=5->∀p∈l,p.1=[])/\(∀p∈l,valid p.1=true)/\(k=6->EJ l)
mutual
def EZ:BM->Prop|.mk k s g e BL=>G3 k s g e BL.len/\Eh k BL.list/\U' BL
def U':BO->Prop|.nil=>True|.cons _ t r=>EZ t/\U' r
end
def Lu:EZ (.mk k s g e BL)↔G3 k s g e BL.len/\Eh k BL.list/\U' BL:=by rw[EZ]
def Fs{nm:List UInt8}{r:BO}:U' (.cons nm t r)↔EZ t/\U' r:=by rw[U']
def I6:U' .nil:=by rw[U'];trivial
def Jdq:∀{a b:BO},U' (a.app b)↔U' a/\U' b
 |.nil,b=>by simp[BO.app,I6]
 |.cons nm t r,b=>by rw[BO.app,Fs,Fs,Jdq (a:=r)];exact and_assoc.symm
def Jjp{nm:List UInt8}{r:BO}:U' (.cons nm (.mk k s g e BL) r)↔G3 k s g e BL.len/\Eh k BL.list/\U' (BL.app r):=by
 rw[Fs,Lu,Jdq];constructor
 ·rintro⟨⟨h1,h2,h3⟩,h4⟩;exact⟨h1,h2,h3,h4⟩
 ·rintro⟨h1,h2,h3,h4⟩;exact⟨⟨h1,h2,h3⟩,h4⟩
def xn:∀{f:BO},U' f ↔ ∀p∈f.list,EZ p.2
 |.nil=>by simp[BO.list,I6]
 |.cons nm t r=>by rw[Fs,xn (f:=r),BO.list,List.forall_mem_cons]
def Sb(k:Int):Eh k []:=⟨by simp,by simp,fun _=>.nil⟩
def Jaa{p:KT}:Eh k (p::l)↔(k=5->p.1=[])/\valid p.1=true/\(k=6->∀q,l.head?=some q->Op.bytesLess p.1 q.1=true)/\Eh k l:=by
 unfold Eh;constructor
 ·rintro⟨h1,h2,h3⟩;refine⟨fun hk=>h1 hk p DQ,h2 p DQ,fun hk q hq=>?_,fun hk q hq=>h1 hk q (EW _ hq),fun q hq=>h2 q (EW _ hq),fun hk=>(h3 hk).tail⟩;exact(NC.1 (h3 hk)).1 q (List.mem_of_head? hq)
 ·rintro⟨h1,h2,h3,h4,h5,h6⟩;refine⟨fun hk q hq=>?_,fun q hq=>?_,fun hk=>NC.2 ⟨fun q hq=>?_,h6 hk⟩⟩
  ·rcases DN.1 hq with rfl|hq
   ·exact h1 hk
   ·exact h4 hk q hq
  ·rcases DN.1 hq with rfl|hq
   ·exact h2
   ·exact h5 q hq
  ·cases l with
   |nil=>cases hq
   |cons r l =>
    have h7:=h3 hk r rfl;rcases DN.1 hq with rfl|hq
    ·exact h7
    ·exact H8 h7 ((NC.1 (h6 hk)).1 q hq)
def XC(L:Nat):List Node->Nat->Option Nat|_,0=>some 0|[],_+1=>none|n::r,o+1=>if n.many<0\/(L:Int)<n.many then none else(XC L r (o+n.many.toNat)).map (· + 1)
def Jxq:∀(m:Nat) (F:BO),m<=F.len->∃A B:BO,F=A.app B/\A.len=m
 |0,F,_=>⟨.nil,F,rfl,rfl⟩
 |m+1,.nil,h=>by simp[BO.len]at h
 |m+1,.cons nm t r,h=>by
  obtain⟨A,B,h1,h2⟩:=Jxq m r (by simp only[BO.len]at h;omega);exact⟨.cons nm t A,B,by rw[BO.app,<-h1],by simp only[BO.len,h2]⟩
def Qg{L:Nat}:∀{v:List Node} {o k:Nat},XC L v o=some k->∃F:BO,F.len=o/\v=F.enc++v.drop k/\F.enc.length=k
 |v,0,k,h=>by
  simp[XC]at h;subst h;exact⟨.nil,rfl,by simp[Bl],by simp[Bl]⟩
 |[],o+1,k,h=>by simp[XC]at h
 |n::r,o+1,k,h=>by
  simp only[XC]at h;split at h
  ·cases h
  ·rename_i hn;obtain⟨k',h',rfl⟩:=HF.1 h;obtain⟨F,h1,h2,h3⟩:=Qg h';obtain⟨A,B,rfl,hA⟩:=Jxq n.many.toNat F omg;rw[kz]at h1;rw[QW]at h2 h3;refine⟨.cons n.name (.mk n.kind n.s n.neg n.e A) B,by simp only[BO.len];omega,?_,?_⟩
   ·rw[A0,A6,cg];have e:(⟨n.kind,A.len,n.name,n.s,n.neg,n.e⟩:Node)=n:=by
     have:(A.len:Int)=n.many:=omg;rw[this]
    rw[e];simp only[PQ,KJ];congr 1;rw[<-KJ];exact h2
   ·rw[A0,A6,DC,DH];rw[DC]at h3;omega
def Q3{L:Nat}:∀(n:Nat) (F:BO) (r:List Node),F.enc.length<=n->F.enc.length<=L->XC L (F.enc++r) F.len=some F.enc.length
 |_,.nil,r,_,_=>by simp[BO.len,XC,Bl]
 |0,.cons nm t BR,r,h,_=>by
  have:=Et t nm;rw[A0,DC]at h;omega
 |n+1,.cons nm (.mk k s g e BL) BR,r,h,hL=>by
  rw[A0,A6,DC,DH]at h hL;have hk:=KE BL;have ih:=Q3 (L:=L) n (BL.app BR) r (by rw[QW,DC];omega) (by rw[QW,DC];omega);rw[QW,kz,KJ,DC]at ih;simp only[A0,A6,PQ,KJ,BO.len,XC];rw[AA omg];simp only[Int.toNat_natCast];rw[YM BR.len,ih];simp only[Option.map_some,DH,DC]
def Jcx:XC v.length v 1=some v.length ↔ ∃nm t,v=BM.enc nm t:=by
 constructor
 ·intro h;obtain⟨F,h1,h2,h3⟩:=Qg h;rw[nQ,ID]at h2
  match F,h1,h2 with
  |.cons nm t .nil,_,h2=>exact⟨nm,t,by rw[h2,A0,Bl,ID]⟩
 ·rintro⟨nm,t,rfl⟩;have:=Q3 (L:=(t.enc nm).length) (t.enc nm).length (.cons nm t .nil) [] (by rw[A0,Bl];simp) (by rw[A0,Bl];simp);simpa[A0,Bl,BO.len]using this
def R0(v:List Node):Prop:=∃t,EZ t/\v=t.enc []
open Classical in
noncomputable def Jw (v:List Node):Bool:=decide (R0 v)
def Iq:Jw v=true↔R0 v:=by unfold Jw;exact @decide_eq_true_iff _ (Classical.propDecidable _)
end Go.LX
