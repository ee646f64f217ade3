/- Of the library, on strings. -/
import Derived.Test.YtaghbedfogiopaaGreatDoorTxG
import Derived.Lib.ItoaLen
set_option linter.all false
set_option maxRecDepth 100000
set_option maxHeartbeats 2000000
namespace Go.LX
open Go Go.RowKit Go.Proofs Go.Proofs.Tryz
variable (s l:List UInt8)(r n:Int){k v:PV}(c m:Nat){i:Nat}(q:IntKind){w:World}{Im:Nat->Prop}(rs:List Int)(Of:Bool)
section
attribute [local irreducible] Al Bi CL
def S6(fn s:List UInt8)(b c:Int)(hs:s.length<=1000000):CA cx 219 [.p (.str fn),.p (.str s),.p (.int .i64 b),.p (.int .i64 c),.p (.ifi 236 .i64 2)] [] (.p .ifc) []:=by
 refine Jws (enters_of func219 kr rfl) fun β Im w vs hg hf=>?_
 have hl:vs.length=5:=by simpa using hf.size
 match vs,hl with
 |[v1,v2,v3,v4,v5],_ =>
  have e1:=Ks (hf.tmps 0 _ rfl);have e2:=Ks (hf.tmps 1 _ rfl);have e3:=Mz (hf.tmps 2 _ rfl);have e4:=Mz (hf.tmps 3 _ rfl);have e5:=Jn2 (hf.tmps 4 _ rfl);simp[Array.getD]at e1 e2 e3 e4 e5;subst e1 e2 e3 e4 e5;obtain⟨te,pe,he⟩:=(fa hg).syn;exact(Tryz.strconv_toError_syntax ⟨⟨fn⟩⟩ ⟨⟨s⟩⟩ b c _ w (Nat.le_trans hs de) he (.inr ⟨te,pe,rfl⟩)).mono fun e w' ⟨N,he,_,_,hb⟩=>⟨⟨_,he,fun _ _ _=>.ifc _ _⟩,hb⟩
def Vk(o:Option Nat):L:=match o with
 |some n=>.tup [.int .u64 n,.nifc]
 |none=>.tup [.int .u64 0,.ifc]
def Zn(hs:s.length=4):CA cx 264 [.p (.str s),.p (.int .i64 16),.p (.int .i64 16)] [] (Vk (HS s 0)) []:=by
 cases h:HS s 0 with
 |some n =>
  have hc:=Kf s hs;rw[h]at hc;simp only[Ô]at hc;refine CB func264 ?_;(repeat'(first|refine CI hc ?_|fail));rfl
 |none =>
  have hc:=Kf s hs;rw[h]at hc;simp only[Ô]at hc;refine CB func264 ?_;(repeat'(first|(first|refine CI hc ?_|refine CI (S6 _ s _ _ omg) ?_)|fail));rfl
def Fu(c:Int):CA cx 190 [.p (.str s),.p (.int .u8 c)] [] (.p (.int .i64 (Lib.indexByte s c.toNat.toUInt8))) []:=by
 refine fX (v:=.int .i64 (Lib.indexByte s c.toNat.toUInt8)) (enters_of func190 kr rfl) rfl (fun _ _ _=>.int _ _) fun β Im w vs hg hf=>?_
 obtain⟨v,u,rfl,hv,hu⟩:=bN hf;have:=Ks hv;subst this;have:=Mz hu;subst this;exact(Tryz.strings_IndexByte ⟨⟨s⟩⟩ c w).mono fun e w' ⟨he,hw⟩=>⟨he,hw▸Below.refl _ _⟩
def K3:Nat×Nat:=if s.length=0 then(65533,0)else dec s 0
def C4:CA cx 199 [.p (.str s)] [] (.tup [.int .i32 (K3 s).1,.int .i64 (K3 s).2]) []:=by
 refine fX (v:=.tuple #[.int .i32 (K3 s).1,.int .i64 (K3 s).2]) (enters_of func199 kr rfl) rfl (fun β w Im=>⟨[.int .i32 (K3 s).1,.int .i64 (K3 s).2],rfl,rfl,fun i x p hi hp=>?_⟩) fun β Im w vs hg hf=>?_
 ·rcases i with _|_|i<;>simp at hi hp
  ·subst hi hp;exact .int _ _
  ·subst hi hp;exact .int _ _
 ·obtain⟨v,rfl,hv⟩:=Ue hf;have:=Ks hv;subst this;exact(Tryz.utf8_DecodeRuneInString ⟨⟨s⟩⟩ w (fa hg).tabs).mono fun e w' ⟨he,hb⟩=>⟨he,hb⟩
def Jh(s p:List UInt8)(hs:s.length<=1000000)(hp:p.length<=1000000):CA cx 189 [.p (.str s),.p (.str p)] [] (.p (.bool (s.take p.length==p))) []:=by
 (refine CB func189 ?_);(repeat'(apply BY<;>intro h))
 ·exact h
 ·symm;rw[AL];intro e;have:=congrArg List.length e;simp at this;omega
def Bj(s p:List UInt8)(hs:s.length<=1000000)(hp:p.length<=1000000):CA cx 148 [.p (.str s),.p (.str p)] [] (.p (.bool (s.take p.length==p))) []:=by
 (refine CB func148 ?_);(repeat'(first|((refine BU (Jh s p hs hp) ?_);simp only[go_sem,simprocAttr])|fail))
def R8:(Utf8.encode r).data.toList=FG r:=by
 have ho:∀n:Nat,GN (n:Int)=UInt8.ofNat n:=fun n=>by
  unfold GN;apply UInt8.toNat_inj.1;simp;omega
 unfold Utf8.encode;simp only[Utf8.valid,WG,OS,AF,Utf8.runeError];by_cases hv:(0<=r/\r<55296)\/(57344<=r/\r<=1114111)
 ·obtain⟨n,rfl⟩:=ZU (a:=r) omg;rw[AB hv];simp only[Int.toNat_natCast];by_cases c1:n<128
  ·rw[AB c1,FG,Nb omg];simp[ho]
  by_cases c2:n<2048
  ·rw[AA c1,AB c2,FG,Oc omg];simp only[Fc,SR];rw[show(192:Int)+(n:Int)/64=((192+n/64:Nat):Int)by omega,show(128:Int)+(n:Int)%64=((128+n%64:Nat):Int)by omega,ho,ho]
  by_cases c3:n<65536
  ·rw[AA c1,AA c2,AB c3,FG,Nd omg];simp only[Fc,SR];rw[show(224:Int)+(n:Int)/4096=((224+n/4096:Nat):Int)by omega,show(128:Int)+(n:Int)/64%64=((128+n/64%64:Nat):Int)by omega,show(128:Int)+(n:Int)%64=((128+n%64:Nat):Int)by omega,ho,ho,ho]
  ·rw[AA c1,AA c2,AA c3,FG,Nk omg];simp only[Fc,SR];rw[show(240:Int)+(n:Int)/262144=((240+n/262144:Nat):Int)by omega,show(128:Int)+(n:Int)/4096%64=((128+n/4096%64:Nat):Int)by omega,show(128:Int)+(n:Int)/64%64=((128+n/64%64:Nat):Int)by omega,show(128:Int)+(n:Int)%64=((128+n%64:Nat):Int)by omega,ho,ho,ho,ho]
 ·rw[AA hv,FG,Wq omg];rfl
def Eg:List UInt8:=[43,45,95]
def Jhu(k:Nat):BS Eg k<=95:=by
 match k with
 |0=>decide
 |1=>decide
 |2=>decide
 |k+3=>rw[lP (by simp[Eg])];decide
def Jko{r:Int}(h:128<=r):2<=(FG r).length/\128<=BS (FG r) ((FG r).length-1):=by
 have key:∀l:List Int,It r=l->(∀c∈l,128<=c/\c<256)->l≠[]->128<=BS (FG r) ((FG r).length-1):=by
  intro l e hl DA;rw[FG,e];have CY:(l.map GN).length-1<l.length:=by
   have:=VN.2 DA;simp;omega
  rw[Ql (by simpa using CY)];simp only[List.getElem_map];have:=hl _ (UN CY);have:=B8 (c:=l[(l.map GN).length-1]) omg omg;omega
 unfold FG at *
 by_cases c2:r<2048
 ·have e:=Oc (r:=r) omg;refine⟨by rw[e];simp,key _ e ?_ sm⟩;simp;omega
 by_cases c3:(2048<=r/\r<55296)\/(57343<r/\r<65536)
 ·have e:=Nd (r:=r) omg;refine⟨by rw[e];simp,key _ e ?_ sm⟩;simp;omega
 by_cases c4:65536<=r/\r<=1114111
 ·have e:=Nk (r:=r) omg;refine⟨by rw[e];simp,key _ e ?_ sm⟩;simp;omega
 ·have e:=Wq (r:=r) omg;refine⟨by rw[e];simp,key _ e ?_ sm⟩;simp
def indexByte_none{l:List UInt8}{c:Int}(h0:128<=c)(h1:c<256)(h:∀x∈l,x.toNat<128):Lib.indexByte l c.toNat.toUInt8 = -1:=by
 have hc:l.contains c.toNat.toUInt8=false:=by
  rw[List.contains_eq_mem,AI];intro hm;have:=h _ hm;simp at this;omega
 have e:=Lib.contains_iff_indexByte l c.toNat.toUInt8;rw[hc]at e;have BZ:¬0<=Lib.indexByte l c.toNat.toUInt8:=by simpa using e.symm
 have:=Lib.indexByte_ge l c.toNat.toUInt8;omega
def fg:Int:=if r<128 then Lib.indexByte Eg r.toNat.toUInt8 else -1
def Ha(h:Cy r):CA cx 258 [.p (.int .i32 r)] [] (.p (.bool true)) []:=by
 unfold Cy at h;refine CB func258 ?_;(repeat'(first|(apply BY<;>intro h)|(exact True.intro)|(exfalso;omega)))
def Ey:Eg.length=3:=rfl
def pd0:Utf8.decode ⟨⟨Eg⟩⟩ 0=(43,1):=de
def pd1:Utf8.decode ⟨⟨Eg⟩⟩ 1=(45,1):=de
def pd2:Utf8.decode ⟨⟨Eg⟩⟩ 2=(95,1):=de
def Ps(hr:Cy r)(h1:128<=r)(h2:r≠65533):CA cx 235 [.p (.str Eg),.p (.int .i32 r)] [] (.p (.int .i64 (-1))) []:=by
 have h':=hr;unfold Cy at h';obtain⟨g1,g2⟩:=Jko (r:=r) h1;have g3:=Fr (FG r) ((FG r).length-1);have g4:=Od r;have g5:=Jhu ((FG r).length-1);obtain⟨k,hk⟩:∃k,(FG r).length=k+1:=⟨(FG r).length-1,omg⟩
 rw[hk,Nat.add_sub_cancel]at g2 g3 g5;have hw:IntKind.i64.wrap (((k+1:Nat):Int)-1)=(k:Int):=by rw[Aa omg omg];omega
 have nt:IntKind.i64.wrap ((k:Int)+1)=((k+1:Nat):Int):=by rw[Aa omg omg];omega
 have hib:Lib.indexByte (Eg.drop (k+1)) (BS (FG r) k:Int).toNat.toUInt8 = -1:=indexByte_none omg omg fun x hx=>by
  exact(by decide:∀x∈Eg,x.toNat<128) x (OR hx)
 (refine CB func235 ?_);(repeat'(first|(apply BY<;>intro h)|((refine BU (Ha r hr) ?_);simp only[go_sem,simprocAttr,R8,hk,hw])|(exfalso;omega)));(refine CL.rounds 2 ?_;refine kL hm ?_;simp only[go_sem,simprocAttr,Ey]);(repeat'(first|(apply BY<;>intro h)|refine EA ?_|((first|refine EG ?_|refine DS (Fu _ _) ?_);simp only[go_sem,simprocAttr,Ey,hk,nt])|(exact True.intro)|(exfalso;omega)))
 ·simp only[Int.toNat_natCast]at hib;omega
def Oy(hr:Cy r):CA cx 235 [.p (.str Eg),.p (.int .i32 r)] [] (.p (.int .i64 (fg r))) []:=by
 have h':=hr;unfold Cy at h';by_cases hb:128<=r/\r≠65533
 ·rw[show fg r = -1 by simp only[fg,AA (show ¬r<128 by omega)]];exact Ps r hr hb.1 hb.2
 (refine CB func235 ?_);(repeat'(first|(apply BY<;>intro h)|(first|refine CI (Ha r hr) ?_|refine CI (Fu _ _) ?_)|(exfalso;omega)))
 ·rw[Ab omg omg];simp only[fg,AB (show r<128 by omega)]
 ·(refine CL.rounds 4 ?_;refine kL hm ?_;simp only[go_sem,simprocAttr,pd0,Ey]);(repeat'(first|(refine kL hm ?_;simp only[go_sem,simprocAttr,pd1,pd2,Ey])|fail));simp only[fg,AA (show ¬r<128 by omega)]
 all_goals(exfalso;omega)
def XA(s:List UInt8):Nat->Nat->Int|0,_=>-1|f+1,i=>if i<s.length then(if 0<=fg (dec s i).1 then(i:Int)else XA s f (i+(dec s i).2))else -1
def Jcz(hn:n<=8):CA cx 277 [.p (.int .i64 n)] [] (.p (.bool false)) []:=by
 (refine CB func277 ?_);exact hn
def Sf(i:Nat):Cy (dec s i).1:=by
 rw[F1];split
 ·right;decide
 ·rename_i h;exact Fm h
def Jm6(i:Nat):1<=(dec s i).2:=by
 rw[F1];split
 ·decide
 ·simp only;omega
def H6(i:Nat):Utf8.decode ⟨⟨s⟩⟩ i=dec s i:=rfl
def Ro(hs:s.length=4):CA cx 272 [.p (.str s),.p (.str Eg)] [] (.p (.int .i64 (XA s 5 0))) []:=by
 (refine CK func272 ?_;simp only[go_sem,simprocAttr,Ey]);(repeat'(first|refine CI (Jcz _ omg) ?_|fail));refine CL.loop (fun x:Nat×Nat=>⟨Ba 55 [(0,.p (.str s)),(1,.p (.str Eg)),(45,.ptr 45 0 0)],[(45,.obj (.sit s x.1))]⟩) (fun x=>5<=x.1+x.2/\XA s x.2 x.1=XA s 5 0) (fun x=>4-x.1) (0,5) CH ⟨omg,rfl⟩ ?_;rintro⟨i,f⟩ ⟨h1,h2⟩;simp only at h1 h2;have hp:=Jm6 s i;(refine CC ?_;simp only[go_sem,simprocAttr,H6]);(repeat'(first|(apply BY<;>intro h)|refine CI (Oy _ (Sf s i)) ?_|fail))
 ·obtain⟨g,rfl⟩:∃g,f=g+1:=⟨f-1,omg⟩
  rw[<-h2,XA,AB omg,AB AN]
 ·obtain⟨g,rfl⟩:∃g,f=g+1:=⟨f-1,omg⟩
  refine⟨(i+(dec s i).2,g),⟨by simp only;omega,?_⟩,by simp only;omega,CH⟩;simp only;rw[<-h2,show XA s (g+1) i=XA s g (i+(dec s i).2)from by rw[XA,AB omg,AA AN]]
 ·rw[<-h2];cases f with
  |zero=>rfl
  |succ g=>rw[XA,AA omg]
def Sq(hs:s.length=4):CA cx 263 [.p (.str s),.p (.str Eg)] [] (.p (.bool (decide (0<=XA s 5 0)))) []:=by
 (refine CB func263 ?_);(repeat'(first|((refine BU (Ro s hs) ?_);simp only[go_sem,simprocAttr])|fail))
def Jih{r:Int}(h0:0<=r)(h:0<=fg r):r=43\/r=45\/r=95:=by
 unfold fg at h;split at h
 ·have e:=Lib.contains_iff_indexByte Eg r.toNat.toUInt8;rw[AG h,List.contains_eq_mem,AF]at e;simp only[Eg,DN,Ebj,or_false]at e;rcases e with e|e|e
  ·have:=congrArg UInt8.toNat e;simp at this;omega
  ·have:=congrArg UInt8.toNat e;simp at this;omega
  ·have:=congrArg UInt8.toNat e;simp at this;omega
 ·omega
def Jhs{s:List UInt8}(h:(dec s i).1<128):BS s i=(dec s i).1:=by
 have h0:=Fr s i;rw[F1]at h⊢;split at h
 ·simp at h
 ·rename_i hr;rw[AA hr];simp only at h⊢;rcases Fd s i with e|⟨e,g1⟩|⟨e,g1,g2,g3⟩|⟨e,g1,g2,g3,g4,g5,g6⟩|⟨e,g1,g2,g3,g4,g5,g6,g7⟩
  ·exact absurd e hr
  ·unfold code;rw[AB g1]
  ·have ec:code s i=BS s i%32*64+BS s (i+1)%64:=by unfold code;rw[AA omg,AB omg]
   omega
  ·have ec:code s i=BS s i%16*4096+BS s (i+1)%64*64+BS s (i+2)%64:=by unfold code;rw[AA omg,AA omg,AB omg]
   omega
  ·have ec:code s i=BS s i%8*262144+BS s (i+1)%64*4096+BS s (i+2)%64*64+BS s (i+3)%64:=by unfold code;rw[AA omg,AA omg,AA omg]
   omega
def Y5(s:List UInt8):∀(f i:Nat),0<=XA s f i->∃k,k<s.length/\IU (BS s k)=none
 |0,i,h=>by simp[XA]at h
 |f+1,i,h=>by
  simp only[XA]at h;split at h
  ·rename_i hi;split at h
   ·rename_i hm;have h1:=Jih omg hm;have h2:=Jhs (s:=s) (i:=i) omg;refine⟨i,hi,?_⟩;unfold IU;rw[AA omg,AA omg,AA omg]
   ·exact Y5 s f _ h
  ·omega
def S4:∀(s:List UInt8) (a k:Nat),k<s.length->IU (BS s k)=none->HS s a=none
 |[],a,k,h,_=>by simp at h
 |c::s,a,0,h,hn=>by
  simp only[HS];rw[show IU c.toNat=none from hn]
 |c::s,a,k+1,h,hn=>by
  simp only[HS];split
  ·exact S4 s _ k (by simpa using h) hn
  ·rfl
def We:∀(s:List UInt8) (a n:Nat),HS s a=some n->n<(a+1)*16^s.length
 |[],a,n,h=>by simp[HS]at h;subst h;simp
 |c::s,a,n,h=>by
  simp only[HS]at h;split at h
  ·rename_i d hd;have PT:d<16:=by
    unfold IU at hd;split at hd
    ·cases hd;omega
    split at hd
    ·cases hd;omega
    split at hd
    ·cases hd;omega
    ·cases hd
   have:=We s _ n h;refine NB this ?_;simp only[DH,Nat.pow_succ];rw[UA (16^s.length) 16,<-Qm];exact M' _ omg
  ·cases h
end
section
def H9(K:PV->Prop):Prop:=∀a b,K a->K b->∃t,Lc a b=some t/\(t=true↔a=b)
def Z5(k:PV):Prop:=∃n,k=.int q n
def Uy(k:PV):Prop:=∃s,k=.str s
def P1:H9 (Z5 q):=by
 rintro a b ⟨x,rfl⟩ ⟨y,rfl⟩;exact⟨x==y,by simp[Lc],by simp⟩
def Õ:H9 Uy:=by
 rintro a b ⟨x,rfl⟩ ⟨y,rfl⟩;exact⟨x==y,by simp[Lc],by simp⟩
structure JV (K:PV->Prop) (es:List (PV×PV)):Prop where
 keys:∀p∈es,K p.1
 nodup:(es.map (·.1)).Nodup
def JV.nil{K:PV->Prop}:JV K []:=⟨fun p h=>by simp at h,by simp⟩
variable {K:PV->Prop} {es:List (PV×PV)}
def JV.tail{p:PV×PV}(h:JV K (p::es)):JV K es:=⟨fun q hq=>h.keys q (EW _ hq),(UO.1 h.nodup).2⟩
def JV.one(h:JV K es){w:PV}(h1:(k,v)∈es)(h2:(k,w)∈es):v=w:=by
 induction es with
 |nil=>simp at h1
 |cons p es ih =>
  have hn:=UO.1 h.nodup;have key:∀{u:PV},(k,u)∈es->p.1≠k:=fun{u} hu e=>hn.1 (by show p.1∈_;rw[e];exact List.mem_map_of_mem (f:=(·.1)) hu)
  rcases DN.1 h1 with h1|h1
  ·rcases DN.1 h2 with h2|h2
   ·rw[<-h1]at h2;exact(gU h2).2.symm
   ·exact absurd (by rw[<-h1]) (key h2)
  ·rcases DN.1 h2 with h2|h2
   ·exact absurd (by rw[<-h2]) (key h1)
   ·exact ih h.tail h1 h2
def Gk(hK:H9 K){k:PV}(hk:K k):∀(es:List (PV×PV)) (i:Nat),JV K es ->
  (Cl k es i=some none/\∀v,(k,v)∉es)\/∃j v,Cl k es i=some (some (i+j,v))/\es[j]?=some (k,v)
 |[],i,_=>.inl ⟨rfl,fun v h=>by simp at h⟩
 |(x,u)::es,i,h=>by
  obtain⟨t,h1,h2⟩:=hK k x hk (h.keys (x,u) DQ);cases t with
  |true =>
   have e:k=x:=h2.1 rfl;subst e;exact .inr ⟨0,u,by simp[Cl,h1],rfl⟩
  |false =>
   have DA:k≠x:=fun e=>by have:=h2.2 e;cases this
   rcases Gk hK hk es (i+1) h.tail with⟨g1,g2⟩|⟨j,v,g1,g2⟩
   ·refine .inl ⟨by simp[Cl,h1,g1],fun v hv=>?_⟩;rcases DN.1 hv with hv|hv
    ·exact DA (gU hv).1
    ·exact g2 v hv
   ·exact .inr ⟨j+1,v,by simp[Cl,h1,g1];omega,by simpa using g2⟩
def Jkm(hK:H9 K)(h:JV K es)(hv:(k,v)∈es):∃j,Cl k es 0=some (some (j,v)):=by
 have hk:=h.keys _ hv;rcases Gk hK hk es 0 h with⟨_,g⟩|⟨j,u,g1,g2⟩
 ·exact absurd hv (g v)
 ·have:=h.one hv (D4 g2);subst this;exact⟨0+j,g1⟩
def Jep(hK:H9 K)(hk:K k)(h:JV K es)(hv:∀v,(k,v)∉es):Cl k es 0=some none:=by
 rcases Gk hK hk es 0 h with⟨g,_⟩|⟨j,u,g1,g2⟩
 ·exact g
 ·exact absurd (D4 g2) (hv u)
def Jmm(h:JV K es){j:Nat}{p q:PV×PV}(hi:es[i]?=some p)(hj:es[j]?=some q)(e:p.1=q.1):i=j:=by
 have h1:(es.map (·.1))[i]?=some p.1:=by simp[hi]
 have h2:(es.map (·.1))[j]?=some p.1:=by simp[hj,e]
 have OE:=(DX.1 h1).1;exact(List.getElem?_inj OE h.nodup).1 (h1.trans h2.symm)
def Jhy(hK:H9 K)(hk:K k)(h:JV K es) :
  ∃CN,LO k v es=some CN/\JV K CN/\(∀k' v',(k',v')∈CN↔(k'=k/\v'=v)\/(k'≠k/\(k',v')∈es)):=by
 rcases Gk hK hk es 0 h with⟨g1,g2⟩|⟨j,u,g1,g2⟩
 ·refine⟨es++[(k,v)],by simp[LO,g1],⟨fun p hp=>?_,?_⟩,fun k' v'=>?_⟩
  ·rcases H'.1 hp with hp|hp
   ·exact h.keys p hp
   ·simp at hp;subst hp;exact hk
  ·rw[Ry,bw];refine⟨h.nodup,by simp,fun a ha b hb=>?_⟩;simp at hb;subst hb;rintro rfl;obtain⟨q,hq,rfl⟩:=FB.1 ha;exact g2 q.2 hq
  ·simp only[H',KI,cp];constructor
   ·rintro(hm|hm)
    ·exact .inr ⟨fun e=>g2 v' (e▸hm),hm⟩
    ·exact .inl hm
   ·rintro(hm|hm)
    ·exact .inr hm
    ·exact .inl hm.2
 ·have hj:=(DX.1 g2).1;refine⟨es.set j (k,v),by simp[LO,g1],⟨fun p hp=>?_,?_⟩,fun k' v'=>?_⟩
  ·rcases cc hp with hp|rfl
   ·exact h.keys p hp
   ·exact hk
  ·have e:(es.set j (k,v)).map (·.1)=es.map (·.1):=by
    rw[fH];apply aN;intro i;rw[SO];split
    ·rename_i QS;subst QS;have:=(DX.1 g2).2;simp[hj,this]
    ·rfl
   rw[e];exact h.nodup
  ·constructor
   ·intro hm;obtain⟨i,hi⟩:=WE hm;rw[SO]at hi;split at hi
    ·first
      |(have e:=L' hi;exact .inl ⟨(gU e).1.symm,(gU e).2.symm⟩)
      |(
       split at hi
       ·have e:=L' hi;exact .inl ⟨(gU e).1.symm,(gU e).2.symm⟩
       ·cases hi)
    ·rename_i QS;refine .inr ⟨fun e=>QS ?_,D4 hi⟩;exact Jmm h g2 hi (by simp[e])
   ·rintro(⟨rfl,rfl⟩|⟨DA,hm⟩)
    ·exact D4 (i:=j) (by simp[hj])
    ·obtain⟨i,hi⟩:=WE hm;refine D4 (i:=i) ?_;rw[SO,AA (fun e=>?_)]
     ·exact hi
     ·subst e;rw[g2]at hi;exact DA (gU (L' hi)).1.symm
def Jer(hK:H9 K)(hk:K k)(h:JV K es) :
  ∃CN,WR k es=some CN/\JV K CN/\(∀k' v',(k',v')∈CN↔k'≠k/\(k',v')∈es):=by
 rcases Gk hK hk es 0 h with⟨g1,g2⟩|⟨j,u,g1,g2⟩
 ·refine⟨es,by simp[WR,g1],h,fun k' v'=>⟨fun hm=>⟨fun e=>g2 v' (e▸hm),hm⟩,fun hm=>hm.2⟩⟩
 ·have hs:(es.eraseIdx j).Sublist es:=List.eraseIdx_sublist ..
  refine⟨es.eraseIdx j,by simp[WR,g1],⟨fun p hp=>h.keys p (hs.subset hp),?_⟩,fun k' v'=>⟨fun hm=>⟨fun e=>?_,hs.subset hm⟩,fun hm=>?_⟩⟩
  ·exact(hs.map _).nodup h.nodup
  ·obtain⟨i,QS,hi⟩:=List.mem_eraseIdx_iff_getElem?.1 hm;exact QS (Jmm h hi g2 (by simp[e]))
  ·obtain⟨i,hi⟩:=WE hm.2;refine List.mem_eraseIdx_iff_getElem?.2 ⟨i,fun e=>?_,hi⟩;subst e;rw[g2]at hi;exact hm.1 (gU (L' hi)).1.symm
def Jo(seen:List Nat):Nat->Nat|0=>0|n+1=>Jo seen n+(if n∈seen then 0 else 1)
def Ti(seen:List Nat)(i:Nat):∀n,Jo (seen++[i]) n<=Jo seen n
 |0=>CS _
 |n+1=>by
  have:=Ti seen i n;simp only[Jo,H',KI];by_cases h1:n∈seen
  ·rw[AB (.inl h1),AB h1];omega
  ·rw[AA h1];split<;>omega
def S9{seen:List Nat}{i:Nat}(hi:i∉seen):∀{n},i<n->Jo (seen++[i]) n<Jo seen n
 |0,h=>by omega
 |n+1,h=>by
  simp only[Jo,H',KI];by_cases h2:n=i
  ·subst h2;have:=Ti seen n n;rw[AB (.inr rfl),AA hi];omega
  ·have:=S9 hi (n:=n) omg;by_cases h1:n∈seen
   ·rw[AB (.inl h1),AB h1];omega
   ·rw[AA (fun h=>h.elim h1 h2),AA h1];omega
end
section
attribute [local irreducible] Al Bi CL
def Ei:List (PV×PV):=[(.int .u8 34,.int .i32 34),(.int .u8 92,.int .i32 92),(.int .u8 47,.int .i32 47),(.int .u8 98,.int .i32 8),(.int .u8 102,.int .i32 12),(.int .u8 110,.int .i32 10),(.int .u8 114,.int .i32 13),(.int .u8 116,.int .i32 9)]
def mp0:LO (.int .u8 34) (.int .i32 34) []=some [(.int .u8 34,.int .i32 34)]:=rfl
def mp1:LO (.int .u8 92) (.int .i32 92) [(.int .u8 34,.int .i32 34)]=some [(.int .u8 34,.int .i32 34),(.int .u8 92,.int .i32 92)]:=rfl
def mp2:LO (.int .u8 47) (.int .i32 47) [(.int .u8 34,.int .i32 34),(.int .u8 92,.int .i32 92)]=some [(.int .u8 34,.int .i32 34),(.int .u8 92,.int .i32 92),(.int .u8 47,.int .i32 47)]:=rfl
def mp3:LO (.int .u8 98) (.int .i32 8) [(.int .u8 34,.int .i32 34),(.int .u8 92,.int .i32 92),(.int .u8 47,.int .i32 47)]=some [(.int .u8 34,.int .i32 34),(.int .u8 92,.int .i32 92),(.int .u8 47,.int .i32 47),(.int .u8 98,.int .i32 8)]:=rfl
def mp4:LO (.int .u8 102) (.int .i32 12) [(.int .u8 34,.int .i32 34),(.int .u8 92,.int .i32 92),(.int .u8 47,.int .i32 47),(.int .u8 98,.int .i32 8)]=some [(.int .u8 34,.int .i32 34),(.int .u8 92,.int .i32 92),(.int .u8 47,.int .i32 47),(.int .u8 98,.int .i32 8),(.int .u8 102,.int .i32 12)]:=rfl
def mp5:LO (.int .u8 110) (.int .i32 10) [(.int .u8 34,.int .i32 34),(.int .u8 92,.int .i32 92),(.int .u8 47,.int .i32 47),(.int .u8 98,.int .i32 8),(.int .u8 102,.int .i32 12)]=some [(.int .u8 34,.int .i32 34),(.int .u8 92,.int .i32 92),(.int .u8 47,.int .i32 47),(.int .u8 98,.int .i32 8),(.int .u8 102,.int .i32 12),(.int .u8 110,.int .i32 10)]:=rfl
def mp6:LO (.int .u8 114) (.int .i32 13) [(.int .u8 34,.int .i32 34),(.int .u8 92,.int .i32 92),(.int .u8 47,.int .i32 47),(.int .u8 98,.int .i32 8),(.int .u8 102,.int .i32 12),(.int .u8 110,.int .i32 10)]=some [(.int .u8 34,.int .i32 34),(.int .u8 92,.int .i32 92),(.int .u8 47,.int .i32 47),(.int .u8 98,.int .i32 8),(.int .u8 102,.int .i32 12),(.int .u8 110,.int .i32 10),(.int .u8 114,.int .i32 13)]:=rfl
def mp7:LO (.int .u8 116) (.int .i32 9) [(.int .u8 34,.int .i32 34),(.int .u8 92,.int .i32 92),(.int .u8 47,.int .i32 47),(.int .u8 98,.int .i32 8),(.int .u8 102,.int .i32 12),(.int .u8 110,.int .i32 10),(.int .u8 114,.int .i32 13)]=some [(.int .u8 34,.int .i32 34),(.int .u8 92,.int .i32 92),(.int .u8 47,.int .i32 47),(.int .u8 98,.int .i32 8),(.int .u8 102,.int .i32 12),(.int .u8 110,.int .i32 10),(.int .u8 114,.int .i32 13),(.int .u8 116,.int .i32 9)]:=rfl
def Kl:CA cx 242 [] [] (.p (.mp Ei)) []:=by
 (refine CK func242 ?_;simp only[go_sem,simprocAttr,mp0,mp1,mp2,mp3,mp4,mp5,mp6,mp7]);rfl
def HL(h:i<=3000000000000000):IntKind.i64.wrap ((i:Int)+1)=((i+1:Nat):Int):=by rw[Aa omg omg];omega
def Ö(h:i<=3000000000000000):IntKind.i64.wrap ((i:Int)+2)=((i+2:Nat):Int):=by rw[Aa omg omg];omega
def wi3(h:i<=3000000000000000):IntKind.i64.wrap ((i:Int)+3)=((i+3:Nat):Int):=by rw[Aa omg omg];omega
def nx(h:i<=3000000000000000):IntKind.i64.wrap ((i:Int)+6)=((i+6:Nat):Int):=by rw[Aa omg omg];omega
def YC{j:Nat}(h:i<=3000000000000000)(h2:j<=3000000000000000):IntKind.i64.wrap ((i:Int)+(j:Int))=((i+j:Nat):Int):=by rw[Aa omg omg];omega
def Jl7(i:Nat)(hs:s.length<=1000000)(hi:i<=2000000):CA cx 151 [.p (.str s),.p (.int .i64 i)] [] (.p (.bool (ct s i))) []:=by
 (refine CB func151 ?_);(repeat'(first|(apply BY<;>intro h)|refine EA ?_|fail))
 all_goals(rw[KA];simp[ct];omega)
def tF{s:List UInt8}{k:Nat}(h:ct s k=true):k<s.length:=(J3.1 h).1
def Ø(i:Nat)(hs:s.length<=1000000)(hi:i<s.length):CA cx 113 [.p (.str s),.p (.int .i64 i)] [] (.p (.int .i64 (DF s i))) []:=by
 have w1:=HL (i:=i) omg;have w2:=Ö (i:=i) omg;have w3:=wi3 (i:=i) omg;have hA:=Fr s i;have hB:=Fr s (i+1);(refine CK func113 ?_;simp only[go_sem,simprocAttr,w1]);(repeat'(first|(apply BY<;>intro h)|refine EA ?_|((refine BU (Jl7 s _ hs omg) ?_);simp only[go_sem,simprocAttr,w1,w2,w3])|(refine And.intro (tF AN) ?_)|(exfalso;omega)))
 all_goals(clear w1 w2 w3;unfold DF;simp only[J3]at *;(repeat' split)<;>omega)
def vF(s:List UInt8):Nat->Nat->Bool|0,_=>true|f+1,i=>if i<s.length then(if DF s i=0 then false else vF s f (i+DF s i))else true
def valid:Bool:=vF s (s.length+1) 0
def Cn(hs:s.length<=1000000):CA cx 57 [.p (.str s)] [] (.p (.bool (valid s))) []:=by
 (refine CB func57 ?_);refine CL.loop (fun x:Nat×Nat=>⟨Ba 17 [(0,.p (.str s)),(3,.p (.int .i64 x.1))],[]⟩) (fun x=>x.1<=s.length/\s.length+1<=x.1+x.2/\vF s x.2 x.1=valid s) (fun x=>s.length-x.1) (0,s.length+1) CH ⟨by simp,by simp,rfl⟩ ?_;rintro⟨i,f⟩ ⟨h1,h2,h3⟩;simp only at h1 h2 h3;obtain⟨g,rfl⟩:∃g,f=g+1:=⟨f-1,omg⟩
 have h4:=Qv s i;have hw:=YC (i:=i) (j:=DF s i) omg omg;refine HO ?_;(repeat'(first|(apply BY<;>intro h)|((refine BU (Ø s i hs omg) ?_);simp only[go_sem,simprocAttr,hw])|fail))
 ·rw[<-h3,vF,AB omg,AB omg]
 ·have:=M4 s i omg;exact⟨(i+DF s i,g),⟨by simp only;omega,by simp only;omega,by simp only;rw[<-h3,vF,AB omg,AA omg]⟩,by simp only;omega,CH⟩
 ·rw[<-h3,vF,AA omg]
def fh(n:Nat)(h:n<16):CA cx 152 [.p (.int .i64 n)] [] (.p (.str [RM n])) []:=by
 (refine CK func152 ?_;simp only[go_sem,simprocAttr,HL (i:=n) omg]);(repeat'(first|refine EA ?_|fail));have key:∀m:Fin 16,List.take (m.val+1-m.val) (List.drop m.val [48,49,50,51,52,53,54,55,56,57,97,98,99,100,101,102])=[RM m.val]:=de
 exact key ⟨n,h⟩
def wr:List UInt8:=
 if c=34 then [92,34]else if c=92 then [92,92]else if c=8 then [92,98]else if c=12 then [92,102]else if c=10 then [92,110]else if c=13 then [92,114]else if c=9 then [92,116]
 else if c<32 then [92,117,48,48,RM (c/16),RM (c%16)]else [UInt8.ofNat c]
def tG{c:Nat}(h:c<=3000000000000000):IntKind.i64.wrap ((c:Int).tdiv 16)=((c/16:Nat):Int):=by
 rw[vj omg,Aa omg omg];omega
def Ù{c:Nat}:(c:Int).tmod 16=((c%16:Nat):Int):=by
 rw[vk omg];omega
def tH{c:Nat}(h:c<=3000000000000000):IntKind.i64.wrap (c:Int)=(c:Int):=Aa omg omg
def J38{c:Nat}(h:c<=255){bs:List UInt8}:Rr (c:Int) (some bs)=some (UInt8.ofNat c::bs):=by
 simp only[Rr];rw[AB omg];rfl
def Kdd(hc:c<=255):CA cx 114 [.p (.int .u8 c)] [] (.p (.str (wr c))) []:=by
 (refine CK func114 ?_;simp only[go_sem,simprocAttr,tG (c:=c) omg,tH (c:=c) omg,J38 hc]);(repeat'(first|(apply BY<;>intro h)|((first|(refine BU (fh (c/16) omg) ?_)|(refine BU (fh (c%16) omg) ?_));simp only[go_sem,simprocAttr,tG (c:=c) omg,Ù,tH (c:=c) omg,J38 hc])|fail))
 all_goals(unfold wr;(repeat' split)<;>first|rfl|(exfalso;omega))
def N0(h0:-9223372036854775808<=n)(h1:n<=9223372036854775807):CA cx 91 [.p (.int .i64 n)] [] (.p (.str (Lib.itoa n))) []:=by
 refine fX (v:=.string ⟨⟨Lib.itoa n⟩⟩) (enters_of func91 kr rfl) rfl (fun β w Im=>BW.str _) fun β Im w vs hg hf=>?_
 obtain⟨v,rfl,hv⟩:=Ue hf;have:=Mz hv;subst this;refine(Tryz.strconv_Itoa n h0 h1 w (fa hg).pow).mono fun e w' ⟨h,k,os,hw⟩=>⟨h,?_⟩
 subst hw;exact⟨rfl,rfl,rfl,by show w.heap.size<=(w.heap++os).size;rw[Array.size_append];omega,fun _ hj=>Sort.heap_grow_old (w.drewN k) os hj⟩
def Qh:L:=match Lib.atoiAll s with
 |.ok v=>.tup [.int .i64 v,.nifc]
 |.range=>.tup [.int .i64 (Lib.atoiSat s),.ifc]
 |_=>.tup [.int .i64 0,.ifc]
def lQ{β:ET}{a b:Value}{x y:PV}(h1:BW w Im a x)(h2:BW w Im b y):CE β w Im (.tuple #[a,b]) (.tup [x,y]):=
 ⟨[
  a,b],rfl,rfl,fun i v p hi hp=>by
  match i,hi,hp with
  |0,hi,hp=>simp at hi hp;subst hi;subst hp;exact h1
  |1,hi,hp=>simp at hi hp;subst hi;subst hp;exact h2
  |i+2,hi,hp=>simp at hi⟩
def U9(hs:s.length<=1000000):CA cx 191 [.p (.str s)] [] (Qh s) []:=by
 refine Jws (enters_of func191 kr rfl) fun β Im w vs hg hf=>?_
 obtain⟨v,rfl,h1⟩:=Ue hf;cases Ks h1;unfold Qh;cases ha:Lib.atoiAll s with
 |ok n =>
  refine(Tryz.strconv_Atoi_ok ⟨⟨s⟩⟩ (by show s.length<=_;omega) n ha w).mono fun e w' ⟨h,hw⟩=>⟨⟨_,h,fun β w Im=>lQ (.int _ _) .nifc⟩,?_⟩
  rcases hw with rfl|⟨u,rfl⟩
  ·exact Below.refl _ _
  ·exact Lib.bytesWorld_below _ _ _
 |range =>
  obtain⟨te,pe,he⟩:=(fa hg).rng;exact(Tryz.strconv_Atoi_range ⟨⟨s⟩⟩ (Nat.le_trans hs de) ha _ w he (.inr ⟨te,pe,rfl⟩)).mono fun e w' ⟨N,h,_,_,hb⟩=>⟨⟨_,h,fun β w Im=>lQ (.int _ _) (.ifc _ _)⟩,hb⟩
 |_ =>
  obtain⟨te,pe,he⟩:=(fa hg).syn;exact(Any.strconv_Atoi_syntax Μ ⟨⟨s⟩⟩ (Nat.le_trans hs de) ha _ w he (.inr ⟨te,pe,rfl⟩)).mono fun e w' ⟨N,h,_,_,hb⟩=>⟨⟨_,h,fun β w Im=>lQ (.int _ _) (.ifc _ _)⟩,hb⟩
def R6(hs:s.length<=9223372036854775807):CA cx 134 [.p (.str s)] [] (.p (.bool (Lib.validD s))) []:=by
 refine fX (v:=.bool (Lib.validD s)) (enters_of func134 kr rfl) rfl (fun _ _ _=>.bool _) fun β Im w vs hg hf=>?_
 obtain⟨v,rfl,h1⟩:=Ue hf;cases Ks h1;exact Any.utf8_ValidString J32 ⟨⟨s⟩⟩ w hs (fa hg).tabs
def Yj(i:Nat):Lib.decodeL (s.drop i)=dec s i:=by
 show dec (s.drop i) 0=dec s i;rw[Qy,Nat.add_zero]
def Te:∀(f:Nat) (s:List UInt8) (i:Nat),s.length<i+f->vF s f i=Lib.validD (s.drop i)
 |0,s,i,h=>by rw[JD omg];rfl
 |f+1,s,i,h=>by
  rw[vF];by_cases hi:i<s.length
  ·rw[AB hi];have DA:s.drop i≠[]:=fun e=>by have:=congrArg List.length e;simp at this;omega
   rw[Lib.validD_step _ DA,Yj,F1];by_cases hr:DF s i=0
   ·rw[AB hr,AB hr,AB ⟨rfl,rfl⟩]
   ·rw[AA hr,AA hr];have hc:¬(code s i=65533/\DF s i=1):=fun⟨c1,c2⟩=>by
     rcases Fd s i with e|⟨e,g⟩|⟨e,_⟩|⟨e,_⟩|⟨e,_⟩
     ·exact hr e
     ·have:code s i=BS s i:=by unfold code;rw[AB g]
      omega
     ·omega
     ·omega
     ·omega
    rw[AA hc,JO];exact Te f s _ omg
  ·rw[AA hi,JD omg];rfl
def Fi(hs:s.length<=9223372036854775807):CA cx 134 [.p (.str s)] [] (.p (.bool (valid s))) []:=by
 have h:=R6 s hs;have e:Lib.validD s=valid s:=by unfold valid;rw[Te _ s 0 omg,OB]
 rw[e]at h;exact h
def PJ:Prop:=(97<=c/\c<=122)\/(65<=c/\c<=90)\/c=95
instance (c:Nat):Decidable (PJ c):=inferInstanceAs (Decidable (_\/_))
def PK:Prop:=48<=c/\c<=57
instance (c:Nat):Decidable (PK c):=inferInstanceAs (Decidable (_/\_))
def wF(s:List UInt8):Nat->Nat->Nat|0,i=>i|f+1,i=>if i<s.length/\(PJ (BS s i)\/(0<i/\PK (BS s i)))then wF s f (i+1)else i
def Dm:Nat:=wF s (s.length+1) 0
def JW:Prop:=s≠[]/\Dm s=s.length
instance (s:List UInt8):Decidable (JW s):=inferInstanceAs (Decidable (_/\_))
def fi(s:List UInt8):∀f i,i<=s.length->i<=wF s f i/\wF s f i<=s.length
 |0,i,h=>⟨CS _,h⟩
 |f+1,i,h=>by
  rw[wF];split
  ·have:=fi s f (i+1) omg;omega
  ·exact⟨CS _,h⟩
def P3:Dm s<=s.length:=(fi s _ 0 (EK _)).2
def Rl:CA cx 208 [.p (.int .u8 c)] [] (.p (.bool (decide (PJ c)))) []:=by
 (refine CB func208 ?_);(repeat'(first|(apply BY<;>intro h)|(exfalso;omega)))
 all_goals first|exact decide_eq_decide.2 (by unfold PJ;omega)|exact(AH (by unfold PJ;omega)).symm|exact(AG (by unfold PJ;omega)).symm
def Rc:CA cx 209 [.p (.int .u8 c)] [] (.p (.bool (decide (PK c)))) []:=by
 (refine CB func209 ?_);(repeat'(apply BY<;>intro h))
 all_goals first|exact decide_eq_decide.2 (by unfold PK;omega)|exact(AH (by unfold PK;omega)).symm|exact(AG (by unfold PK;omega)).symm
def Nw(hs:s.length<=1000000):CA cx 185 [.p (.str s)] [] (.p (.int .i64 (Dm s))) []:=by
 (refine CB func185 ?_);refine CL.loop (fun x:Nat×Nat=>⟨Ba 27 [(0,.p (.str s)),(3,.p (.int .i64 x.1))],[]⟩) (fun x=>x.1<=s.length/\s.length+1<=x.1+x.2/\wF s x.2 x.1=Dm s) (fun x=>s.length-x.1) (0,s.length+1) CH ⟨by simp,by simp,rfl⟩ ?_;rintro⟨i,f⟩ ⟨h1,h2,h3⟩;simp only at h1 h2 h3;obtain⟨g,rfl⟩:∃g,f=g+1:=⟨f-1,omg⟩
 rw[wF]at h3;(refine CC ?_;simp only[go_sem,simprocAttr,HL (i:=i) omg]);(repeat'(first|(apply BY<;>intro h)|refine EA ?_|((first|(refine BU (Rl _) ?_)|(refine BU (Rc _) ?_));simp only[go_sem,simprocAttr,HL (i:=i) omg])|fail))
 all_goals first
  |exact⟨(i+1,g),⟨by simp only;omega,by simp only;omega,by simp only;rw[<-h3,AB ⟨omg,.inl AN⟩]⟩,by simp only;omega,CH⟩
  |exact⟨(i+1,g),⟨by simp only;omega,by simp only;omega,by simp only;rw[<-h3,AB ⟨omg,.inr ⟨omg,by assumption⟩⟩]⟩,by simp only;omega,CH⟩
  |(rw[<-h3,AA (fun hc=>by
    obtain⟨c1,c2⟩:=hc;rcases c2 with c2|⟨c3,c2⟩
    ·first|(exfalso;omega)|contradiction
    ·first|(exfalso;omega)|contradiction)])
def Er(hs:s.length<=1000000):CA cx 187 [.p (.str s)] [] (.p (.bool (decide (JW s)))) []:=by
 (refine CB func187 ?_);(repeat'(first|(apply BY<;>intro h)|refine CI (Nw s hs) ?_|fail))
 ·have DA:s≠[]:=fun e=>by subst e;simp at *
  rw[KA,AK,AF];exact⟨fun h=>⟨DA,omg⟩,fun h=>by have:=h.2;omega⟩
 ·exact(AH (fun h=>h.1 (KH omg))).symm
def tI(hs:s.length<=1000000):CA cx 59 [.p (.str s)] [] (.p (.bool (decide (JW s)))) []:=by
 (refine CB func59 ?_);refine CL.loop (fun x:Nat×Nat=>⟨Ba 49 [(0,.p (.str s)),(3,.p (.int .i64 x.1))],[]⟩) (fun x=>x.1<=s.length/\s.length+1<=x.1+x.2/\wF s x.2 x.1=Dm s) (fun x=>s.length-x.1) (0,s.length+1) CH ⟨by simp,by simp,rfl⟩ ?_;rintro⟨i,f⟩ ⟨h1,h2,h3⟩;simp only at h1 h2 h3;obtain⟨g,rfl⟩:∃g,f=g+1:=⟨f-1,omg⟩
 rw[wF]at h3;(refine CC ?_;simp only[go_sem,simprocAttr,HL (i:=i) omg]);(repeat'(first|(apply BY<;>intro h)|refine EA ?_|(exfalso;omega)))
 all_goals first
  |exact⟨(i+1,g),⟨by simp only;omega,by simp only;omega,by simp only;rw[<-h3,AB ⟨omg,by unfold PJ PK;omega⟩]⟩,by simp only;omega,CH⟩
  |(
   have hc:¬(i<s.length/\(PJ (BS s i)\/(0<i/\PK (BS s i)))):=by unfold PJ PK;omega
   rw[AA hc]at h3;exact(AH (fun hw=>by have:=hw.2;omega)).symm)
  |skip
 have hc:¬(i<s.length/\(PJ (BS s i)\/(0<i/\PK (BS s i)))):=fun h=>by have:=h.1;omega
 rw[AA hc]at h3;have ny:Dm s=s.length:=omg;cases s with
 |nil=>simp[JW]
 |cons c t =>
  have:JW (c::t):=⟨by simp,ny⟩
  simp[this]
structure CD where
 part:Bool
 name:List UInt8
 n:Int
def CD.cells(x:CD):List PV:=[.bool x.part,.str x.name,.int .i64 x.n]
def Bb(p:List CD):List (List PV):=p.map CD.cells
@[simp] theorem Aq (p:List CD):(Bb p).length=p.length:=by simp[Bb]
def Dk{p:List CD}{x:CD}(h:p[i]?=some x):(Bb p)[i]?=some [.bool x.part,.str x.name,.int .i64 x.n]:=by
 simp[Bb,h,CD.cells]
def Bc(x:CD):Prop:=if x.part=true then x.name=[]/\0<=x.n/\x.n<=1000000 else x.n=0/\valid x.name=true
instance (x:CD):Decidable (Bc x):=by unfold Bc;exact inferInstance
def E9(p:List CD):Prop:=p.length<=20/\∀x∈p,Bc x
instance (p:List CD):Decidable (E9 p):=inferInstanceAs (Decidable (_/\_))
def KR:List UInt8:=s.flatMap fun c=>wr c.toNat
def LV:List UInt8:=34::KR s++[34]
def fj:(wr c).length<=6:=by
 unfold wr
 repeat' split
 all_goals simp
def Jlg:(KR s).length<=6*s.length:=by
 induction s with
 |nil=>simp[KR]
 |cons c s ih =>
  have:=fj c.toNat;simp only[KR,nL,DC,DH]at ih⊢;omega
def Ke3{s:List UInt8}(h:i<s.length):KR (s.take (i+1))=KR (s.take i)++wr (BS s i):=by
 have e:s.take (i+1)=s.take i++[s[i]]:=by rw[NA,C' h];rfl
 rw[e];simp only[KR,nO,nL,List.flatMap_nil,ID,Ql h]
@[simp] theorem xZ:KR []=[]:=rfl
def J3n(hs:s.length<=1000000):CA cx 60 [.p (.str s)] [] (.p (.str (LV s))) []:=by
 (refine CB func60 ?_);refine CL.loop (fun i:Nat=>⟨Ba 19 [(0,.p (.str s)),(3,.p (.str (34::KR (s.take i)))),(4,.p (.int .i64 i))],[]⟩) (fun i=>i<=s.length) (fun i=>s.length-i) 0 CH (EK _) ?_;rintro i h1;have hw:=Jlg (s.take i);have hl:(s.take i).length<=s.length:=List.length_take_le' ..
 have hr:=fj (BS s i);(refine CC ?_;simp only[go_sem,simprocAttr,HL (i:=i) omg]);(repeat'(first|(apply BY<;>intro h)|refine EA ?_|((refine BU (Kdd _ (Fr s i)) ?_);simp only[go_sem,simprocAttr,HL (i:=i) omg])|fail))
 ·refine⟨i+1,omg,omg,?_⟩;rw[Ke3 omg];exact CH
 ·rw[DK omg];rfl
def u4:Int:=if 6<=s.length/\BS s 0=92/\BS s 1=117 then(match HS ((s.drop 2).take 4) 0 with|some n=>(n:Int)|none=>-1)else -1
def Kgp(i:Nat):u4 (s.drop i)=if i+6<=s.length/\BS s i=92/\BS s (i+1)=117 then(match HS ((s.drop (i+2)).take 4) 0 with|some n=>(n:Int)|none=>-1)else -1:=by
 have e:(6<=(s.drop i).length/\BS (s.drop i) 0=92/\BS (s.drop i) 1=117)=(i+6<=s.length/\BS s i=92/\BS s (i+1)=117):=by
  simp only[KO,Ko,Nat.add_zero];apply propext;omega
 unfold u4;simp only[e,JO,YM 2 i]
def lR(i:Nat)(hs:s.length<=1000000)(hi:i<=2000000):CA cx 275 [.p (.str s),.p (.int .i64 i)] [] (.p (.int .i64 (u4 (s.drop i)))) []:=by
 have hA:=Fr s i;have hB:=Fr s (i+1);(refine CK func275 ?_;simp only[go_sem,simprocAttr,HL (i:=i) omg,Ö (i:=i) omg,nx (i:=i) omg]);rw[Kgp];(repeat'(first|(apply BY<;>intro h)|refine EA ?_|fail))
 ·rw[AA omg]
 ·rw[AA omg]
 ·rw[AA omg]
 rw[AB omg];have hT:((s.drop (i+2)).take 4).length=4:=by simp;omega
 have xa:∀j,j<4->BS ((s.drop (i+2)).take 4) j=BS s (i+2+j):=fun j hj=>by
  rw[<-Ko];simp[BS,GU,IQ,hj]
 generalize(s.drop (i+2)).take 4=T at *
 refine CL.loop (fun x:Nat×Nat=>⟨Ba 77 [(0,.p (.str s)),(1,.p (.int .i64 i)),(5,.p (.int .i64 x.2)),(6,.p (.int .i64 (i+2+x.1:Nat)))],[]⟩) (fun x=>x.1<=4/\x.2<16^x.1/\HS (T.drop x.1) x.2=HS T 0) (fun x=>4-x.1) (0,0) CH ⟨omg,by decide,rfl⟩ ?_;rintro⟨j,n⟩ ⟨h1,h2,h3⟩;simp only at h1 h2 h3;have hP:j<4->n<4096:=fun h=>NB h2 (Nat.le_trans (cj de (show j<=3 by omega)) de)
 have hS:j<4->∀d<16,n*16+d<16^(j+1):=fun h d hd=>by rw[Nat.pow_succ];omega
 have hC:=Fr s (i+2+j);(refine CC ?_;simp only[go_sem,simprocAttr,HL (i:=i) omg,Ö (i:=i) omg,nx (i:=i) omg,tH (c:=BS s (i+2+j)) omg,HL (i:=i+2+j) omg]);(repeat'(first|(apply BY<;>intro h)|refine EA ?_|(exfalso;omega)))
 all_goals first
  |(
   have hd:48<=BS s (i+2+j)/\BS s (i+2+j)<=57:=omg;have hv:IU (BS T j)=some (BS s (i+2+j)-48):=by rw[xa j omg];unfold IU;rw[AB omg]
   have hn:=hP omg;refine⟨(j+1,n*16+(BS s (i+2+j)-48)),⟨by simp only;omega,hS omg _ omg,?_⟩,by simp only;omega,CH⟩;simp only;rw[<-h3,Nn (i:=j) (n:=n) omg,hv])
  |(
   have hd:97<=BS s (i+2+j)/\BS s (i+2+j)<=102:=omg;have hv:IU (BS T j)=some (BS s (i+2+j)-87):=by rw[xa j omg];unfold IU;rw[AA omg,AB omg]
   have hn:=hP omg;refine⟨(j+1,n*16+(BS s (i+2+j)-87)),⟨by simp only;omega,hS omg _ omg,?_⟩,by simp only;omega,CH⟩;simp only;rw[<-h3,Nn (i:=j) (n:=n) omg,hv])
  |(
   have hd:65<=BS s (i+2+j)/\BS s (i+2+j)<=70:=omg;have hv:IU (BS T j)=some (BS s (i+2+j)-55):=by rw[xa j omg];unfold IU;rw[AA omg,AA omg,AB omg]
   have hn:=hP omg;refine⟨(j+1,n*16+(BS s (i+2+j)-55)),⟨by simp only;omega,hS omg _ omg,?_⟩,by simp only;omega,CH⟩;simp only;rw[<-h3,Nn (i:=j) (n:=n) omg,hv])
  |(
   have e:HS T 0=none:=by
    rw[<-h3,Nn (i:=j) (n:=n) omg,xa j omg,show IU (BS s (i+2+j))=none by unfold IU;rw[AA omg,AA omg,AA omg]]
   rw[e])
  |(
   have e:HS T 0=some n:=by
    rw[<-h3,JD omg];rfl
   rw[e])
def Hr:Option Nat := if c=34 then some 34 else if c=92 then some 92 else if c=47 then some 47 else if c=98 then some 8 else if c=102 then some 12 else if c=110 then some 10 else if c=114 then some 13 else if c=116 then some 9 else none
def EX:Int×Nat:=
 if s.length<2 then(0,0)else match Hr (BS s 1)with
  |some r=>(r,2)
  |none=>if u4 s<0\/(56320<=u4 s/\u4 s<57344)then(0,0)else if u4 s<55296\/57344<=u4 s then(u4 s,6)
   else if u4 (s.drop 6)<56320\/57344<=u4 (s.drop 6)then(0,0)else(65536+(u4 s-55296)*1024+(u4 (s.drop 6)-56320),12)
def LW:List UInt8×Nat:=if(EX s).2=0 then([],0)else(FG (EX s).1,(EX s).2)
def nz:-1<=u4 s/\u4 s<65536:=by
 unfold u4;split
 ·split
  ·rename_i n h;have:=We _ _ _ h;have hl:((s.drop 2).take 4).length=4:=by simp;omega
   rw[hl]at this;omega
  ·omega
 ·omega
def tJ(h:Cy n):CA cx 276 [.p (.int .i64 n)] [] (.p (.str (FG n))) []:=by
 have h':=h;unfold Cy at h';refine CB func276 ?_;(repeat'(apply BY<;>intro h))
 ·rw[FG,Nb omg];rfl
 ·rw[FG,Oc omg];simp(disch:=omega)only [vj,vk,Aa,Fc,SR]
 ·rw[FG,Nd omg];simp(disch:=omega)only [vj,vk,Aa,Fc,SR]
 ·rw[FG,Nk omg];simp(disch:=omega)only [vj,vk,Aa,Fc,SR]
def fl0:BS [34,92,47,98,102,110,114,116] 0=34:=rfl
def fl1:BS [34,92,47,98,102,110,114,116] 1=92:=rfl
def fl2:BS [34,92,47,98,102,110,114,116] 2=47:=rfl
def fl3:BS [34,92,47,98,102,110,114,116] 3=98:=rfl
def fl4:BS [34,92,47,98,102,110,114,116] 4=102:=rfl
def fl5:BS [34,92,47,98,102,110,114,116] 5=110:=rfl
def fl6:BS [34,92,47,98,102,110,114,116] 6=114:=rfl
def fl7:BS [34,92,47,98,102,110,114,116] 7=116:=rfl
def wk1:IntKind.i64.wrap 1=1:=de
def wk2:IntKind.i64.wrap 2=2:=de
def wk3:IntKind.i64.wrap 3=3:=de
def wk4:IntKind.i64.wrap 4=4:=de
def wk5:IntKind.i64.wrap 5=5:=de
def wk6:IntKind.i64.wrap 6=6:=de
def wk7:IntKind.i64.wrap 7=7:=de
def wk8:IntKind.i64.wrap 8=8:=de
def Kag{s:List UInt8}(h:s.length<=i+1):EX (s.drop i)=(0,0):=by
 unfold EX;rw[AB (by rw[KO];omega)]
def fk{s:List UInt8}{r:Nat}(h:i+1<s.length)(hr:Hr (BS s (i+1))=some r):EX (s.drop i)=((r:Int),2):=by
 unfold EX;rw[AA (by rw[KO];omega),Ko,hr]
def Kcb{s:List UInt8}(h:i+1<s.length)(hr:Hr (BS s (i+1))=none):EX (s.drop i) =
  if u4 (s.drop i)<0\/(56320<=u4 (s.drop i)/\u4 (s.drop i)<57344)then(0,0)else if u4 (s.drop i)<55296\/57344<=u4 (s.drop i)then(u4 (s.drop i),6)
   else if u4 (s.drop (i+6))<56320\/57344<=u4 (s.drop (i+6))then(0,0)else(65536+(u4 (s.drop i)-55296)*1024+(u4 (s.drop (i+6))-56320),12):=by
 unfold EX;rw[AA (by rw[KO];omega),Ko,hr];simp only[JO]
def Ú{s:List UInt8}(h:EX s=(0,0)):LW s=([],0):=by
 unfold LW;rw[h];rfl
def Ud{s:List UInt8}{r:Int}{n:Nat}(h:EX s=(r,n))(hn:n≠0):LW s=(FG r,n):=by
 unfold LW;rw[h];simp[hn]
def J8l(i:Nat)(hs:s.length<=1000000)(hi:i<s.length):CA cx 270 [.p (.str s),.p (.int .i64 i)] [] (.tup [.str (LW (s.drop i)).1,.int .i64 (LW (s.drop i)).2]) []:=by
 have hB:=Fr s (i+1);obtain⟨hu1,hu2⟩:=nz (s.drop i);obtain⟨aj,UB⟩:=nz (s.drop (i+6));have z1:=Aa (n:=u4 (s.drop i)-55296) omg omg;have z2:=Aa (n:=1024*(u4 (s.drop i)-55296)) omg omg;have z3:=Aa (n:=65536+1024*(u4 (s.drop i)-55296)) omg omg;have z4:=Aa (n:=65536+1024*(u4 (s.drop i)-55296)+u4 (s.drop (i+6))) omg omg;have z5:=Aa (n:=65536+1024*(u4 (s.drop i)-55296)+u4 (s.drop (i+6))-56320) omg omg;(refine CK func270 ?_;simp only[go_sem,simprocAttr,HL (i:=i) omg,nx (i:=i) omg]);(repeat'(apply BY<;>intro h))
 ·rw[Ú (Kag omg)];exact⟨rfl,rfl⟩
 (refine CL.rounds 9 ?_;refine kL hm ?_;simp only[go_sem,simprocAttr,HL (i:=i) omg,nx (i:=i) omg]);(repeat'(first|(apply BY<;>intro h)|refine EA ?_|((first|refine EG ?_|(refine BU (lR s _ hs omg) ?_)|(refine BU (tJ _ (by unfold Cy;omega)) ?_));simp only[go_sem,simprocAttr,HL (i:=i) omg,nx (i:=i) omg,fl0,fl1,fl2,fl3,fl4,fl5,fl6,fl7,wk1,wk2,wk3,wk4,wk5,wk6,wk7,wk8,z1,z2,z3,z4,z5])|(refine kL hm ?_;simp only[go_sem,simprocAttr,HL (i:=i) omg,nx (i:=i) omg])|(exfalso;omega)))
 ·rw[Ud (fk (r:=34) omg (by unfold Hr;(repeat (first|rw[AB omg]|rw[AA omg])))) de];exact⟨rfl,rfl⟩
 ·rw[Ud (fk (r:=92) omg (by unfold Hr;(repeat (first|rw[AB omg]|rw[AA omg])))) de];exact⟨rfl,rfl⟩
 ·rw[Ud (fk (r:=47) omg (by unfold Hr;(repeat (first|rw[AB omg]|rw[AA omg])))) de];exact⟨rfl,rfl⟩
 ·rw[Ud (fk (r:=8) omg (by unfold Hr;(repeat (first|rw[AB omg]|rw[AA omg])))) de];exact⟨rfl,rfl⟩
 ·rw[Ud (fk (r:=12) omg (by unfold Hr;(repeat (first|rw[AB omg]|rw[AA omg])))) de];exact⟨rfl,rfl⟩
 ·rw[Ud (fk (r:=10) omg (by unfold Hr;(repeat (first|rw[AB omg]|rw[AA omg])))) de];exact⟨rfl,rfl⟩
 ·rw[Ud (fk (r:=13) omg (by unfold Hr;(repeat (first|rw[AB omg]|rw[AA omg])))) de];exact⟨rfl,rfl⟩
 ·rw[Ud (fk (r:=9) omg (by unfold Hr;(repeat (first|rw[AB omg]|rw[AA omg])))) de];exact⟨rfl,rfl⟩
 all_goals have cK:Hr (BS s (i+1))=none:=by unfold Hr;(repeat (first|rw[AB omg]|rw[AA omg]))
 all_goals have hn:=Kcb (s:=s) (i:=i) omg cK
 all_goals first
  |(rw[AB omg]at hn;rw[Ú hn];exact⟨rfl,rfl⟩)
  |(rw[AA omg,AB omg]at hn;rw[Ud hn de];exact⟨rfl,rfl⟩)
  |(rw[AA omg,AA omg,AB omg]at hn;rw[Ú hn];exact⟨rfl,rfl⟩)
  |(rw[AA omg,AA omg,AA omg]at hn;rw[Ud hn de];refine⟨?_,rfl⟩;simp only;congr 1;omega)
def tk(i:Nat):List UInt8×Nat:=if BS s i=92 then LW (s.drop i)else((s.drop i).take (DF s i),DF s i)
def QD(s:List UInt8):Nat->Nat->List UInt8->List UInt8×Nat×Nat|0,_,_=>([],s.length,1)|f+1,i,GJ=>if i<s.length then(if BS s i=34 then(GJ,i+1,0)else if(tk s i).2=0\/BS s i<32 then([],i,1)else QD s f (i+(tk s i).2) (GJ++(tk s i).1))else([],s.length,1)
def uq:List UInt8×Nat×Nat:=if s.length=0\/BS s 0≠34 then([],0,1)else QD s (s.length+1) 1 []
def Jd0:(EX s).2<=12/\(s.length<(EX s).2->(EX s).2=0):=by
 have key:∀s:List UInt8,0<=u4 s->6<=s.length:=fun s h=>by
  unfold u4 at h;split at h
  ·rename_i h6;exact h6.1
  ·omega
 unfold EX;split
 ·exact⟨by decide,fun _=>rfl⟩
 ·split
  ·exact⟨by simp only;omega,fun h=>by simp only at h;omega⟩
  ·split
   ·exact⟨by decide,fun _=>rfl⟩
   ·split
    ·exact⟨by simp only;omega,fun h=>by have:=key s omg;simp only at h;omega⟩
    ·split
     ·exact⟨by decide,fun _=>rfl⟩
     ·exact⟨by simp only;omega,fun h=>by
       have h1:=key (s.drop 6) omg;rw[KO]at h1;simp only at h;omega⟩
def Jpb:(LW s).1.length<=4/\(LW s).2<=12/\(LW s).2<=s.length:=by
 have h:=Jd0 s;unfold LW;split
 ·exact⟨by decide,by decide,EK _⟩
 ·exact⟨Od _,h.1,by rename_i hn;simp only;omega⟩
def fl(i:Nat)(h:i<s.length):(tk s i).1.length<=4/\(tk s i).2<=12/\i+(tk s i).2<=s.length:=by
 unfold tk;split
 ·have h1:=Jpb (s.drop i);rw[KO]at h1;exact⟨h1.1,h1.2.1,omg⟩
 ·have h1:=M4 s i h;have h2:=Qv s i;exact⟨by simp;omega,by simp only;omega,h1⟩
def Khd(i:Nat)(hs:s.length<=1000000)(hi:i<s.length):CA cx 252 [.p (.str s),.p (.int .i64 i)] [] (.tup [.str (tk s i).1,.int .i64 (tk s i).2]) []:=by
 have h4:=Qv s i;have h5:=M4 s i hi;(refine CK func252 ?_;simp only[go_sem,simprocAttr,YC (i:=i) (j:=DF s i) omg omg]);(repeat'(first|(apply BY<;>intro h)|refine EA ?_|((first|(refine BU (J8l s i hs hi) ?_)|(refine BU (Ø s i hs hi) ?_));simp only[go_sem,simprocAttr,YC (i:=i) (j:=DF s i) omg omg])|fail))
 ·unfold tk;rw[AB omg];exact⟨rfl,rfl⟩
 ·unfold tk;rw[AA omg,nI];exact⟨rfl,rfl⟩
def Jzm(hs:s.length<=1000000):CA cx 220 [.p (.str s)] [] (.tup [.str (uq s).1,.int .i64 (uq s).2.1,.int .i64 (uq s).2.2]) []:=by
 (refine CB func220 ?_);(repeat'(first|(apply BY<;>intro h)|refine EA ?_|fail))
 ·unfold uq;rw[AB omg];exact⟨rfl,rfl,rfl⟩
 ·unfold uq;rw[AB omg];exact⟨rfl,rfl,rfl⟩
 have e:uq s=QD s (s.length+1) 1 []:=by unfold uq;rw[AA omg]
 refine CL.loop (fun x:Nat×Nat×List UInt8=>⟨Ba 50 [(0,.p (.str s)),(5,.p (.str x.2.2)),(6,.p (.int .i64 x.1))],[]⟩) (fun x=>1<=x.1/\x.1<=s.length/\s.length+1<=x.1+x.2.1/\x.2.2.length<=4*x.1/\QD s x.2.1 x.1 x.2.2=uq s) (fun x=>s.length-x.1) (1,s.length+1,[]) CH ⟨by simp,by simp only;omega,by simp,by simp,e.symm⟩ ?_;rintro⟨i,f,GJ⟩ ⟨h0,h1,h2,h3,h4⟩;simp only at h0 h1 h2 h3 h4;obtain⟨g,rfl⟩:∃g,f=g+1:=⟨f-1,omg⟩
 by_cases BZ:¬i<s.length
 ·refine HO ?_;(repeat'(first|(apply BY<;>intro h)|refine EA ?_|(exfalso;omega)));rw[<-h4,QD,AA BZ];exact⟨rfl,rfl,rfl⟩
 ·have BZ:=JK.1 BZ;have ht:=fl s i BZ;(refine CC ?_;simp only[go_sem,simprocAttr,HL (i:=i) omg,YC (i:=i) (j:=(tk s i).2) omg omg]);(repeat'(first|(apply BY<;>intro h)|refine EA ?_|((refine BU (Khd s i hs BZ) ?_);simp only[go_sem,simprocAttr,HL (i:=i) omg,YC (i:=i) (j:=(tk s i).2) omg omg])|(exfalso;omega)))
  ·rw[<-h4,QD,AB BZ,AB omg];exact⟨rfl,rfl,rfl⟩
  ·rw[<-h4,QD,AB BZ,AA omg,AB omg];exact⟨rfl,rfl,rfl⟩
  ·rw[<-h4,QD,AB BZ,AA omg,AB omg];exact⟨rfl,rfl,rfl⟩
  ·refine⟨(i+(tk s i).2,g,GJ++(tk s i).1),⟨by simp only;omega,by simp only;omega,by simp only;omega,by simp only[DC];omega,?_⟩,by simp only;omega,CH⟩;simp only;rw[<-h4,QD,AB BZ,AA omg,AA omg]
def dk{s:List UInt8}(h:6<=s.length):s.take 2=[92,117]↔BS s 0=92/\BS s 1=117:=by
 match s,h with
 |a::b::t,_ =>
  simp only[XQ,QN,gS,and_true,Gu,Jk0];constructor
  ·rintro⟨rfl,rfl⟩;exact⟨rfl,rfl⟩
  ·rintro⟨h1,h2⟩;exact⟨UInt8.toNat_inj.1 h1,UInt8.toNat_inj.1 h2⟩
def Fk(hs:s.length<=1000000):CA cx 243 [.p (.str s)] [] (.p (.int .i64 (u4 s))) []:=by
 by_cases h6:s.length<6
 ·rw[show u4 s = -1 by unfold u4;rw[AA omg]];refine CB func243 ?_;(repeat'(first|(apply BY<;>intro h)|(exact True.intro)|(exfalso;omega)))
 have hT:((s.drop 2).take 4).length=4:=by simp;omega
 have hp:=Zn _ hT;have hca:=Sq _ hT;have hu:u4 s=if BS s 0=92/\BS s 1=117 then(match HS ((s.drop 2).take 4) 0 with|some n=>(n:Int)|none=>-1)else -1:=by
  unfold u4;by_cases hq:BS s 0=92/\BS s 1=117
  ·rw[AB hq,AB ⟨omg,hq⟩]<;>rfl
  ·rw[AA hq,AA (fun h=>hq h.2)]
 have sW:0<=XA ((s.drop 2).take 4) 5 0->HS ((s.drop 2).take 4) 0=none:=fun h=>by
  obtain⟨k,h1,h2⟩:=Y5 _ _ _ h;exact S4 _ _ k h1 h2
 generalize Û:(s.drop 2).take 4=T at *
 cases hx:HS T 0 with
 |none =>
  rw[hx]at hp hu;simp only[Vk,ite_self]at hp hu;rw[hu];refine CB func243 ?_;(repeat'(first|(apply BY<;>intro h)|refine EA ?_|((first|refine BU (Bj s _ hs de) ?_|refine BU hca ?_|refine BU hp ?_);simp only[go_sem,simprocAttr,Û])|(exact True.intro)))
  all_goals first
   |(rw[hu,AA (by rw[<-dk omg];assumption)])
   |(rw[hu,AB (by rw[<-dk omg];simp_all)])
 |some n =>
  have hia:¬0<=XA T 5 0:=fun h=>by rw[sW h]at hx;cases hx
  have hn:=We _ _ _ hx;rw[hT]at hn;have hwn:=tH (c:=n) omg;rw[hx]at hp hu;simp only[Vk]at hp hu;refine CB func243 ?_;(repeat'(first|(apply BY<;>intro h)|refine EA ?_|((first|refine BU (Bj s _ hs de) ?_|refine BU hca ?_|refine BU hp ?_);simp only[go_sem,simprocAttr,Û,Û,hwn])|(exfalso;omega)))
  all_goals first
   |(rw[hu,AA (by rw[<-dk omg];assumption)])
   |(rw[hu,AB (by rw[<-dk omg];simp_all)])
def Pf:(Hr c=none/\Cl (.int .u8 c) Ei 0=some none)\/∃i r,Hr c=some r/\r<=92/\Cl (.int .u8 c) Ei 0=some (some (i,.int .i32 r)):=by
 have key:∀(b:Int) (v:PV) (es:List (PV×PV)) (i:Nat),Cl (.int .u8 c) ((.int .u8 b,v)::es) i=if(c:Int)=b then some (some (i,v))else Cl (.int .u8 c) es (i+1):=fun b v es i=>by
  by_cases h:(c:Int)=b
  ·simp[Cl,Lc,h]
  ·have:((c:Int)==b)=false:=by simp[h]
   simp[Cl,Lc,this,h]
 unfold Hr Ei;simp only[key];have hc:∀b:Nat,((c:Int)=(b:Int))=(c=b):=fun b=>by apply propext;omega
 have e1:=hc 34;have e2:=hc 92;have e3:=hc 47;have e4:=hc 98;have e5:=hc 102;have e6:=hc 110;have e7:=hc 114;have e8:=hc 116;simp only[Int.cast_ofNat_Int]at e1 e2 e3 e4 e5 e6 e7 e8;simp only[e1,e2,e3,e4,e5,e6,e7,e8];by_cases h1:c=34
 ·exact .inr ⟨0,34,by simp[h1],by decide,by simp[h1]⟩
 by_cases h2:c=92
 ·exact .inr ⟨1,92,by simp[h2],by decide,by simp[h2]⟩
 by_cases h3:c=47
 ·exact .inr ⟨2,47,by simp[h3],by decide,by simp[h3]⟩
 by_cases h4:c=98
 ·exact .inr ⟨3,8,by simp[h4],by decide,by simp[h4]⟩
 by_cases h5:c=102
 ·exact .inr ⟨4,12,by simp[h5],by decide,by simp[h5]⟩
 by_cases h6:c=110
 ·exact .inr ⟨5,10,by simp[h6],by decide,by simp[h6]⟩
 by_cases h7:c=114
 ·exact .inr ⟨6,13,by simp[h7],by decide,by simp[h7]⟩
 by_cases h8:c=116
 ·exact .inr ⟨7,9,by simp[h8],by decide,by simp[h8]⟩
 ·refine .inl ⟨by simp[*],?_⟩;rw[AA h1,AA h2,AA h3,AA h4,AA h5,AA h6,AA h7,AA h8];rfl
def lS{s:List UInt8}(h:0<=u4 s):6<=s.length:=by
 unfold u4 at h;split at h
 ·rename_i h6;exact h6.1
 ·omega
def Mv(hs:s.length<=1000000):CA cx 211 [.p (.str s)] [] (.tup [.int .i32 (EX s).1,.int .i64 (EX s).2]) []:=by
 obtain⟨hu1,hu2⟩:=nz s;obtain⟨aj,UB⟩:=nz (s.drop 6);have hB:=Fr s 1;have h66:0<=u4 s->6<=s.length:=lS;rcases(Pf (BS s 1)).symm with⟨i,r,cK,hr,dm⟩|⟨cK,dm⟩
 ·refine CB func211 ?_;(repeat'(first|(apply BY<;>intro h)|refine EA ?_|((first|refine EG ?_|refine DS Kl ?_);simp only[go_sem,simprocAttr,dm])|fail))
  ·unfold EX;rw[AB omg];exact⟨rfl,rfl⟩
  ·unfold EX;rw[AA omg,cK];exact⟨rfl,rfl⟩
 ·have z0:=Qs (n:=u4 s) omg omg;have z1:=Aa (n:=u4 s-55296) omg omg;have z2:IntKind.i64.wrap ((u4 s-55296)*2^min 10 (B0 .i64))=(u4 s-55296)*1024:=Aa (n:=(u4 s-55296)*1024) omg omg;have z3:=Aa (n:=65536+(u4 s-55296)*1024) omg omg;have z4:=Aa (n:=65536+(u4 s-55296)*1024+u4 (s.drop 6)) omg omg;have z5:=Aa (n:=65536+(u4 s-55296)*1024+u4 (s.drop 6)-56320) omg omg;have z6:=Qs (n:=65536+(u4 s-55296)*1024+u4 (s.drop 6)-56320) omg omg;refine CB func211 ?_;(repeat'(first|(apply BY<;>intro h)|refine EA ?_|((first|refine EG ?_|refine DS Kl ?_|refine BU (Fk _ hs) ?_|(refine BU (Fk (s.drop 6) (by simp;omega)) ?_));simp only[go_sem,simprocAttr,dm,dm,z0,z1,z2,z3,z4,z5,z6])|(exfalso;omega)))
  ·unfold EX;rw[AB omg];exact⟨rfl,rfl⟩
  all_goals((unfold EX;rw[AA omg,cK];simp only)<;>((repeat' split)<;>first|(exfalso;omega)|(exact⟨rfl,rfl⟩)|(refine⟨?_,rfl⟩;simp only;omega)))
def Gq{s:List UInt8}(h:DF s i≠0):(code s i<128↔BS s i<128)/\(BS s i<128->code s i=BS s i):=by
 have h0:=Fr s i;rcases Fd s i with e|⟨e,g1⟩|⟨e,g1,g2,g3⟩|⟨e,g1,g2,g3,g4,g5,g6⟩|⟨e,g1,g2,g3,g4,g5,g6,g7⟩
 ·exact absurd e h
 ·have ec:code s i=BS s i:=by unfold code;rw[AB g1]
  omega
 ·have ec:code s i=BS s i%32*64+BS s (i+1)%64:=by unfold code;rw[AA omg,AB omg]
  omega
 ·have ec:code s i=BS s i%16*4096+BS s (i+1)%64*64+BS s (i+2)%64:=by unfold code;rw[AA omg,AA omg,AB omg]
  omega
 ·have ec:code s i=BS s i%8*262144+BS s (i+1)%64*4096+BS s (i+2)%64*64+BS s (i+3)%64:=by unfold code;rw[AA omg,AA omg,AA omg]
  omega
def Q4{s:List UInt8}:DF s i=1↔BS s i<128:=by
 rcases Fd s i with e|⟨e,g1⟩|⟨e,g1,g2,g3⟩|⟨e,g1,g2,g3,g4,g5,g6⟩|⟨e,g1,g2,g3,g4,g5,g6,g7⟩
 ·constructor
  ·omega
  ·intro h;unfold DF at e;rw[AB h]at e;cases e
 all_goals omega
def Jgy{s:List UInt8}(h:i<s.length)(hr:DF s i=0):K3 (s.drop i)=(65533,1):=by
 unfold K3;rw[AA (by rw[KO];omega),Qy,Nat.add_zero,F1,AB hr]
def Jcl{s:List UInt8}(h:i<s.length)(hr:DF s i≠0):K3 (s.drop i)=(code s i,DF s i):=by
 unfold K3;rw[AA (by rw[KO];omega),Qy,Nat.add_zero,F1,AA hr]
def O6{s:List UInt8}(h:(EX s).2≠0):Cy (EX s).1:=by
 have h1:=nz s;have h2:=nz (s.drop 6);unfold EX at h⊢;unfold Cy;split at h
 ·exact absurd rfl h
 ·rename_i hl;rw[AA hl];split at h
  ·rename_i r hr;have:r<=92:=by rcases Pf (BS s 1)with⟨e,_⟩|⟨i,r',e,UW,_⟩<;>rw[hr]at e<;>cases e;exact UW
   simp only;omega
  ·split at h
   ·exact absurd rfl h
   ·rename_i g1;rw[AA g1];split at h
    ·rename_i g2;rw[AB g2];simp only;omega
    ·rename_i g2;rw[AA g2];split at h
     ·exact absurd rfl h
     ·rename_i g3;rw[AA g3];simp only;omega
def I4:1<=(FG r).length:=by
 rw[D6];unfold It
 repeat' split
 all_goals simp
def dn(i:Nat)(s:List UInt8):List UInt8->St|[]=>⟨Ba 60 [(0,.p (.str s)),(5,.ptr 5 0 0),(6,.p (.int .i64 i))],[(5,.var 206 [.p .nptr,.p .snil])]⟩|c::t=>⟨Ba 60 [(0,.p (.str s)),(5,.ptr 5 0 0),(6,.p (.int .i64 i))],[(54,.row 5 1 (FM (c::t))),(5,.var 206 [.ptr 5 0 0,.own 54 0 (c::t).length])]⟩
def Ik{s GJ:List UInt8}(h:GJ≠[]):dn i s GJ=⟨Ba 60 [(0,.p (.str s)),(5,.ptr 5 0 0),(6,.p (.int .i64 i))],[(54,.row 5 1 (FM GJ)),(5,.var 206 [.ptr 5 0 0,.own 54 0 GJ.length])]⟩:=by
 cases GJ with
 |nil=>exact absurd rfl h
 |cons c t=>rfl
def Rm{s:List UInt8}:dn i s []=⟨Ba 60 [(0,.p (.str s)),(5,.ptr 5 0 0),(6,.p (.int .i64 i))],[(5,.var 206 [.p .nptr,.p .snil])]⟩:=rfl
def tK{s:List UInt8}:s.take 1=[34]↔¬(s.length=0\/BS s 0≠34):=by
 match s with
 |[]=>simp
 |a::t =>
  simp only[XQ,QN,gS,and_true,Gu,DH];constructor
  ·rintro rfl;simp
  ·intro h;exact UInt8.toNat_inj.1 (by simp at h⊢;exact h)
def Ts(hs:s.length<=1000000):CA cx 186 [.p (.str s)] [] (.tup [.str (uq s).1,.int .i64 (uq s).2.1,.int .i64 (uq s).2.2]) []:=by
 (refine CB func186 ?_);(repeat'(first|(apply BY<;>intro h)|refine CI (Bj s _ hs de) ?_|fail))
 ·unfold uq;rw[AB (by rw[tK]at *;exact JK.1 AN)];exact⟨rfl,rfl,rfl⟩
 have hp:¬(s.length=0\/BS s 0≠34):=tK.1 (JK.1 AN);have e:uq s=QD s (s.length+1) 1 []:=by unfold uq;rw[AA hp]
 refine CL.loop (fun x:Nat×Nat×List UInt8=>dn x.1 s x.2.2) (fun x=>1<=x.1/\x.1<=s.length/\s.length+1<=x.1+x.2.1/\x.2.2.length<=4*x.1/\QD s x.2.1 x.1 x.2.2=uq s) (fun x=>s.length-x.1) (1,s.length+1,[]) CH ⟨by simp,by simp only;omega,by simp,by simp,e.symm⟩ ?_;rintro⟨i,f,GJ⟩ ⟨h0,h1,h2,h3,h4⟩;simp only at h0 h1 h2 h3 h4;obtain⟨g,rfl⟩:∃g,f=g+1:=⟨f-1,omg⟩
 show CL _ _ _ _ (dn i s GJ);by_cases BZ:¬i<s.length
 ·rw[QD,AA BZ]at h4;by_cases DA:GJ=[]
  ·subst DA;rw[Rm];refine HO ?_;(repeat'(first|(apply BY<;>intro h)|refine EA ?_|(exfalso;omega)));rw[<-h4];exact⟨rfl,rfl,rfl⟩
  ·rw[Ik DA];refine HO ?_;(repeat'(first|(apply BY<;>intro h)|refine EA ?_|(exfalso;omega)));rw[<-h4];exact⟨rfl,rfl,rfl⟩
 ·have BZ:=JK.1 BZ;have ht:=fl s i BZ;rw[QD,AB BZ]at h4;by_cases hr:DF s i=0
  ·have hd:=Jgy BZ hr;have ha:128<=BS s i:=Nat.le_of_not_lt fun h=>by rw[Q4.2 h]at hr;cases hr
   have h5:(tk s i).2=0:=by unfold tk;rw[AA omg];exact hr
   rw[AA omg,AB (.inl h5)]at h4;by_cases DA:GJ=[]
   ·subst DA;rw[Rm];refine HO ?_;(repeat'(first|(apply BY<;>intro h)|refine EA ?_|((refine BU (C4 _) ?_);simp only[go_sem,simprocAttr,hd])|(exfalso;omega)));rw[<-h4];exact⟨rfl,rfl,rfl⟩
   ·rw[Ik DA];refine HO ?_;(repeat'(first|(apply BY<;>intro h)|refine EA ?_|((refine BU (C4 _) ?_);simp only[go_sem,simprocAttr,hd])|(exfalso;omega)));rw[<-h4];exact⟨rfl,rfl,rfl⟩
  ·have hd:=Jcl BZ hr;have hc:=Gq hr;have OI:DF s i=1↔BS s i<128:=Q4;have hR:=Fm hr;unfold Cy at hR;have hE:(EX (s.drop i)).2≠0->0<=(EX (s.drop i)).1/\(EX (s.drop i)).1<=1114111:=fun h=>by
    have:=O6 h;unfold Cy at this;omega
   have hEl:=Jd0 (s.drop i);have h4r:=Qv s i;have hT9:BS s i=92->(EX (s.drop i)).2≠0->tk s i=(FG (EX (s.drop i)).1,(EX (s.drop i)).2):=fun h h'=>by
    unfold tk;rw[AB h];unfold LW;rw[AA h']
   have hT0:BS s i=92->(EX (s.drop i)).2=0->(tk s i).2=0:=fun h h'=>by
    unfold tk;rw[AB h];unfold LW;rw[AB h']
   have hTn:BS s i≠92->tk s i=(FG (code s i),DF s i):=fun h=>by
    unfold tk;rw[AA h,H5 hr BZ]
   have hu1:=I4 (code s i);have hu2:=I4 (EX (s.drop i)).1;have tL:∀r,GJ++FG r≠[]:=fun r h=>by have:=I4 r;rw[(List.append_eq_nil_iff.1 h).2]at this;simp at this
   by_cases DA:GJ=[]
   ·subst DA;rw[Rm];(refine CC ?_;simp only[go_sem,simprocAttr,HL (i:=i) omg,YC (i:=i) (j:=DF s i) omg omg,YC (i:=i) (j:=(EX (s.drop i)).2) omg omg]);(repeat'(first|(apply BY<;>intro h)|refine EA ?_|((first|(refine BU (C4 _) ?_)|refine BU Fa ?_|(refine BU (Mv _ (by rw[KO];omega)) ?_)|(refine BU (Hb _ omg omg) ?_));simp only[go_sem,simprocAttr,hd,HL (i:=i) omg,YC (i:=i) (j:=DF s i) omg omg,YC (i:=i) (j:=(EX (s.drop i)).2) omg omg])|(exfalso;omega)))
    all_goals first
     |(rw[AB omg]at h4;rw[<-h4];exact⟨rfl,rfl,rfl⟩)
     |(rw[AA omg,AB (.inl (hT0 omg omg))]at h4;rw[<-h4];exact⟨rfl,rfl,rfl⟩)
     |(rw[AA omg,AB (.inr omg)]at h4;rw[<-h4];exact⟨rfl,rfl,rfl⟩)
     |(
      have hT:=hTn omg;rw[hT]at h4 ht;simp only at h4 ht;rw[AA omg,AA omg]at h4;refine⟨(i+DF s i,g,[]++FG (code s i)),⟨by simp only;omega,by simp only;omega,by simp only;omega,by simp only[DC,KM];omega,h4⟩,by simp only;omega,?_⟩;simp only;rw[Ik (tL _)];exact CH)
     |(
      have hT:=hT9 omg omg;rw[hT]at h4 ht;simp only at h4 ht;rw[AA omg,AA omg]at h4;refine⟨(i+(EX (s.drop i)).2,g,[]++FG (EX (s.drop i)).1),⟨by simp only;omega,by simp only;omega,by simp only;omega,by simp only[DC,KM];omega,h4⟩,by simp only;omega,?_⟩;simp only;rw[Ik (tL _)];exact CH)
   ·have QR:GJ.length≠0:=fun h=>DA (KH h)
    rw[Ik DA];(refine CC ?_;simp only[go_sem,simprocAttr,HL (i:=i) omg,YC (i:=i) (j:=DF s i) omg omg,YC (i:=i) (j:=(EX (s.drop i)).2) omg omg]);(repeat'(first|(apply BY<;>intro h)|refine EA ?_|((first|(refine BU (C4 _) ?_)|(refine BU (Eo GJ _ rfl omg QR) ?_)|(refine BU (Mv _ (by rw[KO];omega)) ?_)|(refine BU (Ed _ _ _ (Di _) omg omg omg) ?_));simp only[go_sem,simprocAttr,hd,HL (i:=i) omg,YC (i:=i) (j:=DF s i) omg omg,YC (i:=i) (j:=(EX (s.drop i)).2) omg omg])|(exfalso;omega)))
    all_goals first
     |(rw[AB omg]at h4;rw[<-h4];exact⟨rfl,rfl,rfl⟩)
     |(rw[AA omg,AB (.inl (hT0 omg omg))]at h4;rw[<-h4];exact⟨rfl,rfl,rfl⟩)
     |(rw[AA omg,AB (.inr omg)]at h4;rw[<-h4];exact⟨rfl,rfl,rfl⟩)
     |(
      have hT:=hTn omg;rw[hT]at h4 ht;simp only at h4 ht;rw[AA omg,AA omg]at h4;refine⟨(i+DF s i,g,GJ++FG (code s i)),⟨by simp only;omega,by simp only;omega,by simp only;omega,by simp only[DC];omega,h4⟩,by simp only;omega,?_⟩;simp only;rw[Ik (tL _),Gz,DC];exact CH)
     |(
      have hT:=hT9 omg omg;rw[hT]at h4 ht;simp only at h4 ht;rw[AA omg,AA omg]at h4;refine⟨(i+(EX (s.drop i)).2,g,GJ++FG (EX (s.drop i)).1),⟨by simp only;omega,by simp only;omega,by simp only;omega,by simp only[DC];omega,h4⟩,by simp only;omega,?_⟩;simp only;rw[Ik (tL _),Gz,DC];exact CH)
def Uz{s:List UInt8}(h:DF s i≠0)(hi:i<s.length):(FG (code s i)).length=DF s i:=by
 have h1:=M4 s i hi;rw[H5 h hi];simp;omega
def RO:Option Nat := if r=34 then some 34 else if r=92 then some 92 else if r=8 then some 98 else if r=12 then some 102 else if r=10 then some 110 else if r=13 then some 114 else if r=9 then some 116 else none
def bS:Nat->Nat|0=>34|1=>92|2=>47|3=>8|4=>12|5=>10|6=>13|7=>9|_=>0
def M9{p:PV×PV}(h:Ei[i]?=some p):i<8/\∃c r:Nat,p=(.int .u8 c,.int .i32 r):=by
 have hl:=(DX.1 h).1;have h8:i<8:=hl;refine⟨h8,?_⟩;have key:∀j:Fin 8,∃c r:Nat,Ei[j.val]?=some (.int .u8 c,.int .i32 r):=by
  intro j
  match j with
  |⟨0,_⟩=>exact⟨34,34,rfl⟩
  |⟨1,_⟩=>exact⟨92,92,rfl⟩
  |⟨2,_⟩=>exact⟨47,47,rfl⟩
  |⟨3,_⟩=>exact⟨98,8,rfl⟩
  |⟨4,_⟩=>exact⟨102,12,rfl⟩
  |⟨5,_⟩=>exact⟨110,10,rfl⟩
  |⟨6,_⟩=>exact⟨114,13,rfl⟩
  |⟨7,_⟩=>exact⟨116,9,rfl⟩
 obtain⟨c,r,hk⟩:=key ⟨i,h8⟩;rw[hk]at h;exact⟨c,r,(L' h).symm⟩
def Jge{j:Nat}{w:PV}(hi:Ei[i]?=some (v,k))(hj:Ei[j]?=some (w,k)):i=j:=by
 obtain⟨h1,a,r,e1⟩:=M9 hi;obtain⟨h2,b,q,e2⟩:=M9 hj;obtain⟨rfl,rfl⟩:=gU e1;obtain⟨rfl,e3⟩:=gU e2;have xb:r=q:=by injection e3 with _ h;omega
 subst xb;have key:∀i j:Fin 8,∀a b r:Nat,Ei[i.val]?=some (.int .u8 a,.int .i32 r)->Ei[j.val]?=some (.int .u8 b,.int .i32 r)->(bS i.val=r/\bS j.val=r):=by
  intro i j a b r hi hj;have f:∀k:Fin 8,∀c q:Nat,Ei[k.val]?=some (.int .u8 c,.int .i32 q)->bS k.val=q:=by
   intro k c q h
   match k,h with
   |⟨0,_⟩,h=>cases h;rfl
   |⟨1,_⟩,h=>cases h;rfl
   |⟨2,_⟩,h=>cases h;rfl
   |⟨3,_⟩,h=>cases h;rfl
   |⟨4,_⟩,h=>cases h;rfl
   |⟨5,_⟩,h=>cases h;rfl
   |⟨6,_⟩,h=>cases h;rfl
   |⟨7,_⟩,h=>cases h;rfl
  exact⟨f i a r hi,f j b r hj⟩
 obtain⟨k1,k2⟩:=key ⟨i,h1⟩ ⟨j,h2⟩ a b r hi hj;have inj:∀i j:Fin 8,bS i.val=bS j.val->i=j:=de;exact congrArg Fin.val (inj ⟨i,h1⟩ ⟨j,h2⟩ (k1.trans k2.symm))
def Jb8{r:Int}(h:Ei[i]?=some (v,.int .i32 r)):r=34\/r=92\/r=47\/r=8\/r=12\/r=10\/r=13\/r=9:=by
 obtain⟨h8,_⟩:=M9 h;have f:∀k:Fin 8,Ei[k.val]?=some (v,.int .i32 r)->r=34\/r=92\/r=47\/r=8\/r=12\/r=10\/r=13\/r=9:=by
  intro k h
  match k,h with
  |⟨0,_⟩,h=>cases h;simp
  |⟨1,_⟩,h=>cases h;simp
  |⟨2,_⟩,h=>cases h;simp
  |⟨3,_⟩,h=>cases h;simp
  |⟨4,_⟩,h=>cases h;simp
  |⟨5,_⟩,h=>cases h;simp
  |⟨6,_⟩,h=>cases h;simp
  |⟨7,_⟩,h=>cases h;simp
 exact f ⟨i,h8⟩ h
def lT(es:List (PV×PV)):Prop:=∀r:Int,(RO r=none/\Cl (.int .i32 r) es 0=some none)\/∃i c,RO r=some c/\c<=116/\Cl (.int .i32 r) es 0=some (some (i,.int .u8 c))
def Jfl:Al cx 213 [] [] (fun m q=>q=[]/\∃es,m=.p (.mp es)/\lT es):=by
 (refine CB func213 ?_);(repeat'(first|refine CI Kl ?_|fail));refine CL.loop (fun x:List (PV×PV)×List Nat=>⟨Ba 17 [(1,.mref 4),(6,.ptr 6 0 0)],[(6,.obj (.mit Ei x.2)),(4,.obj (.mp x.1))]⟩) (fun x=>JV (Z5 .i32) x.1/\∀k v,(k,v)∈x.1 ↔ ∃i∈x.2,Ei[i]?=some (v,k)) (fun x=>Jo x.2 8) ([],[]) CH ⟨JV.nil,by simp⟩ ?_;rintro⟨es,seen⟩ ⟨h1,h2⟩;simp only at h1 h2;refine HO ?_;refine⟨fun j p hj vw=>?_,fun GI=>?_⟩
 ·obtain⟨h8,c,r,rfl⟩:=M9 hj;refine⟨_,hj,?_⟩;obtain⟨CN,e1,g1,g2⟩:=Jhy (v:=.int .u8 c) (P1 .i32) (k:=.int .i32 r) ⟨_,rfl⟩ h1;simp only[go_sem,simprocAttr,e1];refine⟨(CN,seen++[j]),⟨g1,fun k v=>?_⟩,S9 vw h8,CH⟩;rw[g2];constructor
  ·rintro(⟨rfl,rfl⟩|⟨_,hm⟩)
   ·exact⟨j,by simp,hj⟩
   ·obtain⟨i,hi,he⟩:=(h2 k v).1 hm;exact⟨i,by simp[hi],he⟩
  ·rintro⟨i,hi,he⟩;rw[H',KI]at hi;rcases hi with hi|rfl
   ·refine .inr ⟨fun hk=>?_,(h2 k v).2 ⟨i,hi,he⟩⟩;subst hk;have:=Jge he hj;subst this;exact vw hi
   ·rw[hj]at he;have:=gU (L' he);exact .inl ⟨this.2.symm,this.1.symm⟩
 ·obtain⟨CN,e1,g1,g2⟩:=Jer (P1 .i32) (k:=.int .i32 47) ⟨_,rfl⟩ h1;simp only[go_sem,simprocAttr,e1,e1];refine⟨CN,rfl,fun r=>?_⟩;have lU:∀(i:Nat) (c r:Int),Ei[i]?=some (.int .u8 c,.int .i32 r)->r≠47->∃j,Cl (.int .i32 r) CN 0=some (some (j,.int .u8 c)):=fun i c r hi hr =>
   Jkm (P1 .i32) g1 ((g2 _ _).2 ⟨fun e=>hr (by injection e),(h2 _ _).2 ⟨i,GI i (DX.1 hi).1,hi⟩⟩)
  unfold RO;by_cases c1:r=34
  ·subst c1;obtain⟨j,hj⟩:=lU 0 34 34 rfl de;exact .inr ⟨j,34,rfl,by decide,hj⟩
  by_cases c2:r=92
  ·subst c2;obtain⟨j,hj⟩:=lU 1 92 92 rfl de;exact .inr ⟨j,92,rfl,by decide,hj⟩
  by_cases c3:r=8
  ·subst c3;obtain⟨j,hj⟩:=lU 3 98 8 rfl de;exact .inr ⟨j,98,rfl,by decide,hj⟩
  by_cases c4:r=12
  ·subst c4;obtain⟨j,hj⟩:=lU 4 102 12 rfl de;exact .inr ⟨j,102,rfl,by decide,hj⟩
  by_cases c5:r=10
  ·subst c5;obtain⟨j,hj⟩:=lU 5 110 10 rfl de;exact .inr ⟨j,110,rfl,by decide,hj⟩
  by_cases c6:r=13
  ·subst c6;obtain⟨j,hj⟩:=lU 6 114 13 rfl de;exact .inr ⟨j,114,rfl,by decide,hj⟩
  by_cases c7:r=9
  ·subst c7;obtain⟨j,hj⟩:=lU 7 116 9 rfl de;exact .inr ⟨j,116,rfl,by decide,hj⟩
  refine .inl ⟨by simp[*],Jep (P1 .i32) ⟨_,rfl⟩ g1 fun v hv=>?_⟩;obtain⟨DA,hm⟩:=(g2 _ _).1 hv;obtain⟨i,_,hi⟩:=(h2 _ _).1 hm;have h47:r≠47:=fun e=>DA (by rw[e])
  have:=Jb8 hi;omega
def Jdx(a b:List UInt8):KR (a++b)=KR a++KR b:=by simp[KR]
def qr:List UInt8:=match RO r with
 |some c=>[92,UInt8.ofNat c]
 |none=>if r<32 then [92,117,48,48]++(RN (r.toNat+256)).drop 1 else FG r
def Joz{c:Nat}(h:128<=c):wr c=[UInt8.ofNat c]:=by
 unfold wr;rw[AA omg,AA omg,AA omg,AA omg,AA omg,AA omg,AA omg,AA omg]
def lV{c:Nat}(h:c<128):wr c=qr c:=by
 have key:∀m:Fin 128,wr m.val=qr m.val:=de;exact key ⟨c,h⟩
def Ze:∀l:List UInt8,(∀c∈l,128<=c.toNat)->KR l=l
 |[],_=>rfl
 |c::l,h=>by
  show wr c.toNat++KR l=c::l;rw[Joz (h c DQ),Ze l fun d hd=>h d (EW _ hd)];simp
def Jfh{r:Int}(h:93<=r):RO r=none:=by
 unfold RO;rw[AA omg,AA omg,AA omg,AA omg,AA omg,AA omg,AA omg]
def Yx{s:List UInt8}(h:DF s i≠0)(hi:i<s.length):KR ((s.drop i).take (DF s i))=qr (code s i):=by
 by_cases h1:BS s i<128
 ·rw[Q4.2 h1,(Gq h).2 h1,<-lV h1];rw[Mx hi,XQ,QN];show wr s[i].toNat++[]=wr (BS s i);rw[ID,Ql hi]
 ·have hc:128<=code s i:=by have:=(Gq h).1;omega
  have e:qr (code s i)=FG (code s i):=by
   unfold qr;rw[Jfh omg];simp only;rw[AA omg]
  rw[e,H5 h hi];apply Ze;intro c hm;rw[<-H5 h hi]at hm;obtain⟨x,hx,rfl⟩:=FB.1 hm;have MA:128<=x/\x<256:=by
   revert hx;unfold It;rw[AA omg]
   repeat' split
   all_goals(simp;try omega)
  have:=B8 (c:=x) omg omg;omega
def K4(es:List (List PV))(s:List UInt8)(n:Nat)(he:es=FM s)(hn:s.length=n)(h1:n<=1000000000)(h0:n≠0):CA cx 210 [.ptr 1000 0 0] [(500001,.row 5 1 es),(1000,.var 206 [.ptr 1000 0 0,.own 500001 0 n])] (.p (.str s)) [(1000,.var 206 [.ptr 1000 0 0,.junk])]:=by
 subst he;exact Eo s n hn h1 h0
@[simp] theorem xc:FM [34]=[[.int .u8 34]]:=rfl
def Jik(u:Nat):(RN u).length=3:=rfl
def Kt(hs:s.length<=1000000)(hv:valid s=true):CA cx 188 [.p (.str s)] [] (.p (.str (LV s))) []:=by
 (refine CB func188 ?_);refine Jfl.mono fun m q II=>?_
 obtain⟨rfl,es,rfl,hL⟩:=II;simp only[go_sem,simprocAttr];(repeat'(first|refine CI (Hc 34) ?_|fail));refine CL.loop (fun x:Nat×Nat=>⟨Ba 41 [(0,.p (.str s)),(3,.ptr 3 0 0),(4,.p (.mp es)),(12,.ptr 12 0 0)],[(12,.obj (.sit s x.1)),(10,.row 5 1 (FM (34::KR (s.take x.1)))),(3,.var 206 [.ptr 3 0 0,.own 10 0 (34::KR (s.take x.1)).length])]⟩) (fun x=>x.1<=s.length/\s.length+1<=x.1+x.2/\vF s x.2 x.1=true) (fun x=>s.length-x.1) (0,s.length+1) CH ⟨by simp,by simp,hv⟩ ?_;rintro⟨i,f⟩ ⟨h1,h2,h3⟩;simp only at h1 h2 h3;obtain⟨g,rfl⟩:∃g,f=g+1:=⟨f-1,omg⟩
 have hw:=Jlg (s.take i);have hl:(s.take i).length<=s.length:=List.length_take_le' ..
 rw[vF]at h3;by_cases BZ:¬i<s.length
 ·have ht:s.take i=s:=DK omg;rw[ht]at hw⊢;(refine CC ?_;simp only[go_sem,simprocAttr,H6]);(repeat'(first|(apply BY<;>intro h)|((first|(refine BU (Eb 34 _ _ (Di _) (by simp;omega)) ?_)|(refine BU (K4 _ (34::KR s++[34]) _ (by simp[FM]) sm (by simp;omega) sm) ?_));simp only[go_sem,simprocAttr])|(exfalso;omega)));rfl
 have BZ:=JK.1 BZ;rw[AB BZ]at h3;have hd:=F1 s i;have cE:=M4 s i BZ;by_cases hr:DF s i=0
 ·rw[AB hr]at h3;cases h3
 rw[AA hr]at h3 hd;have hR:=Fm hr;unfold Cy at hR;have hq:KR (s.take (i+DF s i))=KR (s.take i)++qr (code s i):=by
  rw[List.take_add,Jdx,Yx hr BZ]
 have hw0:=tH (c:=code s i) omg;have Xd:IntKind.i64.wrap ((code s i:Int)+256)=((code s i+256:Nat):Int):=by rw[Aa omg omg];omega
 rcases hL (code s i)with⟨n5,dm⟩|⟨j,c,n5,hc,dm⟩
 ·(refine CC ?_;simp only[go_sem,simprocAttr,H6,hd,dm]);(repeat'(first|(apply BY<;>intro h)|((first|(refine BU (Bx _ _ _ (by simp[FM]) (by simp;omega) (by simp[RN])) ?_)|(refine BU (Ph (code s i+256) omg omg) ?_)|(refine BU (Ed _ _ _ (Di _) (by simp;omega) omg omg) ?_));simp only[go_sem,simprocAttr,hw0,Xd,Jik])|(exfalso;omega)))
  ·have fm:qr (code s i)=[92,117,48,48]++(RN (code s i+256)).drop 1:=by
    unfold qr;rw[n5];simp only;rw[AB omg];rfl
   have NF:FM (34::KR (s.take (i+DF s i)))=FM (34::KR (s.take i))++FM [92,117,48,48]++FM ((RN (code s i+256)).drop 1):=by
    rw[hq,fm,<-PQ,Gz,Gz,KJ]
   have CY:(KR (s.take (i+DF s i))).length+1=(KR (s.take i)).length+1+4+((RN (code s i+256)).drop 1).length:=by rw[hq,fm];simp[RN]
   refine⟨(i+DF s i,g),⟨by simp only;omega,by simp only;omega,h3⟩,by simp only;omega,?_⟩;simp only[DH];rw[NF,CY];exact CH
  ·have fm:qr (code s i)=FG (code s i):=by
    unfold qr;rw[n5];simp only;rw[AA omg]
   have NF:FM (34::KR (s.take (i+DF s i)))=FM (34::KR (s.take i))++FM (FG (code s i)):=by
    rw[hq,fm,<-PQ,Gz]
   have CY:(KR (s.take (i+DF s i))).length+1=(KR (s.take i)).length+1+(FG (code s i)).length:=by rw[hq,fm];simp;omega
   refine⟨(i+DF s i,g),⟨by simp only;omega,by simp only;omega,h3⟩,by simp only;omega,?_⟩;simp only[DH];rw[NF,CY];exact CH
 ·(refine CC ?_;simp only[go_sem,simprocAttr,H6,hd,dm,hd,dm]);(repeat'(first|(apply BY<;>intro h)|((refine BU (Eb _ _ _ (by simp[FM]) (by simp;omega)) ?_);simp only[go_sem,simprocAttr])|(exfalso;omega)));have fm:qr (code s i)=[92,UInt8.ofNat c]:=by
   unfold qr;rw[n5]
  have NF:FM (34::KR (s.take (i+DF s i)))=FM (34::KR (s.take i))++[[.int .u8 92]]++[[.int .u8 c]]:=by
   rw[hq,fm,<-PQ,Gz,KJ];simp[FM];omega
  have CY:(KR (s.take (i+DF s i))).length+1=(KR (s.take i)).length+1+1+1:=by rw[hq,fm];simp
  refine⟨(i+DF s i,g),⟨by simp only;omega,by simp only;omega,h3⟩,by simp only;omega,?_⟩;simp only[DH];rw[NF,CY];exact CH
def EN:List UInt8:=rs.flatMap FG
def wq:List UInt8:=rs.flatMap qr
def IV:Prop:=∀r∈rs,Cy r
def Ki(rs:List Int):EN (r::rs)=FG r++EN rs:=rfl
def U4(rs:List Int):wq (r::rs)=qr r++wq rs:=rfl
def IV.app{a b:List Int}(h1:IV a)(h2:IV b):IV (a++b):=fun r h=>(H'.1 h).elim (h1 r) (h2 r)
def IV.tail{r:Int}{rs:List Int}(h:IV (r::rs)):IV rs:=fun x hx=>h x (EW _ hx)
def IV.head{r:Int}{rs:List Int}(h:IV (r::rs)):Cy r:=h r DQ
def O2:∀(rs:List Int) (s:List UInt8) (f i:Nat),IV rs->s.drop i=EN rs->vF s f i=true
 |_,_,0,_,_,_=>rfl
 |[],s,f+1,i,_,h=>by
  have hl:=congrArg List.length h;simp[EN]at hl;rw[vF,AA omg]
 |r::rs,s,f+1,i,ha,h=>by
  rw[Ki]at h;obtain⟨h1,_⟩:=Rp ha.head (EN rs);rw[<-h,Ny,Nat.add_zero]at h1;have hp:=I4 r;have hd:s.drop (i+DF s i)=EN rs:=by
   rw[<-JO,h,h1,YL]
  rw[vF];split
  ·rw[AA omg];exact O2 rs s f _ ha.tail hd
  ·rfl
def Pi:∀(f:Nat) (s:List UInt8) (i:Nat),s.length<i+f->vF s f i=true->∃rs,IV rs/\s.drop i=EN rs
 |0,s,i,hf,_=>⟨[],by simp[IV],JD omg⟩
 |f+1,s,i,hf,h=>by
  rw[vF]at h;split at h
  ·rename_i BZ;split at h
   ·cases h
   ·rename_i hr;obtain⟨rs,ha,hd⟩:=Pi f s _ omg h;refine⟨(code s i:Int)::rs,?_,?_⟩
    ·intro r hm;rcases DN.1 hm with rfl|hm
     ·exact Fm hr
     ·exact ha r hm
    ·rw[Ki,H5 hr BZ,<-hd,<-JO,PO]
  ·exact⟨[],by simp[IV],JD omg⟩
def Jb{s:List UInt8}:valid s=true ↔ ∃rs,IV rs/\s=EN rs:=
 ⟨fun h=>by
  obtain⟨rs,ha,hd⟩:=Pi (s.length+1) s 0 omg h;exact⟨rs,ha,hd⟩,fun⟨rs,ha,e⟩=>O2 rs s _ 0 ha (by rw[OB];exact e)⟩
def Jn1{r:Int}(h:Cy r):KR (FG r)=qr r:=by
 obtain⟨h1,h2⟩:=Rp h [];rw[ID]at h1 h2;have hp:=I4 r;have:=Yx (s:=FG r) (i:=0) omg omg;rw[h1,OB,bz,h2]at this;exact this
def Ru:∀rs:List Int,IV rs->KR (EN rs)=wq rs
 |[],_=>rfl
 |r::rs,h=>by rw[Ki,U4,Jdx,Jn1 h.head,Ru rs h.tail]
def Tu:(RO r=none/\r≠34/\r≠92)\/∃c,RO r=some c/\Hr c=some r.toNat/\0<=r/\c<256:=by
 unfold RO;by_cases c1:r=34
 ·subst c1;exact .inr ⟨34,rfl,rfl,by decide,by decide⟩
 by_cases c2:r=92
 ·subst c2;exact .inr ⟨92,rfl,rfl,by decide,by decide⟩
 by_cases c3:r=8
 ·subst c3;exact .inr ⟨98,rfl,rfl,by decide,by decide⟩
 by_cases c4:r=12
 ·subst c4;exact .inr ⟨102,rfl,rfl,by decide,by decide⟩
 by_cases c5:r=10
 ·subst c5;exact .inr ⟨110,rfl,rfl,by decide,by decide⟩
 by_cases c6:r=13
 ·subst c6;exact .inr ⟨114,rfl,rfl,by decide,by decide⟩
 by_cases c7:r=9
 ·subst c7;exact .inr ⟨116,rfl,rfl,by decide,by decide⟩
 refine .inl ⟨by simp[*],c1,c2⟩
def R9:(LV s).length=(KR s).length+2:=by simp[LV]
def Xn:∀(f:Nat) (s:List UInt8) (i:Nat) (GJ:List UInt8),1<=i->((QD s f i GJ).2.2=0/\2<=(QD s f i GJ).2.1/\(QD s f i GJ).2.1<=s.length)\/((QD s f i GJ).2.2=1/\(QD s f i GJ).1=[]/\(QD s f i GJ).2.1<=s.length)
 |0,s,i,GJ,_=>.inr ⟨rfl,rfl,CS _⟩
 |f+1,s,i,GJ,h1=>by
  rw[QD];split
  ·split
   ·exact .inl ⟨rfl,by simp only;omega,by simp only;omega⟩
   ·split
    ·exact .inr ⟨rfl,rfl,by simp only;omega⟩
    ·exact Xn f s _ _ omg
  ·exact .inr ⟨rfl,rfl,CS _⟩
def Jcv:((uq s).2.2=0/\2<=(uq s).2.1/\(uq s).2.1<=s.length)\/((uq s).2.2=1/\(uq s).1=[]/\(uq s).2.1<=s.length):=by
 unfold uq;split
 ·exact .inr ⟨rfl,rfl,EK _⟩
 ·exact Xn _ _ _ _ omg
def Jo6{r:Int}(h:32<=r)(h1:r≠34)(h2:r≠92):qr r=FG r:=by
 rcases Tu r with⟨hl,_⟩|⟨c,hl,_⟩
 ·unfold qr;rw[hl];simp only;rw[AA omg]
 ·exfalso;unfold RO at hl;rw[AA omg,AA omg,AA omg,AA omg,AA omg,AA omg,AA omg]at hl;cases hl
def Jnq:(qr r).length<=6:=by
 have:=Od r;unfold qr;split
 ·simp
 ·split
  ·simp[RN]
  ·omega
def Jib{r:Int}(h0:0<=r)(h:r<128):(FG r).length=1:=by rw[D6,Nb ⟨h0,h⟩];rfl
def Jfn{c r:Nat}(h:Hr c=some r):(qr r).length<=2/\r<128:=by
 unfold Hr at h
 repeat' split at h
 all_goals first|(cases h;done)|(obtain rfl:=L' h;exact⟨by decide,by decide⟩)
def Jpo{s:List UInt8}(hi:i<s.length)(h0:(tk s i).2≠0)(h1:BS s i≠34)(h2:32<=BS s i):∃r,Cy r/\(tk s i).1=FG r/\(FG r).length<=(tk s i).2/\(qr r).length<=(tk s i).2:=by
 unfold tk at h0⊢;split
 ·rename_i Ü;rw[AB Ü]at h0;generalize s.drop i=d at *
  have e2:(EX d).2≠0:=fun e=>h0 (by unfold LW;rw[AB e])
  have eS:LW d=(FG (EX d).1,(EX d).2):=by unfold LW;rw[AA e2]
  refine⟨(EX d).1,O6 e2,by rw[eS],?_⟩;rw[eS];simp only;have hu:=Od (EX d).1;have hq:=Jnq (EX d).1;unfold EX at e2 hu hq⊢;split at e2
  ·exact absurd rfl e2
  rename_i hl;rw[AA hl]at hu hq⊢;cases hs:Hr (BS d 1)with
  |some r =>
   obtain⟨k1,k2⟩:=Jfn hs;simp only;rw[Jib omg omg];exact⟨by decide,k1⟩
  |none =>
   rw[hs]at e2 hu hq;simp only at e2 hu hq⊢;split at e2
   ·exact absurd rfl e2
   rename_i c1;rw[AA c1]at hu hq⊢;split at e2
   ·rename_i c2;rw[AB c2]at hu hq⊢;simp only at hu hq⊢;omega
   rename_i c2;rw[AA c2]at hu hq⊢;split at e2
   ·exact absurd rfl e2
   rename_i c3;rw[AA c3]at hu hq⊢;simp only at hu hq⊢;omega
 ·rename_i Ü;rw[AA Ü]at h0;simp only at h0⊢;have IS:=Gq (s:=s) (i:=i) h0;have hl:=Uz h0 hi;refine⟨code s i,Fm h0,(H5 h0 hi).symm,omg,?_⟩;rw[Jo6 omg omg omg];omega
def Tr:∀(f:Nat) (s:List UInt8) (i:Nat) (rs:List Int) (x:List UInt8) (n:Nat),1<=i->IV rs->(EN rs).length+1<=i->(wq rs).length+1<=i->QD s f i (EN rs)=(x,n,0)->∃ts,IV ts/\x=EN ts/\(EN ts).length+2<=n/\(wq ts).length+2<=n
 |0,s,i,rs,x,n,_,_,_,_,h=>by simp[QD]at h
 |f+1,s,i,rs,x,n,h1,ha,hu,hw,h=>by
  rw[QD]at h;split at h
  ·rename_i hi;split at h
   ·simp only[cp]at h;obtain⟨rfl,rfl,_⟩:=h;exact⟨rs,ha,rfl,omg,omg⟩
   ·rename_i h34;split at h
    ·simp at h
    ·rename_i hb;obtain⟨r,k1,k2,k3,k4⟩:=Jpo hi omg h34 omg;rw[k2,show EN rs++FG r=EN (rs++[r])by simp[EN]]at h;have eu:EN (rs++[r])=EN rs++FG r:=by simp[EN]
     have ew:wq (rs++[r])=wq rs++qr r:=by simp[wq]
     refine Tr f s _ (rs++[r]) x n omg (ha.app fun y hy=>?_) (by rw[eu,DC];omega) (by rw[ew,DC];omega) h;rw[KI.1 hy];exact k1
  ·simp at h
def Jmq{s x:List UInt8}{n:Nat}(h:uq s=(x,n,0)):valid x=true/\x.length+2<=n/\(LV x).length<=n/\n<=s.length:=by
 have he:=Jcv s;rw[h]at he;simp only at he;unfold uq at h;split at h
 ·simp at h
 ·obtain⟨ts,ha,rfl,h1,h2⟩:=Tr _ s 1 [] x n omg (by simp[IV]) (by simp[EN]) (by simp[wq]) h;refine⟨Jb.2 ⟨ts,ha,rfl⟩,h1,?_,omg⟩;rw[R9,Ru ts ha];exact h2
def figs:List UInt8:=if Of then [48,49,50,51,52,53,54,55,56,57,65,66,67,68,69,70]else [48,49,50,51,52,53,54,55,56,57,97,98,99,100,101,102]
def xd(d:Nat):UInt8:=(figs Of).getD d 0
def codeS(n:Nat)(Of:Bool):List UInt8:=[92,117,xd Of (n/4096%16),xd Of (n/256%16),xd Of (n/16%16),xd Of (n%16)]
def Dv:CD:=⟨false,[],0⟩
def Bw:CD×Nat:=
 if s.take 1=[46]then
  if 0<Dm (s.drop 1)then(⟨false,(s.drop 1).take (Dm (s.drop 1)),0⟩,Dm (s.drop 1)+1)
  else if(uq (s.drop 1)).2.2≠0\/JW (uq (s.drop 1)).1\/LV (uq (s.drop 1)).1≠(s.drop 1).take (uq (s.drop 1)).2.1 then(Dv,0)
  else(⟨false,(uq (s.drop 1)).1,0⟩,(uq (s.drop 1)).2.1+1)
 else(Dv,0)
def Jni{s:List UInt8}(h:(uq s).2.2=0):valid (uq s).1=true/\(uq s).1.length+2<=(uq s).2.1/\(LV (uq s).1).length<=(uq s).2.1/\(uq s).2.1<=s.length:=
 Jmq (s:=s) (x:=(uq s).1) (n:=(uq s).2.1) (by rw[<-h])
def Ý:valid (uq s).1=true/\(uq s).1.length<=s.length/\(uq s).2.1<=s.length:=by
 rcases Jcv s with h|⟨h1,h2,h3⟩
 ·have:=Jni h.1;exact⟨this.1,omg,omg⟩
 ·rw[h2];exact⟨rfl,EK _,h3⟩
def Ja3(hs:s.length<=1000000)(h0:¬s.take 1=[46]):CA cx 147 [.p (.str s)] [] (.tup [.agg Dv.cells,.int .i64 0]) []:=by
 (refine CB func147 ?_);(repeat'(first|(apply BY<;>intro h)|refine CI (Bj s [46] hs sm) ?_|fail))
 ·rfl
 ·exact absurd h0 AN
def Vu(hs:s.length<=1000000)(h0:s.take 1=[46])(h2:0<Dm (s.drop 1)):CA cx 147 [.p (.str s)] [] (.tup [.agg (CD.cells ⟨false,(s.drop 1).take (Dm (s.drop 1)),0⟩),.int .i64 (Dm (s.drop 1)+1:Nat)]) []:=by
 have h1:1<=s.length:=by cases s<;>simp at h0⊢
 have hw:=P3 (s.drop 1);rw[KO]at hw;(refine CK func147 ?_;simp only[go_sem,simprocAttr,HL (i:=Dm (s.drop 1)) omg]);(repeat'(first|(apply BY<;>intro h)|refine EA ?_|((first|(refine BU (Bj s [46] hs sm) ?_)|(refine BU (Nw (s.drop 1) (by simp;omega)) ?_));simp only[go_sem,simprocAttr,h0,HL (i:=Dm (s.drop 1)) omg])|(exfalso;omega)));rfl
def Ev(hs:s.length<=1000000):CA cx 147 [.p (.str s)] [] (.tup [.agg (Bw s).1.cells,.int .i64 (Bw s).2]) []:=by
 by_cases h0:s.take 1=[46]
 ·have h1:1<=s.length:=by cases s<;>simp at h0⊢
  by_cases h2:0<Dm (s.drop 1)
  ·have e:Bw s=(⟨false,(s.drop 1).take (Dm (s.drop 1)),0⟩,Dm (s.drop 1)+1):=by unfold Bw;rw[AB h0,AB h2]
   rw[e];exact Vu s hs h0 h2
  ·obtain⟨u1,u2,u3⟩:=Ý (s.drop 1);rw[KO]at u2 u3;have hw:Dm (s.drop 1)=0:=omg;have w1:IntKind.i64.wrap (1+((uq (s.drop 1)).2.1:Int))=(((uq (s.drop 1)).2.1+1:Nat):Int):=by rw[Int.add_comm];exact HL omg
   have no:((uq (s.drop 1)).2.2≠0\/JW (uq (s.drop 1)).1\/LV (uq (s.drop 1)).1≠(s.drop 1).take (uq (s.drop 1)).2.1)->Bw s=(Dv,0):=fun h=>by
    unfold Bw;rw[AB h0,AA h2,AB h]
   (refine CK func147 ?_;simp only[go_sem,simprocAttr,HL (i:=(uq (s.drop 1)).2.1) omg]);(repeat'(first|(apply BY<;>intro h)|refine EA ?_|((first|refine EG ?_|(refine BU (Bj s [46] hs sm) ?_)|(refine BU (Nw (s.drop 1) (by simp;omega)) ?_)|(refine BU (Ts (s.drop 1) (by simp;omega)) ?_)|(refine DS (Er (uq (s.drop 1)).1 omg) ?_)|(refine DS (Kt (uq (s.drop 1)).1 omg u1) ?_));simp only[go_sem,simprocAttr,h0,hw,w1,HL (i:=(uq (s.drop 1)).2.1) omg])|fail))
   ·rw[no (.inl omg)];exact⟨rfl,rfl⟩
   ·rw[no (.inr (.inl AN))];exact⟨rfl,rfl⟩
   ·rw[no (.inr (.inr AN))];exact⟨rfl,rfl⟩
   ·have e:Bw s=(⟨false,(uq (s.drop 1)).1,0⟩,(uq (s.drop 1)).2.1+1):=by
     unfold Bw;rw[AB h0,AA h2,AA];rintro(h|h|h)
     ·omega
     ·contradiction
     ·exact absurd h AN
    rw[e];exact⟨rfl,rfl⟩
 ·have e:Bw s=(Dv,0):=by unfold Bw;rw[AA h0]
  rw[e];exact Ja3 s hs h0
def eI:Int:=Lib.indexByte s (93:Int).toNat.toUInt8
def pT:List UInt8:=(s.drop 1).take ((eI s).toNat-1)
def tM{s:List UInt8}{e:Nat}(h:eI s=e):e<s.length:=by
 have:=(Lib.indexByte_some h).1;exact(DX.1 this).1
def Ce:CD×Nat:=
 if s.take 1=[91]/\2<=eI s/\eI s<=8 then
  match Lib.atoiAll (pT s)with
  |.ok n=>if 0<=n/\n<=1000000/\Lib.itoa n=pT s then(⟨true,[],n⟩,(eI s).toNat+1)else(Dv,0)
  |_=>(Dv,0)
 else(Dv,0)
def Gg:CA cx 190 [.p (.str s),.p (.int .u8 93)] [] (.p (.int .i64 (eI s))) []:=Fu s 93
def Jhg(hs:s.length<=1000000)(h0:¬(s.take 1=[91]/\2<=eI s/\eI s<=8)):CA cx 149 [.p (.str s)] [] (.tup [.agg Dv.cells,.int .i64 0]) []:=by
 (refine CB func149 ?_);(repeat'(first|(apply BY<;>intro h)|refine EA ?_|(first|refine CI (Gg s) ?_|refine CI (Bj s [91] hs sm) ?_)|fail))
 ·rfl
 ·rfl
 ·rfl
 ·exact absurd ⟨JK.1 AN,omg,omg⟩ h0
def Q1(hs:s.length<=1000000)(e:Nat)(he:eI s=e)(h0:s.take 1=[91])(h1:2<=e)(h2:e<=8)(h3:∃a,Qh ((s.drop 1).take (e-1))=.tup [.int .i64 a,.ifc]):CA cx 149 [.p (.str s)] [] (.tup [.agg Dv.cells,.int .i64 0]) []:=by
 obtain⟨a,h3⟩:=h3;have hl:=tM he;refine CB func149 ?_;(repeat'(first|(apply BY<;>intro h)|refine EA ?_|((first|refine EG ?_|refine BU (Gg s) ?_|refine BU (Bj s [91] hs sm) ?_|(refine BU (U9 ((s.drop 1).take (e-1)) (by simp;omega)) ?_));simp only[go_sem,simprocAttr,h0,he,h3])|(exfalso;omega)));rfl
def Jgb(hs:s.length<=1000000)(e:Nat)(he:eI s=e)(h0:s.take 1=[91])(h1:2<=e)(h2:e<=8)(n:Int)(hn:n<=9223372036854775807)(SA:-9223372036854775808<=n)(h3:Qh ((s.drop 1).take (e-1))=.tup [.int .i64 n,.nifc]):CA cx 149 [.p (.str s)] [] (.tup [.agg (if 0<=n/\n<=1000000/\Lib.itoa n=(s.drop 1).take (e-1)then(⟨true,[],n⟩,e+1)else(Dv,0):CD×Nat).1.cells,.int .i64 (if 0<=n/\n<=1000000/\Lib.itoa n=(s.drop 1).take (e-1)then(⟨true,[],n⟩,e+1)else(Dv,0):CD×Nat).2]) []:=by
 have hl:=tM he;(refine CK func149 ?_;simp only[go_sem,simprocAttr,HL (i:=e) omg]);(repeat'(first|(apply BY<;>intro h)|refine EA ?_|((first|refine EG ?_|(refine BU (Gg s) ?_)|(refine BU (Bj s [91] hs sm) ?_)|(refine BU (U9 ((s.drop 1).take (e-1)) (by simp;omega)) ?_)|(refine DS (N0 n SA hn) ?_));simp only[go_sem,simprocAttr,h0,he,h3,HL (i:=e) omg])|(exfalso;omega)))
 ·rw[AA omg];exact⟨rfl,rfl⟩
 ·rw[AA (fun h=>absurd h.2.2 AN)];exact⟨rfl,rfl⟩
 ·rw[AA omg];exact⟨rfl,rfl⟩
 ·rw[AB ⟨omg,omg,JK.1 AN⟩];exact⟨rfl,rfl⟩
def Jr(hs:s.length<=1000000):CA cx 149 [.p (.str s)] [] (.tup [.agg (Ce s).1.cells,.int .i64 (Ce s).2]) []:=by
 by_cases h:s.take 1=[91]/\2<=eI s/\eI s<=8
 ·obtain⟨h0,h1,h2⟩:=h;obtain⟨e,he⟩:∃e:Nat,eI s=e:=⟨(eI s).toNat,omg⟩
  have hl:=tM he;have hT:pT s=(s.drop 1).take (e-1):=by unfold pT;rw[he];rfl
  unfold Ce;rw[AB ⟨h0,h1,h2⟩,hT,he];cases ha:Lib.atoiAll ((s.drop 1).take (e-1))with
  |ok n =>
   have hb:=Lib.atoiAll_bounds ha;exact Jgb s hs e he h0 omg omg n hb.2 hb.1 (by unfold Qh;rw[ha])
  |range=>exact Q1 s hs e he h0 omg omg ⟨_,by unfold Qh;rw[ha]⟩
  |_=>exact Q1 s hs e he h0 omg omg ⟨_,by unfold Qh;rw[ha]⟩
 ·unfold Ce;rw[AA h];exact Jhg s hs h
end
variable (p:List CD)
def dp(x y:PV):Prop:=x=y\/(x=.snil/\y=.sl [])
def dq:List PV->List PV->Prop|[],[]=>True|x::xs,y::ys=>dp x y/\dq xs ys|_,_=>False
def dp.refl(x:PV):dp x x:=.inl rfl
def dp.nil:dp .snil (.sl []):=.inr ⟨rfl,rfl⟩
def dp.rep{v:Value}{x y:PV}(h:dp x y)(hr:BW w Im v x):BW w Im v y:=by
 rcases h with rfl|⟨rfl,rfl⟩
 ·exact hr
 ·cases hr;exact BW.slNil
def T7:∀{a b:List PV},dq a b->a.length=b.length/\∀(i:Nat) (y:PV),b[i]?=some y->∃x,a[i]?=some x/\dp x y
 |[],[],_=>⟨rfl,fun i l' h=>by simp at h⟩
 |x::a,y::b,h=>by
  obtain⟨h1,h2⟩:=h;obtain⟨h3,h4⟩:=T7 h2;refine⟨by simp[h3],fun i l' hl=>?_⟩;cases i with
  |zero=>simp at hl;subst hl;exact⟨x,rfl,h1⟩
  |succ i=>simp at hl;simpa using h4 i l' hl
 |[],_::_,h=>h.elim
 |_::_,[],h=>h.elim
def tN(l l':L):Prop:=l=l'\/(∃x y,l=.p x/\l'=.p y/\dp x y)\/∃a b,l=.tup a/\l'=.tup b/\dq a b
def tN.rep{β:ET}{w:World}{Im:Nat->Prop}{v:Value}{l l':L}(h:tN l l')(hr:CE β w Im v l):CE β w Im v l':=by
 rcases h with rfl|⟨x,y,rfl,rfl,h⟩|⟨a,b,rfl,rfl,h⟩
 ·exact hr
 ·exact h.rep hr
 ·obtain⟨vs,h1,h2,h3⟩:=hr;obtain⟨g1,g2⟩:=T7 h;refine⟨vs,h1,by rw[h2,g1],fun i x p hx hp=>?_⟩;obtain⟨q,hq,DO⟩:=g2 i p hp;exact DO.rep (h3 i x q hx hq)
def Al.weak{X:Cx}{f:FuncId}{args:List L}{rs:BX}{Post OW:L->BX->Prop}(h:Al X f args rs Post)(hp:∀l q,Post l q->∃l',tN l l'/\OW l' q):Al X f args rs OW:=
 ⟨h.1,fun β Im w vs hg hf=>(h.2 β Im w vs hg hf).mono fun _ _ ⟨v,l,DU,β',CX,he,hP,hr,hc⟩=>by
  obtain⟨l',h1,h2⟩:=hp _ _ hP;exact⟨v,l',DU,β',CX,he,h2,h1.rep hr,hc⟩⟩
def CA.weak{X:Cx}{f:FuncId}{args:List L}{rs DU:BX}{l':L}(h:Al X f args rs fun m q=>tN m l'/\q=DU):CA X f args rs l' DU:=
 h.weak fun l q ⟨h1,h2⟩=>⟨l',h1,rfl,h2⟩
def fo{a b:List PV}(h:dq a b):tN (.tup a) (.tup b):=.inr (.inr ⟨_,_,rfl,rfl,h⟩)
section
attribute [local irreducible] Al Bi CL
def Ee(i:Nat):CD×Nat:=
 if(Bw (s.drop i)).2≠0 then Bw (s.drop i)
 else if i=0 then(if s.take 1=[46]/\(Ce (s.drop 1)).2≠0 then((Ce (s.drop 1)).1,(Ce (s.drop 1)).2+1)else(Dv,0))
 else Ce (s.drop i)
def Fl(s:List UInt8):Nat->Nat->List CD->List CD×Nat|0,i,p=>(p,i)|f+1,i,p=>if i<s.length/\p.length<20/\(Ee s i).2≠0 then Fl s f (i+(Ee s i).2) (p++[(Ee s i).1])else(p,i)
def Mp:List CD×Nat:=Fl s (s.length+1) 0 []
def Je:List CD×Nat×Nat:=
 if s=[46]then([],0,0)
 else if(Mp s).2<s.length\/(Mp s).1.length=0 then([],(Mp s).2,1)
 else((Mp s).1,0,0)
def Þ:(Bw s).2<=s.length:=by
 unfold Bw;split
 ·rename_i h0;have h1:1<=s.length:=by cases s<;>simp at h0⊢
  have hw:=P3 (s.drop 1);have hu:=(Ý (s.drop 1)).2.2;rw[KO]at hw hu;split
  ·simp only;omega
  ·split<;>simp only<;>omega
 ·exact EK _
def Zo:(Ce s).2<=s.length:=by
 unfold Ce;split
 ·rename_i h;obtain⟨e,he⟩:∃e:Nat,eI s=e:=⟨(eI s).toNat,omg⟩
  have hl:=tM he;split
  ·split
   ·simp only;omega
   ·exact EK _
  ·exact EK _
 ·exact EK _
def xe{s:List UInt8}(h:i<=s.length):i+(Ee s i).2<=s.length:=by
 have h1:=Þ (s.drop i);have h2:=Zo (s.drop i);have h3:=Zo (s.drop 1);rw[KO]at h1 h2 h3;unfold Ee;split
 ·omega
 ·split
  ·subst i;split
   ·rename_i h0;have h1:1<=s.length:=by have:=h0.1;cases s<;>simp at this⊢
    simp only;omega
   ·simp only;omega
  ·omega
def Gv{s:List UInt8}{f:Nat}{p:List CD}(h:¬(i<s.length/\p.length<20/\(Ee s i).2≠0)):Fl s f i p=(p,i):=by
 cases f with
 |zero=>rfl
 |succ f=>rw[Fl,AA h]
def Kn(p q:List CD):Bb (p++q)=Bb p++Bb q:=by simp[Bb]
def Jjx(hs:s.length<=1000000):CA cx 99 [.p (.str s)] [] (.tup [.sl (Bb (Je s).1),.int .i64 (Je s).2.1,.int .i64 (Je s).2.2]) []:=by
 refine CA.weak ?_;by_cases hd:s=[46]
 ·subst hd;refine CB func99 ?_;exact fo ⟨.nil,.refl _,.refl _,trivial⟩
 ·have PT:(s=[46])=False:=AD hd;(refine CK func99 ?_;simp only[go_sem,simprocAttr,PT]);refine HD (dI _ (i:=5) (d:=59) 63 3 (.inl de) rfl) ?_;simp only[St.nilOwn,St.nilReg,go_sem,simprocAttr,PT];refine CL.loop (fun x:Nat×Nat×List CD=>⟨Ba 74 [(0,.p (.str s)),(5,.own 59 0 x.2.2.length),(6,.p (.int .i64 x.1))],[(59,.row 63 3 (Bb x.2.2))]⟩) (fun x=>x.1<=s.length/\s.length+1<=x.1+x.2.1/\x.2.2.length<=20/\Fl s x.2.1 x.1 x.2.2=Mp s) (fun x=>s.length-x.1) (0,s.length+1,[]) (by rw[show Bb []=[]from rfl];exact CH) ⟨EK _,by simp,by simp,rfl⟩ ?_;rintro⟨i,f,p⟩ ⟨h1,h2,h3,h4⟩;simp only at h1 h2 h3 h4;have hf:=Þ (s.drop i);have hp:=Zo (s.drop i);rw[KO]at hf hp;have wl (n:Nat) (hn:n<=3000000):IntKind.i64.wrap ((i:Int)+(n:Int))=((i+n:Nat):Int):=Aa omg omg;have bad:Fl s f i p=(p,i)->(i<s.length\/p.length=0)->Je s=([],i,1):=fun h h'=>by
   rw[h]at h4;unfold Je;rw[AA hd,<-h4,AB h']
  have ß:Fl s f i p=(p,i)->¬(i<s.length\/p.length=0)->Je s=(p,0,0):=fun h h'=>by
   rw[h]at h4;unfold Je;rw[AA hd,<-h4,AA h']
  have DR:(Bb p).take p.length=Bb p:=DK sm;by_cases hc:¬(i<s.length/\p.length<20)
  ·have GQ:Fl s f i p=(p,i):=Gv fun h=>hc ⟨h.1,h.2.1⟩
   (refine CC ?_;simp only[go_sem,simprocAttr,Aq,DR,CS]);(repeat'(first|(apply BY<;>intro h)|refine EA ?_|(exfalso;omega)))
   ·rw[bad GQ omg];exact fo ⟨.nil,.refl _,.refl _,trivial⟩
   ·rw[bad GQ omg];exact fo ⟨.nil,.refl _,.refl _,trivial⟩
   ·rw[ß GQ omg];exact .inl rfl
  ·have hc:=JK.1 hc;have TM:(s.drop i).length<=1000000:=by rw[KO];omega
   obtain⟨g,rfl⟩:∃g,f=g+1:=⟨f-1,omg⟩
   by_cases TC:(Bw (s.drop i)).2≠0
   ·have hn:Ee s i=Bw (s.drop i):=by unfold Ee;rw[AB TC]
    have EF:Bb p++[(Bw (s.drop i)).1.cells]=Bb (p++[(Bw (s.drop i)).1]):=by rw[Kn];rfl
    rw[Fl,hn,AB ⟨hc.1,hc.2,TC⟩]at h4;have hw:=wl (Bw (s.drop i)).2 omg;have LY:Bb p++[[.bool (Bw (s.drop i)).1.part,.str (Bw (s.drop i)).1.name,.int .i64 (Bw (s.drop i)).1.n]]=Bb (p++[(Bw (s.drop i)).1]):=EF;(refine CC ?_;simp only[go_sem,simprocAttr,Aq,DR,CS,Aq,DR,CS]);(repeat'(first|(apply BY<;>intro h)|refine EA ?_|((refine BU (Ev (s.drop i) TM) ?_);simp only[go_sem,simprocAttr,Aq,DR,CS,Aq,DR,CS,CD.cells,LY,hw])|(exfalso;omega)));refine⟨by simp,omg,omg,(i+(Bw (s.drop i)).2,g,p++[(Bw (s.drop i)).1]),⟨by simp only;omega,by simp only;omega,by simp only[DC,WD];omega,h4⟩,by simp only;omega,?_⟩;simp only[DC,WD];exact CH
   ·have ZV:(Bw (s.drop i)).2=0:=omg;have xf:IntKind.i64.wrap 1=1:=de;rw[Fl]at h4;by_cases hi:i=0
    ·have dF:(i:Int)=0:=omg;have e0:s.drop i=s:=by rw[hi];rfl
     rw[e0]at ZV;by_cases LB:s.take 1=[46]
     ·have nq:(s.drop 1).length<=1000000:=by rw[KO];omega
      have Q8:=Zo (s.drop 1);have XV:1<=s.length:=by cases s<;>simp at LB⊢
      rw[KO]at Q8;by_cases lW:(Ce (s.drop 1)).2=0
      ·have hn:(Ee s i).2=0:=by unfold Ee;rw[AA TC,AB hi,AA (fun h=>h.2 lW)]
       have GQ:Fl s (g+1) i p=(p,i):=Gv fun h=>h.2.2 hn
       have LY:=dF;have hw:=lW;(refine CC ?_;simp only[go_sem,simprocAttr,Aq,DR,CS,Aq,DR,CS,LY,Aq,DR,CS,LY]);(repeat'(first|(apply BY<;>intro h)|refine EA ?_|((first|(refine BU (Ev s hs) ?_)|(refine BU (Bj s [46] hs sm) ?_)|(refine BU (Jr (s.drop 1) nq) ?_));simp only[go_sem,simprocAttr,Aq,DR,CS,Aq,DR,CS,CD.cells,hw,Aq,DR,CS,CD.cells,hw,ZV,LB,xf])|(exfalso;omega)));rw[bad GQ omg,hi];exact fo ⟨.nil,.refl _,.refl _,trivial⟩
      ·have hn:Ee s i=((Ce (s.drop 1)).1,(Ce (s.drop 1)).2+1):=by unfold Ee;rw[AA TC,AB hi,AB ⟨LB,lW⟩]
       rw[hn,AB ⟨hc.1,hc.2,Nat.succ_ne_zero _⟩]at h4;have GQ:IntKind.i64.wrap (((Ce (s.drop 1)).2:Int)+1)=(((Ce (s.drop 1)).2+1:Nat):Int):=HL omg;have LY:Bb p++[[.bool (Ce (s.drop 1)).1.part,.str (Ce (s.drop 1)).1.name,.int .i64 (Ce (s.drop 1)).1.n]]=Bb (p++[(Ce (s.drop 1)).1]):=by rw[Kn];rfl
       have hw:=dF;(refine CC ?_;simp only[go_sem,simprocAttr,Aq,DR,CS,Aq,DR,CS,hw,Aq,DR,CS,hw]);(repeat'(first|(apply BY<;>intro h)|refine EA ?_|((first|(refine BU (Ev s hs) ?_)|(refine BU (Bj s [46] hs sm) ?_)|(refine BU (Jr (s.drop 1) nq) ?_));simp only[go_sem,simprocAttr,Aq,DR,CS,Aq,DR,CS,CD.cells,LY,Aq,DR,CS,CD.cells,LY,ZV,LB,xf,GQ])|(exfalso;omega)));refine⟨by simp,omg,omg,(i+((Ce (s.drop 1)).2+1),g,p++[(Ce (s.drop 1)).1]),⟨by simp only;omega,by simp only;omega,by simp only[DC,WD];omega,h4⟩,by simp only;omega,?_⟩;simp only[DC,WD];rw[hi];generalize Ce (s.drop 1)=P at *
       exact CH
     ·have hn:(Ee s i).2=0:=by unfold Ee;rw[AA TC,AB hi,AA (fun h=>LB h.1)]
      have GQ:Fl s (g+1) i p=(p,i):=Gv fun h=>h.2.2 hn
      have LY:=dF;have hw:=LB;(refine CC ?_;simp only[go_sem,simprocAttr,Aq,DR,CS,Aq,DR,CS,LY,Aq,DR,CS,LY]);(repeat'(first|(apply BY<;>intro h)|((first|(refine BU (Ev s hs) ?_)|(refine BU (Bj s [46] hs sm) ?_));simp only[go_sem,simprocAttr,Aq,DR,CS,Aq,DR,CS,CD.cells,hw,Aq,DR,CS,CD.cells,hw,ZV])|(exfalso;omega)));rw[bad GQ omg,hi];exact fo ⟨.nil,.refl _,.refl _,trivial⟩
    ·by_cases lW:(Ce (s.drop i)).2=0
     ·have hn:(Ee s i).2=0:=by unfold Ee;rw[AA TC,AA hi,lW]
      have GQ:Fl s (g+1) i p=(p,i):=Gv fun h=>h.2.2 hn
      have LY:=lW;have hw:IntKind.i64.wrap ((i:Int)+0)=(i:Int):=by rw[Int.add_zero];exact Aa omg omg
      have LB:=hi;(refine CC ?_;simp only[go_sem,simprocAttr,Aq,DR,CS,Aq,DR,CS,Aq,DR,CS]);(repeat'(first|(apply BY<;>intro h)|refine EA ?_|((first|(refine BU (Ev (s.drop i) TM) ?_)|(refine BU (Jr (s.drop i) TM) ?_));simp only[go_sem,simprocAttr,Aq,DR,CS,Aq,DR,CS,CD.cells,LY,hw,Aq,DR,CS,CD.cells,LY,hw,ZV])|(exfalso;omega)));rw[bad GQ omg];exact fo ⟨.nil,.refl _,.refl _,trivial⟩
     ·have hn:Ee s i=Ce (s.drop i):=by unfold Ee;rw[AA TC,AA hi]
      have LY:Bb p++[[.bool (Ce (s.drop i)).1.part,.str (Ce (s.drop i)).1.name,.int .i64 (Ce (s.drop i)).1.n]]=Bb (p++[(Ce (s.drop i)).1]):=by rw[Kn];rfl
      rw[hn,AB ⟨hc.1,hc.2,lW⟩]at h4;have hw:IntKind.i64.wrap ((i:Int)+0)=(i:Int):=by rw[Int.add_zero];exact Aa omg omg
      have LB:=hi;have GQ:=wl (Ce (s.drop i)).2 omg;have xf:IntKind.i64.wrap (((Ce (s.drop i)).2:Int)+0)=((Ce (s.drop i)).2:Int):=by rw[Int.add_zero];exact Aa omg omg
      (refine CC ?_;simp only[go_sem,simprocAttr,Aq,DR,CS,Aq,DR,CS,Aq,DR,CS]);(repeat'(first|(apply BY<;>intro h)|refine EA ?_|((first|(refine BU (Ev (s.drop i) TM) ?_)|(refine BU (Jr (s.drop i) TM) ?_));simp only[go_sem,simprocAttr,Aq,DR,CS,Aq,DR,CS,CD.cells,LY,hw,Aq,DR,CS,CD.cells,LY,hw,ZV,xf,GQ])|(exfalso;omega)));refine⟨by simp,omg,omg,(i+((Ce (s.drop i)).2),g,p++[(Ce (s.drop i)).1]),⟨by simp only;omega,by simp only;omega,by simp only[DC,WD];omega,h4⟩,by simp only;omega,?_⟩;simp only[DC,WD];exact CH
def Bv(x:CD):List UInt8:=if x.part=true then 91::(Lib.itoa x.n++[93])else if JW x.name then 46::x.name else 46::LV x.name
def Br:List UInt8:=p.flatMap Bv
def Hy:List UInt8:=match p with
 |[]=>[46]
 |x::_=>if x.part=true then 46::Br p else Br p
def n7(k:Nat):UInt8:=UInt8.ofNat (48+k%10)
def lX:List UInt8:=if m<10 then []else Lib.decDigits (m/10)
def Jzh:Lib.decDigits m=lX m++[n7 m]:=by
 rw[Lib.decDigits];unfold lX n7;split
 ·rw[Nat.mod_eq_of_lt omg];rfl
 ·rfl
def Kcd(n:Nat)(hn:n<=1500000000000):CA cx 58 [.p (.int .i64 n)] [] (.p (.str (Lib.decDigits n))) []:=by
 have tO (k:Nat):(k:Int).tmod 10=((k%10:Nat):Int):=rfl;have à (k:Nat):(k:Int).tdiv 10=((k/10:Nat):Int):=rfl;have hw (k:Nat):IntKind.i64.wrap (48+((k%10:Nat):Int))=((48+k%10:Nat):Int):=by rw[Aa omg omg];omega
 have hu (k:Nat):GN ((48+k%10:Nat):Int)=n7 k:=by
  apply UInt8.toNat_inj.1;have h1:=B8 (c:=((48+k%10:Nat):Int)) omg omg;unfold n7;rw[UInt8.toNat_ofNat'];omega
 have á (k:Nat) (hk:k<=1500000000000):IntKind.i64.wrap ((k/10:Nat):Int)=((k/10:Nat):Int):=Aa omg omg;(refine CK func58 ?_;simp only[go_sem,simprocAttr,tO,hw,hu]);refine CL.loop (fun x:Nat×List UInt8=>⟨Ba 23 [(0,.p (.int .i64 x.1)),(3,.p (.str x.2))],[]⟩) (fun x=>x.1<=n/\x.2.length+x.1<=n+1/\lX x.1++x.2=Lib.decDigits n) (fun x=>x.1) (n,[n7 n]) CH ⟨CS _,by simp only[WD];omega,(Jzh n).symm⟩ ?_;rintro⟨m,t⟩ ⟨h1,h2,h3⟩;simp only at h1 h2 h3;have hwm:=á m omg;(refine CC ?_;simp only[go_sem,simprocAttr,tO,à,hw,hu,hwm]);(repeat'(first|(apply BY<;>intro h)|refine EA ?_|fail))
 ·have hd:=Jzh (m/10);have hm:lX m=Lib.decDigits (m/10):=by unfold lX;rw[AA omg]
  rw[hm,hd]at h3;refine⟨(m/10,n7 (m/10)::t),⟨by simp only;omega,by simp only[DH];omega,?_⟩,by simp only;omega,CH⟩;simp only;rw[<-h3,KJ];rfl
 ·have hm:lX m=[]:=by unfold lX;rw[AB omg]
  rw[hm]at h3;exact h3
def textR:List UInt8:=match p with
 |[]=>[]
 |x::_=>if x.part=true then 46::Br p else Br p
def GV:Prop:=48<=c/\c<=57
instance (c:Nat):Decidable (GV c):=inferInstanceAs (Decidable (_/\_))
def HA:Nat->List UInt8->List UInt8|k+1,c::r=>if GV c.toNat then c::HA k r else []|_,_=>[]
def HT:Nat:=l.foldl (fun a c=>a*10+(c.toNat-48)) 0
def tP:Nat->Nat|0=>1|k+1=>10*tP k
def Kem:∀k,k<8->tP k<=10000000:=de
def Zl(c:UInt8):HT (l++[c])=HT l*10+(c.toNat-48):=by simp[HT]
def Kba:∀(n:Nat) (l:List UInt8),l.length=n->(∀c∈l,GV c.toNat)->HT l<tP n
 |0,l,h,_=>by rw[KH h];decide
 |n+1,l,h,hd=>by
  have DA:l≠[]:=fun e=>by subst e;simp at h
  rw[<-nG DA,Zl];have h1:=Kba n l.dropLast (by rw[List.length_dropLast];omega) (fun c hc=>hd c (List.dropLast_subset _ hc));have h2:=hd _ (List.getLast_mem DA);unfold GV at h2;rw[tP];omega
def â:∀(k:Nat) (l:List UInt8),∀c∈HA k l,GV c.toNat
 |0,l=>by simp[HA]
 |k+1,[]=>by simp[HA]
 |k+1,c::r=>by
  intro d hd;rw[HA]at hd;split at hd
  ·rcases DN.1 hd with rfl|hd
   ·assumption
   ·exact â k r d hd
  ·cases hd
def xg:∀(k:Nat) (l:List UInt8),(HA k l).length<=k/\(HA k l).length<=l.length
 |0,l=>by simp[HA]
 |k+1,[]=>by simp[HA]
 |k+1,c::r=>by
  rw[HA];split
  ·have:=xg k r;simp;omega
  ·simp
def ã:∀(k:Nat) (l:List UInt8),HA k l=l.take (HA k l).length
 |0,l=>by simp[HA]
 |k+1,[]=>by simp[HA]
 |k+1,c::r=>by
  rw[HA];split
  ·rw[DH,XQ,<-ã k r]
  ·simp
def GD(i:Nat):Int×Nat:=
 if(HA 7 (s.drop i)).length=0\/(BS s i=48/\1<(HA 7 (s.drop i)).length)\/1000000<HT (HA 7 (s.drop i))then(-1,i)
 else(HT (HA 7 (s.drop i)),i+(HA 7 (s.drop i)).length)
def Kfl{s:List UInt8}{k:Nat}(hi:i<s.length)(hd:GV (BS s i))(hk:0<k):HA k (s.drop i)=s[i]::HA (k-1) (s.drop (i+1)):=by
 rw[Mx hi];obtain⟨j,rfl⟩:∃j,k=j+1:=⟨k-1,omg⟩
 rw[HA,AB (by rw[cG (C' hi)]at hd;exact hd)];rfl
def Kfi{s:List UInt8}{k:Nat}(h:¬(i<s.length/\GV (BS s i)/\0<k)):HA k (s.drop i)=[]:=by
 by_cases hi:i<s.length
 ·rw[Mx hi];cases k with
  |zero=>rfl
  |succ j=>rw[HA,AA (fun hd=>h ⟨hi,by rw[cG (C' hi)];exact hd,omg⟩)]
 ·rw[JD omg];cases k<;>rfl
def J4v(i:Nat)(hs:s.length<=1000000)(hi:i<=s.length):CA cx 221 [.p (.str s),.p (.int .i64 i)] [] (.tup [.int .i64 (GD s i).1,.int .i64 (GD s i).2]) []:=by
 (refine CB func221 ?_);refine CL.loop (fun x:Nat×List UInt8=>⟨Ba 63 [(0,.p (.str s)),(1,.p (.int .i64 (i+x.1:Nat))),(6,.p (.int .i64 (HT x.2))),(7,.p (.int .i64 i))],[]⟩) (fun x=>x.1<=7/\i+x.1<=s.length/\x.2.length=x.1/\(∀c∈x.2,GV c.toNat)/\x.2++HA (7-x.1) (s.drop (i+x.1))=HA 7 (s.drop i)) (fun x=>7-x.1) (0,[]) (by rw[show HT []=0 from rfl];exact CH) ⟨by simp,by simp only;omega,rfl,by simp,by simp⟩ ?_;rintro⟨k,l⟩ ⟨h1,h2,h3,h4,h5⟩;simp only at h1 h2 h3 h4 h5;have hv:=Kba k l h3 h4;have hp:=Kem k omg;have hw:IntKind.i64.wrap (((i+k:Nat):Int)-(i:Int))=(k:Int):=by rw[Aa omg omg];omega
 have fp:¬(i+k<s.length/\GV (BS s (i+k))/\0<7-k)->HA 7 (s.drop i)=l:=fun h=>by
  rw[Kfi h,ID]at h5;exact h5.symm
 (refine CC ?_;simp only[go_sem,simprocAttr,hw,HL (i:=i) omg]);(repeat'(first|(apply BY<;>intro h)|refine EA ?_|(exfalso;omega)))
 all_goals first
  |(exfalso;omega)
  |(
   have e:=fp (by unfold GV;omega);unfold GD;rw[e,AB omg];exact⟨rfl,rfl⟩)
  |(
   have e:=fp (by unfold GV;omega);unfold GD;rw[e,AA omg,h3];exact⟨rfl,rfl⟩)
  |skip
 have BZ:i+k<s.length:=omg;have hd:GV (BS s (i+k)):=by unfold GV;omega
 have QX:BS s (i+k)=(s[i+k]).toNat:=cG (C' BZ);rw[Kfl BZ hd omg]at h5;have Q8:=Kem (k+1) omg;rw[tP]at Q8;have aj:IntKind.i64.wrap (IntKind.i64.wrap ((HT l:Int)*10)+IntKind.i64.wrap (IntKind.u8.wrap ((BS s (i+k):Int)-48)))=((HT (l++[s[i+k]]):Nat):Int):=by
  rw[Zl,<-QX];unfold GV at hd;simp(disch:=omega)only [Aa,Ab];omega
 rw[aj];refine⟨(k+1,l++[s[i+k]]),⟨by simp only;omega,by simp only;omega,by simp only[DC,WD];omega,?_,?_⟩,by simp only;omega,?_⟩
 ·intro c hc;rcases H'.1 hc with hc|hc
  ·exact h4 c hc
  ·rw[KI]at hc;subst hc;rw[<-QX];exact hd
 ·simp only;rw[<-h5,KJ,List.singleton_append];rfl
 ·exact CH
end
end Go.LX
