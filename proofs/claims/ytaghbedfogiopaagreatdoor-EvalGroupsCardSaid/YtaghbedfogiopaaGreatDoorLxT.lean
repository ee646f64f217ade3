/- Values, the document's answer: objects. -/
import Derived.Test.YtaghbedfogiopaaGreatDoorLxS
set_option linter.unusedSimpArgs false
set_option linter.unusedVariables false
set_option linter.unusedSectionVars false
set_option linter.unnecessarySimpa false
set_option maxRecDepth 100000
set_option maxHeartbeats 2000000
namespace Go.LX
open Go Go.RowKit Go.Proofs
attribute [local irreducible] Al SWP Bi
open Classical in
noncomputable def M3 (l:List KT):Bool:=decide ((∀ p∈l,valid p.1=true)/\(l.map (·.1)).Nodup)
noncomputable def objR (l:List KT):L:=if M3 l=true then .tup [.sl (valL ((Tree.mk 6 [] false 0 (A1 (Lp l))).enc [])),.int .i64 0] else .tup [.snil,.int .i64 4]
def J7 (D:List Bool):List (List PV):=D.map fun b=>[.bool b]
theorem Hm {a b:List KT} (h:a.Perm b):(A1 a).enc.length=(A1 b).enc.length:=by
 induction h with
 | nil=>rfl
 | cons x _ ih=>simp only [A1,A0,Eac,ih]
 | swap x y l=>simp only [A1,A0,Eac];omega
 | trans _ _ h1 h2=>exact h1.trans h2
theorem Zc (l:List KT) (hv:(A1 l).enc.length<=1350000000000) (hs:∀ p∈l,p.1.length<=1000000):Det cx 34 [.p (.sl (Bd l)),.p (.sl (A4 l))] [] (objR l) []:=by
 have hll:=Jqi (A1 l);rw [Ca] at hll;have rep:List.replicate l.length [PV.bool false]=J7 (List.replicate l.length false):=by simp [J7]
 have cz:((0:Int)<=(l.length:Int))=True:=eq_true omg;(refine bgo Tryz.func34 ?_;simp only [go_sem,simprocAttr,A9,A5,rep,cz]);(repeat' (first|refine Jqj ?_|fail));refine Jqg (B1 [(16,86),(17,93)] _ sm) ?_;simp only [go_sem,simprocAttr];refine SWP.loop (fun x:List KT×List Bool=>⟨Ba 97 [(0,.p (.sl (Bd l))),(1,.p (.sl (A4 l))),(6,.own 86 0 x.1.length),(7,.own 93 0 x.1.length),(8,.own 20 0 l.length)],[(20,.row 4 1 (J7 x.2)),(93,.row 25 1 (A4 x.1)),(86,.row 9 1 (Bd x.1))]⟩) (fun x=>Picks l x.1 x.2/\(∀ p∈x.1,valid p.1=true)/\x.1.length<=l.length) (fun x=>l.length - x.1.length) ([],List.replicate l.length false) Jqc ⟨J6n l,by simp,Eav _⟩ ?_;rintro ⟨S,D⟩ ⟨hP,hV,hS⟩;simp only at hP hV hS;have hDl:=hP.len;by_cases hlt:¬ S.length<l.length
 ·have c1:((S.length:Int)<(l.length:Int))=False:=eq_false omg;have hSl:S.length=l.length:=by omega
  have hPm:=hP.done hSl;have hOK:M3 l=true:=by
   unfold M3;rw [decide_eq_true_eq];exact ⟨fun p hp=>hV p (hPm.mem_iff.2 hp),(hPm.map (·.1)).nodup_iff.1 hP.rise.nodup⟩
  have hso:Lp l=S:=Jy (Jj ((hPm.map (·.1)).nodup_iff.1 hP.rise.nodup)) hP.rise ((E3 l).trans hPm.symm);have tn:(Bd S).take S.length=Bd S:=Ead (by rw [A9];omega);have tp:(A4 S).take S.length=A4 S:=Ead (by rw [A5];omega);have ln:(S.length<=S.length)=True:=eq_true (Eai _);have lp:=ln;(refine lws ?_;simp only [go_sem,simprocAttr,A9,A5,c1,tn,tp,ln]);(repeat' (first|((refine Jqa (Iy S (by rw [Hm hPm];omega)) ?_);simp only [go_sem,simprocAttr])|fail));unfold objR;rw [if_pos hOK,hso]
 ·have hlt:=Ea1.1 hlt;have c1:((S.length:Int)<(l.length:Int))=True:=eq_true omg;have tn:=c1;have tp:=c1;have ln:=c1;have lp:=c1;(refine lws ?_;simp only [go_sem,simprocAttr,A9,c1]);refine SWP.loop (fun x:Nat×Int=>⟨Ba 97 [(0,.p (.sl (Bd l))),(1,.p (.sl (A4 l))),(6,.own 86 0 S.length),(7,.own 93 0 S.length),(8,.own 20 0 l.length),(9,.p (.int .i64 x.2)),(10,.p (.int .i64 x.1))],[(20,.row 4 1 (J7 D)),(93,.row 25 1 (A4 S)),(86,.row 9 1 (Bd S))]⟩) (fun x=>x.1<=l.length/\((x.2 = -1/\∀ j,j<x.1->D[j]? = some true)\/∃ b:Nat,x.2=b/\b<x.1/\D[b]? = some false/\∃ p,l[b]? = some p/\∀ (j:Nat) (q:KT),j<x.1->l[j]? = some q->D[j]? = some false->nle p.1 q.1)) (fun x=>l.length - x.1) (0,-1) Jqc ⟨Eav _,.inl ⟨rfl,fun j h=>by omega⟩⟩ ?_;rintro ⟨i,z⟩ ⟨hi,hz⟩;simp only at hi hz;by_cases hin:¬ i<l.length
  ·have c2:((i:Int)<(l.length:Int))=False:=eq_false omg;obtain rfl:i=l.length:=by omega
   rcases hz with ⟨_,hz⟩ | ⟨b,rfl,hb,hDb,p,hp,hm'⟩
   ·have:=Y8 (D:=D) (fun j hj=>hz j omg);have:=hP.cnt;omega
   ·have hgn:(Bd l)[b]? = some [.str p.1]:=by simp [Bd,hp]
    have hgp:(A4 l)[b]? = some [.sl (valL (p.2.enc []))]:=by simp [A4,hp]
    have hgD:(J7 D)[b]? = some [.bool false]:=by simp [J7,hDb]
    have hmm:∀ (j:Nat) (q:KT),l[j]? = some q->D[j]? = some false->nle p.1 q.1:=fun j q h1 h2=>hm' j q (Eab.1 h1).1 h1 h2
    have hpm:=Eae hp;have hbs:(J7 D).set b [.bool true]=J7 (D.set b true):=by simp [J7,Edj]
    have hpn:∀ (S:List KT),Bd S ++ [[.str p.1]]=Bd (S ++ [p]):=fun S=>by simp [Bd]
    have hpp:∀ (S:List KT),A4 S ++ [[.sl (valL (p.2.enc []))]]=A4 (S ++ [p]):=fun S=>by simp [A4]
    have w1:IntKind.i64.wrap ((S.length:Int) - 1)=(S.length:Int) - 1:=Aa omg omg;cases hvp:valid p.1 with
    | false =>
     have hOK:M3 l=false:=by
      unfold M3;rw [decide_eq_false_iff_not];rintro ⟨h,_⟩;rw [h p hpm] at hvp;cases hvp
     have hgl:=c2;have hgl2:=c2;have c8:=c2;have hbq:=c2;(refine lws ?_;simp only [go_sem,simprocAttr,A9,c2]);refine Ah hm (by rfl) kr ?_;simp only [go_sem,simprocAttr,hgn];refine Jqb (Cn p.1 (hs p hpm)) ?_;simp only [go_sem,simprocAttr,hvp];unfold objR;rw [hOK];simp
    | true =>
     cases hg:S.getLast? with
     | none =>
      have hS0:S=[]:=List.getLast?_eq_none_iff.1 hg;subst hS0;have hgl:=c2;have hgl2:=c2;have c8:((0:Int)<((0:Nat):Int))=False:=by simp
      have hbq:=c2;have hN:=hP.next hp hDb hmm (fun q hq=>by simp at hq);(refine lws ?_;simp only [go_sem,simprocAttr,A9,c2]);refine Ah hm (by rfl) kr ?_;simp only [go_sem,simprocAttr,hgn];refine Jqb (Cn p.1 (hs p hpm)) ?_;simp only [go_sem,simprocAttr,A9,A5,hgn,hgp,hgD,hbs,hpn,hpp,hvp];(repeat' (first|(refine And.intro (by first | omega | (simp;done)|(simp;omega)) ?_)|fail));exact ⟨([p],D.set b true),⟨hN,by simp [hvp],by simp;omega⟩,by simp;omega,Jqc⟩
     | some q =>
      have hgl:(Bd S)[S.length - 1]? = some [.str q.1]:=by
       rw [List.getLast?_eq_getElem?] at hg;simp [Bd,hg]
      have hgl2:((S.length:Int) - 1).toNat=S.length - 1:=by omega
      have hSp:0<S.length:=by cases S with
       | nil=>simp at hg
       | cons a S=>simp
      have c8:((0:Int)<(S.length:Int))=True:=eq_true omg;by_cases hqp:q.1=p.1
      ·have hbq:(q.1 == p.1)=true:=by rw [hqp];simp
       have hOK:M3 l=false:=by
        unfold M3;rw [decide_eq_false_iff_not];exact fun h=>hP.twice hp hDb hg hqp h.2
       (refine lws ?_;simp only [go_sem,simprocAttr,A9,c2]);refine Ah hm (by rfl) kr ?_;simp only [go_sem,simprocAttr,hgn];refine Jqb (Cn p.1 (hs p hpm)) ?_;simp only [go_sem,simprocAttr,hgn,w1,hgl,hgl2,hvp,c8,hbq];(repeat' (first|(refine And.intro (by first | omega | (simp;done)|(simp;omega)) ?_)|fail));unfold objR;rw [hOK];simp
      ·have hbq:(q.1 == p.1)=false:=by simpa using hqp
       have hN:=hP.next hp hDb hmm (fun q' hq=>by rw [hg] at hq;cases hq;exact hqp);(refine lws ?_;simp only [go_sem,simprocAttr,A9,c2]);refine Ah hm (by rfl) kr ?_;simp only [go_sem,simprocAttr,hgn];refine Jqb (Cn p.1 (hs p hpm)) ?_;simp only [go_sem,simprocAttr,A9,A5,hgn,hgp,hgD,hbs,hpn,hpp,w1,hgl,hgl2,hvp,c8,hbq];(repeat' (first|(refine And.intro (by first | omega | (simp;done)|(simp;omega)) ?_)|fail));refine ⟨(S ++ [p],D.set b true),⟨hN,fun x hx=>?_,by simp;omega⟩,by simp;omega,Jqc⟩;rcases Eau.1 hx with hx | hx
       ·exact hV x hx
       ·rw [Eay] at hx;subst hx;exact hvp
  ·have hin:=Ea1.1 hin;have c2:((i:Int)<(l.length:Int))=True:=eq_true omg;obtain ⟨q,hq⟩:∃ q,l[i]? = some q:=⟨_,Eaa hin⟩
   obtain ⟨f,hf⟩:∃ f,D[i]? = some f:=⟨_,Eaa omg⟩
   have hgn:(Bd l)[i]? = some [.str q.1]:=by simp [Bd,hq]
   have hgD:(J7 D)[i]? = some [.bool f]:=by simp [J7,hf]
   have w1:IntKind.i64.wrap ((i:Int)+((1:Nat):Int))=((i+1:Nat):Int):=by rw [Aa omg omg];omega
   have w1':IntKind.i64.wrap ((i:Int)+1)=((i+1:Nat):Int):=by rw [Aa omg omg];omega
   have hgp:=w1;have hbs:=w1;have hpn:=w1;have hpp:=w1;have hgl2:=w1';have hvp:=w1;cases f with
   | true =>
    have hgl:=w1;have c8:=w1;have hbq:=w1;(refine lws ?_;simp only [go_sem,simprocAttr,A9,c2]);refine Ah hm (by rfl) kr ?_;simp only [go_sem,simprocAttr,c2,hgD,hgl2];refine ⟨(i+1,z),⟨by simp only;omega,?_⟩,by simp only;omega,Jqc⟩;simp only;rcases hz with ⟨h1,h2⟩ | ⟨b,h1,h2,h3,p,h4,h5⟩
    ·refine .inl ⟨h1,fun j hj=>?_⟩;by_cases hji:j=i
     ·subst hji;exact hf
     ·exact h2 j omg
    ·refine .inr ⟨b,h1,by omega,h3,p,h4,fun j r hj hr hd=>?_⟩;by_cases hji:j=i
     ·subst hji;rw [hf] at hd;cases hd
     ·exact h5 j r omg hr hd
   | false =>
    rcases hz with ⟨rfl,h2⟩ | ⟨b,rfl,h2,h3,p,h4,h5⟩
    ·have hgl:=w1;have c8:((-1:Int)<0)=True:=by simp
     have hbq:=w1;(refine lws ?_;simp only [go_sem,simprocAttr,A9,c2]);refine Ah hm (by rfl) kr ?_;simp only [go_sem,simprocAttr,c2,hgD,hgl2,c8];refine ⟨(i+1,i),⟨by simp only;omega,.inr ⟨i,rfl,by simp only;omega,hf,q,hq,fun j r hj hr hd=>?_⟩⟩,by simp only;omega,Jqc⟩;simp only at hj;by_cases hji:j=i
     ·subst hji;rw [hq] at hr;cases hr;exact E0 _
     ·rw [h2 j omg] at hd;cases hd
    ·have hgl:(Bd l)[b]? = some [.str p.1]:=by simp [Bd,h4]
     have c8:((b:Int)<0)=False:=eq_false omg;cases hlt2:Op.bytesLess q.1 p.1 with
     | true =>
      have hbq:=hlt2;(refine lws ?_;simp only [go_sem,simprocAttr,A9,c2]);refine Ah hm (by rfl) kr ?_;simp only [go_sem,simprocAttr,c2,hgn,hgD,hgl,hgl2,c8,hbq];refine ⟨(i+1,i),⟨by simp only;omega,.inr ⟨i,rfl,by simp only;omega,hf,q,hq,fun j r hj hr hd=>?_⟩⟩,by simp only;omega,Jqc⟩;simp only at hj;by_cases hji:j=i
      ·subst hji;rw [hq] at hr;cases hr;exact E0 _
      ·exact Jg7 (L3 hlt2) (h5 j r omg hr hd)
     | false =>
      have hbq:=hlt2;(refine lws ?_;simp only [go_sem,simprocAttr,A9,c2]);refine Ah hm (by rfl) kr ?_;simp only [go_sem,simprocAttr,c2,hgn,hgD,hgl,hgl2,c8,hbq];refine ⟨(i+1,b),⟨by simp only;omega,.inr ⟨b,rfl,by simp only;omega,h3,p,h4,fun j r hj hr hd=>?_⟩⟩,by simp only;omega,Jqc⟩;simp only at hj;by_cases hji:j=i
      ·subst hji;rw [hq] at hr;cases hr;exact hlt2
      ·exact h5 j r omg hr hd
end Go.LX
namespace Go.LX
open Go
def Ja8 (c:UInt8):Bool:=decide (48<=c.toNat) && decide (c.toNat<=57)
def Pk (s:List UInt8):Bool:=s.all Ja8
def Yz (s:List UInt8) (g:Bool) (e:Int):Prop :=
 Pk s=true/\s.length<=100/\-1000<=e/\e<=1000/\(s.length:Int)+e<=1000/\(if s=[] then g=false/\e=0 else at_ s 0≠48/\at_ s (s.length - 1)≠48)
instance (s:List UInt8) (g:Bool) (e:Int):Decidable (Yz s g e):=by unfold Yz;infer_instance
def G3 (k:Int) (s:List UInt8) (g:Bool) (e:Int) (m:Int):Prop :=
 if k=0\/k=1\/k=2 then m=0/\s=[]/\g=false/\e=0 else if k=3 then m=0/\Yz s g e else if k=4 then valid s=true/\m=0/\g=false/\e=0 else if k=5\/k=6 then 0<=m/\s=[]/\g=false/\e=0 else False
instance (k:Int) (s:List UInt8) (g:Bool) (e m:Int):Decidable (G3 k s g e m):=by unfold G3;infer_instance
def Eh (k:Int) (l:List KT):Prop:=(k=5->∀ p∈l,p.1=[])/\(∀ p∈l,valid p.1=true)/\(k=6->Rise l)
mutual
def okT:Tree->Prop
 | .mk k s g e kids=>G3 k s g e kids.len/\Eh k kids.list/\okF kids
def okF:Forest->Prop
 | .nil=>True
 | .cons _ t r=>okT t/\okF r
end
theorem Lu {k:Int} {s:List UInt8} {g:Bool} {e:Int} {kids:Forest}:okT (.mk k s g e kids) ↔ G3 k s g e kids.len/\Eh k kids.list/\okF kids:=by rw [okT]
theorem Fs {nm:List UInt8} {t:Tree} {r:Forest}:okF (.cons nm t r) ↔ okT t/\okF r:=by rw [okF]
theorem I6:okF .nil:=by rw [okF];trivial
theorem Jdq:∀ {a b:Forest},okF (a.app b) ↔ okF a/\okF b
 | .nil,b=>by simp [Forest.app,I6]
 | .cons nm t r,b=>by rw [Forest.app,Fs,Fs,Jdq (a:=r)];exact and_assoc.symm
theorem Jjp {nm:List UInt8} {k:Int} {s:List UInt8} {g:Bool} {e:Int} {kids r:Forest}:okF (.cons nm (.mk k s g e kids) r) ↔ G3 k s g e kids.len/\Eh k kids.list/\okF (kids.app r):=by
 rw [Fs,Lu,Jdq];constructor
 ·rintro ⟨⟨h1,h2,h3⟩,h4⟩;exact ⟨h1,h2,h3,h4⟩
 ·rintro ⟨h1,h2,h3,h4⟩;exact ⟨⟨h1,h2,h3⟩,h4⟩
theorem Jdo:∀ {f:Forest},okF f ↔ ∀ p∈f.list,okT p.2
 | .nil=>by simp [Forest.list,I6]
 | .cons nm t r=>by rw [Fs,Jdo (f:=r),Forest.list,List.forall_mem_cons]
theorem Sb (k:Int):Eh k []:=⟨by simp,by simp,fun _=>.nil⟩
theorem Jaa {k:Int} {p:KT} {l:List KT}:Eh k (p :: l) ↔ (k=5->p.1=[])/\valid p.1=true/\(k=6->∀ q,l.head? = some q->Op.bytesLess p.1 q.1=true)/\Eh k l:=by
 unfold Eh;constructor
 ·rintro ⟨h1,h2,h3⟩;refine ⟨fun hk=>h1 hk p Eaf,h2 p Eaf,fun hk q hq=>?_,fun hk q hq=>h1 hk q (Eag _ hq),fun q hq=>h2 q (Eag _ hq),fun hk=>(h3 hk).tail⟩;exact (Eba.1 (h3 hk)).1 q (List.mem_of_head? hq)
 ·rintro ⟨h1,h2,h3,h4,h5,h6⟩;refine ⟨fun hk q hq=>?_,fun q hq=>?_,fun hk=>Eba.2 ⟨fun q hq=>?_,h6 hk⟩⟩
  ·rcases Eaj.1 hq with rfl | hq
   ·exact h1 hk
   ·exact h4 hk q hq
  ·rcases Eaj.1 hq with rfl | hq
   ·exact h2
   ·exact h5 q hq
  ·cases l with
   | nil=>cases hq
   | cons r l =>
    have h7:=h3 hk r rfl;rcases Eaj.1 hq with rfl | hq
    ·exact h7
    ·exact H8 h7 ((Eba.1 (h6 hk)).1 q hq)
def nxt (L:Nat):List Node->Nat->Option Nat
 | _,0=>some 0
 | [],_+1=>none
 | n :: r,o+1=>if n.many<0\/(L:Int)<n.many then none else (nxt L r (o+n.many.toNat)).map (· + 1)
theorem Jxp:∀ (m:Nat) (F:Forest),m<=F.len->∃ A B:Forest,F=A.app B/\A.len=m
 | 0,F,_=>⟨.nil,F,rfl,rfl⟩
 | m+1,.nil,h=>by simp [Forest.len] at h
 | m+1,.cons nm t r,h=>by
  obtain ⟨A,B,h1,h2⟩:=Jxp m r (by simp only [Forest.len] at h;omega);exact ⟨.cons nm t A,B,by rw [Forest.app,<- h1],by simp only [Forest.len,h2]⟩
theorem Qg {L:Nat}:∀ {v:List Node} {o k:Nat},nxt L v o=some k->∃ F:Forest,F.len=o/\v=F.enc ++ v.drop k/\F.enc.length=k
 | v,0,k,h=>by
  simp [nxt] at h;subst h;exact ⟨.nil,rfl,by simp [Bl],by simp [Bl]⟩
 | [],o+1,k,h=>by simp [nxt] at h
 | n :: r,o+1,k,h=>by
  simp only [nxt] at h;split at h
  ·cases h
  ·rename_i hn;obtain ⟨k',h',rfl⟩:=Eak.1 h;obtain ⟨F,h1,h2,h3⟩:=Qg h';obtain ⟨A,B,rfl,hA⟩:=Jxp n.many.toNat F omg;rw [Jrz] at h1;rw [Jqk] at h2 h3;refine ⟨.cons n.name (.mk n.kind n.s n.neg n.e A) B,by simp only [Forest.len];omega,?_,?_⟩
   ·rw [A0,A6,Eb1];have e:(⟨n.kind,A.len,n.name,n.s,n.neg,n.e⟩:Node)=n:=by
     have:(A.len:Int)=n.many:=by omega
     rw [this]
    rw [e];simp only [List.cons_append,Ea2];congr 1;rw [<- Ea2];exact h2
   ·rw [A0,A6,Eac,List.length_cons];rw [Eac] at h3;omega
theorem Q3 {L:Nat}:∀ (n:Nat) (F:Forest) (r:List Node),F.enc.length<=n->F.enc.length<=L->nxt L (F.enc ++ r) F.len=some F.enc.length
 | _,.nil,r,_,_=>by simp [Forest.len,nxt,Bl]
 | 0,.cons nm t rest,r,h,_=>by
  have:=Et t nm;rw [A0,Eac] at h;omega
 | n+1,.cons nm (.mk k s g e kids) rest,r,h,hL=>by
  rw [A0,A6,Eac,List.length_cons] at h hL;have hk:=Jqi kids;have ih:=Q3 (L:=L) n (kids.app rest) r (by rw [Jqk,Eac];omega) (by rw [Jqk,Eac];omega);rw [Jqk,Jrz,Ea2,Eac] at ih;simp only [A0,A6,List.cons_append,Ea2,Forest.len,nxt];rw [if_neg omg];simp only [Int.toNat_natCast];rw [Ecr rest.len,ih];simp only [Option.map_some,List.length_cons,Eac]
theorem Jcx {v:List Node}:nxt v.length v 1=some v.length ↔ ∃ nm t,v=Tree.enc nm t:=by
 constructor
 ·intro h;obtain ⟨F,h1,h2,h3⟩:=Qg h;rw [List.drop_length,Eaz] at h2
  match F,h1,h2 with
  | .cons nm t .nil,_,h2=>exact ⟨nm,t,by rw [h2,A0,Bl,Eaz]⟩
 ·rintro ⟨nm,t,rfl⟩;have:=Q3 (L:=(t.enc nm).length) (t.enc nm).length (.cons nm t .nil) [] (by rw [A0,Bl];simp) (by rw [A0,Bl];simp);simpa [A0,Bl,Forest.len] using this
def R0 (v:List Node):Prop:=∃ t,okT t/\v=t.enc []
open Classical in
noncomputable def Jw (v:List Node):Bool:=decide (R0 v)
theorem Iq {v:List Node}:Jw v=true ↔ R0 v:=by unfold Jw;exact @decide_eq_true_iff _ (Classical.propDecidable _)
end Go.LX
namespace Go.LX
open Go Go.RowKit Go.Proofs
attribute [local irreducible] Al SWP Bi
def nd (k:Int) (l:List KT):Tree:=.mk k [] false 0 (A1 l)
theorem Ea (l:List KT):(A1 l).list=l:=Hd l
theorem Jdh {k:Int} {l:List KT}:okT (nd k l) ↔ G3 k [] false 0 l.length/\Eh k l/\∀ p∈l,okT p.2:=by
 unfold nd;rw [Lu,Jdo,Ea,Ca]
def Ck (name:List UInt8) (t:Tree) (l:List KT):List KT:=l.map fun p=>if p.1=name then (name,t) else p
theorem Jhx (name:List UInt8) (t:Tree) (l:List KT):(Ck name t l).map (·.1)=l.map (·.1):=by
 unfold Ck;rw [Ebs];apply Ebh;intro p _;simp only [Function.comp];split <;> simp_all
theorem Jkq {l m:List KT} (h:l.map (·.1)=m.map (·.1)):Rise l ↔ Rise m:=by
 have e:∀ l:List KT,Rise l ↔ (l.map (·.1)).Pairwise fun a b=>Op.bytesLess a b=true:=fun l=>by unfold Rise;rw [Ec7]
 rw [e,e,h]
theorem Ii {name:List UInt8} {t:Tree} {l:List KT} (h:Rise l):Rise (Ck name t l):=(Jkq (Jhx name t l)).2 h
theorem Mh {name:List UInt8} {t:Tree}:∀ {l:List KT},(∀ p∈l,p.1≠name)->Ck name t l=l
 | [],_=>rfl
 | p :: l,h=>by
  have:=Mh (t:=t) fun q hq=>h q (Eag p hq)
  unfold Ck at this ⊢;rw [Eat,if_neg (h p Eaf),this]
theorem Y2 {name:List UInt8}:∀ {l:List KT},(∀ p∈l,p.1≠name)->A8 name l=l
 | [],_=>rfl
 | p :: l,h=>by rw [A8,if_neg (h p Eaf),Y2 fun q hq=>h q (Eag p hq)]
theorem Zx {name:List UInt8} {y:Tree}:∀ {l:List KT},Rise l->(∃ p∈l,p.1=name)->putL name y (A8 name l)=Ck name y l
 | [],_,h=>by obtain ⟨p,hp,_⟩:=h;cases hp
 | p :: l,hr,h=>by
  obtain ⟨h1,h2⟩:=Eba.1 hr;by_cases hp:p.1=name
  ·have hno:∀ q∈l,q.1≠name:=fun q hq e=>by
    have:=h1 q hq;rw [hp,e,E0] at this;cases this
   rw [A8,if_pos hp,Y2 hno];unfold Ck;rw [Eat,if_pos hp];have:=Mh (t:=y) hno;unfold Ck at this;rw [this];cases l with
   | nil=>rfl
   | cons q l =>
    have:=h1 q Eaf;rw [hp] at this;rw [putL,if_neg (by rw [L3 this];simp)]
  ·obtain ⟨q,hq,hqn⟩:=h;have hq':q∈l:=by
    rcases Eaj.1 hq with rfl | hq
    ·exact absurd hqn hp
    ·exact hq
   have hlt:=h1 q hq';rw [hqn] at hlt;rw [A8,if_neg hp,putL,if_pos hlt,Zx h2 ⟨q,hq',hqn⟩];unfold Ck;rw [Eat,if_neg hp]
theorem Lf {name:List UInt8} {y:Tree}:∀ {l:List KT},(∃ p∈l,p.1=name)->Ch name (Ck name y l)=some y
 | [],h=>by obtain ⟨p,hp,_⟩:=h;cases hp
 | p :: l,h=>by
  unfold Ck;rw [Eat];by_cases hp:p.1=name
  ·rw [if_pos hp,Ch,if_pos rfl]
  ·rw [if_neg hp,Ch,if_neg hp];obtain ⟨q,hq,hqn⟩:=h;refine Lf ⟨q,?_,hqn⟩;rcases Eaj.1 hq with rfl | hq
   ·exact absurd hqn hp
   ·exact hq
theorem G8 {name n':List UInt8} {y:Tree} (hn:n'≠name):∀ {l:List KT},Ch n' (Ck name y l)=Ch n' l
 | []=>rfl
 | p :: l=>by
  have ih:=G8 hn (y:=y) (l:=l);unfold Ck at ih ⊢;rw [Eat];by_cases hp:p.1=name
  ·rw [if_pos hp,Ch,if_neg (by simp only;exact fun e=>hn e.symm),Ch,if_neg (by rw [hp];exact fun e=>hn e.symm),ih]
  ·rw [if_neg hp,Ch,Ch,ih]
theorem Xa (name:List UInt8) (y z:Tree) (l:List KT):Ck name z (Ck name y l)=Ck name z l:=by
 unfold Ck;rw [Ebs];apply Ebh;intro p _;simp only [Function.comp];by_cases h:p.1=name <;> simp [h]
theorem Jbr {a b:List UInt8} (h:a≠b) (y z:Tree) (l:List KT):Ck a y (Ck b z l)=Ck b z (Ck a y l):=by
 unfold Ck;rw [Ebs,Ebs];apply Ebh;intro p _;simp only [Function.comp];by_cases h1:p.1=a
 ·have h2:¬ p.1=b:=fun e=>h (h1.symm.trans e)
  simp [h1,h,h2]
 ·by_cases h2:p.1=b
  ·simp [h2,Ne.symm h]
  ·simp [h1,h2]
theorem Qw {name:List UInt8} {w:Tree}:∀ {l:List KT},Rise l->Ch name l=some w->Ck name w l=l
 | [],_,h=>by cases h
 | p :: l,hr,h=>by
  obtain ⟨h1,h2⟩:=Eba.1 hr;rw [Ch] at h;by_cases hp:p.1=name
  ·rw [if_pos hp] at h;have hno:∀ q∈l,q.1≠name:=fun q hq e=>by
    have:=h1 q hq;rw [hp,e,E0] at this;cases this
   have e:=Mh (t:=w) hno;unfold Ck at e ⊢;rw [Eat,if_pos hp,e];cases h;obtain ⟨a,b⟩:=p;simp only at hp;subst hp;rfl
  ·rw [if_neg hp] at h;have e:=Qw h2 h;unfold Ck at e ⊢;rw [Eat,if_neg hp,e]
theorem Jip {name:List UInt8} {y:Tree} {l:List KT} (h:∀ p∈l,okT p.2) (hy:okT y):∀ p∈Ck name y l,okT p.2:=by
 intro p hp;obtain ⟨q,hq,rfl⟩:=Eap.1 hp;split
 ·exact hy
 ·exact h q hq
theorem Jct {name:List UInt8} {y:Tree} {l:List KT} (h:Eh 6 l):Eh 6 (Ck name y l):=by
 obtain ⟨_,h2,h3⟩:=h;refine ⟨by simp,fun p hp=>?_,fun _=>Ii (h3 rfl)⟩;obtain ⟨q,hq,rfl⟩:=Eap.1 hp;split
 ·rename_i e;simp only;rw [<- e];exact h2 q hq
 ·exact h2 q hq
theorem Jdu {name:List UInt8} {y w:Tree}:∀ {l:List KT},Rise l->Ch name l=some w->(A1 (Ck name y l)).enc.length+(w.enc []).length=(A1 l).enc.length+(y.enc []).length
 | [],_,h=>by cases h
 | p :: l,hr,h=>by
  obtain ⟨h1,h2⟩:=Eba.1 hr;rw [Ch] at h;by_cases hp:p.1=name
  ·rw [if_pos hp] at h;cases h;have hno:∀ q∈l,q.1≠name:=fun q hq e=>by
    have:=h1 q hq;rw [hp,e,E0] at this;cases this
   have e:=Mh (t:=y) hno;have e2:Ck name y (p :: l)=(name,y) :: l:=by
    unfold Ck at e ⊢;rw [Eat,if_pos hp,e]
   rw [e2];simp only [A1,A0,Eac,G7 _ name,G7 _ p.1];omega
  ·rw [if_neg hp] at h;have ih:=Jdu (y:=y) h2 h;have e2:Ck name y (p :: l)=p :: Ck name y l:=by
    unfold Ck;rw [Eat,if_neg hp]
   rw [e2];simp only [A1,A0,Eac];omega
theorem Jcy {y w:Tree} {nm:List UInt8}:∀ {l:List KT} {i:Nat},l[i]? = some (nm,w)->(A1 (l.set i (nm,y))).enc.length+(w.enc []).length=(A1 l).enc.length+(y.enc []).length
 | [],i,h=>by simp at h
 | p :: l,0,h=>by
  simp at h;subst h;simp only [List.set_cons_zero,A1,A0,Eac,G7 _ nm];omega
 | p :: l,i+1,h=>by
  have:=Jcy (y:=y) (l:=l) (i:=i) (by simpa using h);simp only [List.set_cons_succ,A1,A0,Eac];omega
def putT:Tree->Step->Tree->Tree
 | .mk _ _ _ _ kids,x,y=>if x.part=true then nd 5 (unn (kids.list.set x.n.toNat ([],y))) else nd 6 (putL x.name y (A8 x.name kids.list))
inductive Way (t:Tree) (x:Step) (w:Tree):Prop
 | list (l:List KT) (h:t=nd 5 l) (hp:x.part=true) (hn:∀ p∈l,p.1=[]) (hi:l[x.n.toNat]? = some ([],w))
 | obj (l:List KT) (h:t=nd 6 l) (hp:x.part=false) (hr:Rise l) (hi:Ch x.name l=some w)
theorem Jl3:∀ {l:List KT},(∀ p∈l,p.1=[])->unn l=l
 | [],_=>rfl
 | p :: l,h=>by
  have:=Jl3 fun q hq=>h q (Eag p hq)
  unfold unn at this ⊢;rw [Eat,this,<- h p Eaf]
theorem Jv {t:Tree} {x:Step} {w:Tree} (ht:okT t) (h:inT t x=.ok w):Way t x w:=by
 cases t with
 | mk k s g e kids =>
 rw [Lu] at ht;obtain ⟨h1,h2,h3⟩:=ht;unfold G3 at h1;cases hp:x.part
 ·by_cases hk:k=6
  ·subst hk;simp at h1;obtain ⟨rfl,rfl,rfl⟩:=h1;rw [Tp hp] at h;cases hf:Ch x.name kids.list with
   | none=>rw [hf] at h;cases h
   | some u =>
    rw [hf] at h;cases h;exact .obj kids.list (by unfold nd;rw [G1]) hp (h2.2.2 rfl) hf
  ·rw [Iw hp hk] at h;cases h
 ·by_cases hk:k=5
  ·subst hk;simp at h1;obtain ⟨rfl,rfl,rfl⟩:=h1;rw [Tm hp] at h;cases hf:kids.list[x.n.toNat]? with
   | none=>rw [hf] at h;cases h
   | some q =>
    rw [hf] at h;cases h;have hq:=h2.1 rfl q (Eae hf);refine .list kids.list (by unfold nd;rw [G1]) hp (h2.1 rfl) ?_;rw [hf];obtain ⟨a,b⟩:=q;simp only at hq;subst hq;rfl
  ·rw [Iz hp hk] at h;cases h
theorem Va {l:List KT} {x:Step} (hp:x.part=true):inT (nd 5 l) x=match l[x.n.toNat]? with
   | some p=>.ok p.2
   | none=>.error 6:=by unfold nd;rw [Tm hp,Ea] <;> rfl
theorem Vv {l:List KT} {x:Step} (hp:x.part=false):inT (nd 6 l) x=match Ch x.name l with
   | some t=>.ok t
   | none=>.error 6:=by unfold nd;rw [Tp hp,Ea] <;> rfl
theorem Gf {l:List KT} {i:Nat} {y:Tree} (h:∀ p∈l,p.1=[]):∀ p∈l.set i ([],y),p.1=[]:=by
 intro p hp;rcases Eby hp with hp | rfl
 ·exact h p hp
 ·rfl
theorem Cr {l:List KT} {x:Step} {y:Tree} (hp:x.part=true) (hn:∀ p∈l,p.1=[]):putT (nd 5 l) x y=nd 5 (l.set x.n.toNat ([],y)):=by
 show (if x.part=true then nd 5 (unn ((A1 l).list.set x.n.toNat ([],y))) else _)=_;rw [if_pos hp,Ea,Jl3 (Gf hn)]
theorem C7 {l:List KT} {x:Step} {y w:Tree} (hp:x.part=false) (hr:Rise l) (hi:Ch x.name l=some w):putT (nd 6 l) x y=nd 6 (Ck x.name y l):=by
 show (if x.part=true then _ else nd 6 (putL x.name y (A8 x.name (A1 l).list)))=_;rw [if_neg (by simp [hp]),Ea,Zx hr];obtain ⟨p,h1,_,h2⟩:=H2 hi;exact ⟨p,h1,h2⟩
theorem Qq {name:List UInt8} {l:List KT} {w:Tree} (h:Ch name l=some w):∃ p∈l,p.1=name:=by
 obtain ⟨p,h1,_,h2⟩:=H2 h;exact ⟨p,h1,h2⟩
theorem L7 {t:Tree} {x:Step} {w y:Tree} (h:Way t x w):inT (putT t x y) x=.ok y:=by
 cases h with
 | list l h hp hn hi =>
  subst h;rw [Cr hp hn,Va hp,List.getElem?_set_self (Eab.1 hi).1]
 | obj l h hp hr hi =>
  subst h;rw [C7 hp hr hi,Vv hp,Lf (Qq hi)]
theorem Np {t:Tree} {x x':Step} {w y:Tree} (h:Way t x w) (hx:Bc x) (hx':Bc x') (hne:x≠x'):inT (putT t x y) x'=inT t x':=by
 unfold Bc at hx hx';cases h with
 | list l h hp hn hi =>
  subst h;rw [if_pos hp] at hx;rw [Cr hp hn];cases hp':x'.part
  ·unfold nd;rw [Iw hp' de,Iw hp' de]
  ·rw [if_pos hp'] at hx';have hnn:x.n.toNat≠x'.n.toNat:=fun e=>hne (by
    cases x;cases x';simp_all;omega)
   rw [Va hp',Va hp',List.getElem?_set_ne hnn]
 | obj l h hp hr hi =>
  subst h;rw [if_neg (by simp [hp])] at hx;rw [C7 hp hr hi];cases hp':x'.part
  ·rw [if_neg (by simp [hp'])] at hx';have hnn:x'.name≠x.name:=fun e=>hne (by
    cases x;cases x';simp_all)
   rw [Vv hp',Vv hp',G8 hnn]
  ·unfold nd;rw [Iz hp' de,Iz hp' de]
theorem Jjf {t:Tree} {x:Step} {w:Tree} (h:Way t x w):putT t x w=t:=by
 cases h with
 | list l h hp hn hi =>
  subst h;rw [Cr hp hn];congr 1;apply Eb9;intro i;rw [Ebn];split
  ·subst_vars
   first
    | (split <;> simp_all)
    | simp_all
  ·rfl
 | obj l h hp hr hi =>
  subst h;rw [C7 hp hr hi,Qw hr hi]
theorem Ot {t:Tree} {x:Step} {w y z:Tree} (h:Way t x w):putT (putT t x y) x z=putT t x z:=by
 cases h with
 | list l h hp hn hi =>
  subst h;rw [Cr hp hn,Cr hp (Gf hn),Cr hp hn,List.set_set]
 | obj l h hp hr hi =>
  subst h;rw [C7 hp hr hi,C7 hp (Ii hr) (Lf (Qq hi)),C7 hp hr hi,Xa]
theorem Keo {t:Tree} {x x':Step} {w w' y y':Tree} (h:Way t x w) (h':Way t x' w') (hx:Bc x) (hx':Bc x') (hne:x≠x'):putT (putT t x y) x' y'=putT (putT t x' y') x y:=by
 unfold Bc at hx hx';cases h with
 | list l h hp hn hi =>
  subst h;cases h' with
  | list l' h' hp' hn' hi' =>
   rw [if_pos hp] at hx;rw [if_pos hp'] at hx';have hnn:x.n.toNat≠x'.n.toNat:=fun e=>hne (by
    cases x;cases x';simp_all;omega)
   rw [Cr hp hn,Cr hp' (Gf hn),Cr hp' hn,Cr hp (Gf hn),List.set_comm _ _ hnn]
  | obj l' h' hp' hr' hi'=>unfold nd at h';cases h'
 | obj l h hp hr hi =>
  subst h;cases h' with
  | list l' h' hp' hn' hi'=>unfold nd at h';cases h'
  | obj l' h' hp' hr' hi' =>
   have e:l=l':=by
    unfold nd at h';injection h' with _ _ _ _ h5
    have:=congrArg Forest.list h5;rw [Ea,Ea] at this;exact this
   subst e;rw [if_neg (by simp [hp])] at hx;rw [if_neg (by simp [hp'])] at hx';have hnn:x'.name≠x.name:=fun e=>hne (by
    cases x;cases x';simp_all)
   rw [C7 hp hr hi,C7 hp' (Ii hr) (by rw [G8 hnn];exact hi'),C7 hp' hr hi',C7 hp (Ii hr) (by rw [G8 (Ne.symm hnn)];exact hi),Jbr hnn]
theorem put_ok {t:Tree} {x:Step} {w y:Tree} (ht:okT t) (h:Way t x w) (hy:okT y):okT (putT t x y):=by
 cases h with
 | list l h hp hn hi =>
  subst h;rw [Cr hp hn];rw [Jdh] at ht ⊢;obtain ⟨h1,h2,h3⟩:=ht;refine ⟨by rw [List.length_set];exact h1,⟨fun _=>Gf hn,fun p hp'=>?_,by simp⟩,fun p hp'=>?_⟩
  ·rw [Gf hn p hp'];rfl
  ·rcases Eby hp' with hp' | rfl
   ·exact h3 p hp'
   ·exact hy
 | obj l h hp hr hi =>
  subst h;rw [C7 hp hr hi];rw [Jdh] at ht ⊢;obtain ⟨h1,h2,h3⟩:=ht;exact ⟨by unfold Ck;rw [Ea9];exact h1,Jct h2,Jip h3 hy⟩
theorem Ig {t:Tree} {x:Step} {w:Tree} (ht:okT t) (h:Way t x w):okT w:=by
 cases h with
 | list l h hp hn hi=>subst h;exact (Jdh.1 ht).2.2 _ (Eae hi)
 | obj l h hp hr hi =>
  subst h;obtain ⟨p,h1,h2,_⟩:=H2 hi;rw [<- h2];exact (Jdh.1 ht).2.2 p h1
theorem Wn (k:Int) (l:List KT):((nd k l).enc []).length=(A1 l).enc.length+1:=by unfold nd;rw [A6];rfl
theorem Jot {t:Tree} {x:Step} {w y:Tree} (h:Way t x w):((putT t x y).enc []).length+(w.enc []).length=(t.enc []).length+(y.enc []).length:=by
 cases h with
 | list l h hp hn hi =>
  subst h;rw [Cr hp hn,Wn,Wn];have:=Jcy (y:=y) hi;omega
 | obj l h hp hr hi =>
  subst h;rw [C7 hp hr hi,Wn,Wn];have:=Jdu (y:=y) hr hi;omega
def setT:List Step->Tree->Tree->Except Nat Tree
 | [],_,u=>.ok u
 | x :: p,t,u=>match inT t x with
  | .error e=>.error e
  | .ok w=>match setT p w u with
   | .error e=>.error e
   | .ok y=>.ok (putT t x y)
theorem Km:∀ {p:List Step} {t u:Tree} {e:Nat},setT p t u=.error e ↔ getT p t=.error e
 | [],t,u,e=>by simp [setT,getT]
 | x :: p,t,u,e=>by
  rw [setT,getT];cases inT t x with
  | error e'=>simp
  | ok w =>
   simp only;rw [<- Km (p:=p) (t:=w) (u:=u)];cases setT p w u with
   | error e'=>simp
   | ok y=>simp
theorem Kg:∀ {p:List Step} {t u y:Tree},okT t->okT u->setT p t u=.ok y->∃ w,getT p t=.ok w/\getT p y=.ok u/\setT p y w=.ok t/\okT y/\okT w/\(y.enc []).length+(w.enc []).length=(t.enc []).length+(u.enc []).length
 | [],t,u,y,ht,hu,h=>by
  cases h;exact ⟨t,rfl,rfl,rfl,hu,ht,by omega⟩
 | x :: p,t,u,y,ht,hu,h=>by
  rw [setT] at h;cases hi:inT t x with
  | error e=>rw [hi] at h;cases h
  | ok v =>
   rw [hi] at h;have hw:=Jv ht hi;have hv:=Ig ht hw;simp only at h;cases hs:setT p v u with
   | error e=>rw [hs] at h;cases h
   | ok z =>
    rw [hs] at h;simp only at h;cases h;obtain ⟨w,g1,g2,g3,g4,g5,g6⟩:=Kg hv hu hs;refine ⟨w,by rw [getT,hi];exact g1,by rw [getT,L7 hw];exact g2,?_,put_ok ht hw g4,g5,?_⟩
    ·rw [setT,L7 hw];simp only;rw [g3];simp only;rw [Ot hw,Jjf hw]
    ·have:=Jot (y:=z) hw;omega
theorem set_comm:∀ {p q:List Step} {t u v a b:Tree},okT t->okT u->okT v->(∀ x∈p,Bc x)->(∀ x∈q,Bc x)->B7 p q=true->setT p t u=.ok a->setT q t v=.ok b->∃ c,setT q a v=.ok c/\setT p b u=.ok c
 | [],q,_,_,_,_,_,_,_,_,_,_,h,_,_=>by cases q <;> simp [B7] at h
 | x :: p,[],_,_,_,_,_,_,_,_,_,_,h,_,_=>by simp [B7] at h
 | x :: p,x' :: q,t,u,v,a,b,ht,hu,hv,hp,hq,h,h1,h2=>by
  rw [setT] at h1 h2;cases hi:inT t x with
  | error e=>rw [hi] at h1;cases h1
  | ok w =>
  cases hi':inT t x' with
  | error e=>rw [hi'] at h2;cases h2
  | ok w' =>
  rw [hi] at h1;rw [hi'] at h2;simp only at h1 h2;cases hz:setT p w u with
  | error e=>rw [hz] at h1;cases h1
  | ok a1 =>
  cases hz':setT q w' v with
  | error e=>rw [hz'] at h2;cases h2
  | ok b1 =>
  rw [hz] at h1;rw [hz'] at h2;simp only at h1 h2;cases h1;cases h2;have hw:=Jv ht hi;have hw':=Jv ht hi';by_cases hxx:x=x'
  ·subst hxx;rw [hi] at hi';cases hi';have hse:F8 x x:=Dc.2 rfl;rw [B7] at h;simp only [hse,decide_true,Ebe,Bool.false_or] at h;obtain ⟨c,c1,c2⟩:=set_comm (Ig ht hw) hu hv (fun a ha=>hp a (Eag _ ha)) (fun a ha=>hq a (Eag _ ha)) h hz hz';refine ⟨putT t x c,?_,?_⟩
   ·rw [setT,L7 hw];simp only;rw [c1];simp only;rw [Ot hw]
   ·rw [setT,L7 hw];simp only;rw [c2];simp only;rw [Ot hw]
  ·have hx:=hp x Eaf;have hx':=hq x' Eaf;refine ⟨putT (putT t x a1) x' b1,?_,?_⟩
   ·rw [setT,Np hw hx hx' hxx,hi'];simp only;rw [hz']
   ·rw [setT,Np hw' hx' hx (Ne.symm hxx),hi];simp only;rw [hz];simp only;rw [Keo hw hw' hx hx' hxx]
theorem Jjk {r:Regs} {K:L->Prop}:capV r K (.p .snil)=K (.p (.int .i64 0)):=(rfl)
theorem Jpr:Det cx 160 [.p .snil,.p (.int .i64 0)] [] (.p .snil) []:=by
 have w1:IntKind.i64.wrap 0=0:=by decide
 have c1:((0:Int)<0)=False:=by simp
 (refine bgo Tryz.func160 ?_;simp only [go_sem,simprocAttr,w1,c1,K9,Jjk,Hi])
 skip
theorem d_Grow (n:Nat) (h0:0<n) (hn:n<=1500000000000):Det cx 160 [.p .snil,.p (.int .i64 n)] [] (.own 900 0 0) [(900,.row 36 6 [])]:=by
 have w1:IntKind.i64.wrap 0=0:=by decide
 have c1:((0:Int)<(n:Int))=True:=eq_true omg;have w2:IntKind.i64.wrap ((n:Int) - 0)=n:=by rw [Aa omg omg];omega
 have c2:((n:Int)<0)=False:=eq_false omg;(refine bgoR true [(22,900)] Tryz.func160 ?_;simp only [go_sem,simprocAttr,w1,c1,w2,c2,K9,Jjk,Hi]);(repeat' (first|refine Jqj ?_|fail));omega
theorem Jc4 (l:List (List UInt8×Tree)) (k:Nat):(A1 (unn (l.take k))).enc.length<=(A1 (unn l)).enc.length:=by
 rw [Rf];exact Oi _ _
theorem Jc5 {l:List (List UInt8×Tree)} {k:Nat} {p:List UInt8×Tree} (h:l[k]? = some p):(A1 (unn (l.take (k+1)))).enc=(A1 (unn (l.take k))).enc ++ p.2.enc []:=by
 have h':(unn l)[k]? = some ([],p.2):=by simp [unn,h]
 rw [Rf,Rf];exact Nu h'
theorem Y7 (l:List (List UInt8×Tree)) (hv:(A1 (unn l)).enc.length<=1350000000000):Det cx 126 [.p (.sl (A4 l))] [] (.p (.sl (valL (A1 (unn l)).enc))) []:=by
 have hll:=Jqi (A1 (unn l));rw [Ca,Kp] at hll;have z0:(A1 (unn ([]:List (List UInt8×Tree)))).enc.length=0:=by simp [unn,A1,Bl]
 have z1:(A1 (unn ([]:List (List UInt8×Tree)))).enc=[]:=by simp [unn,A1,Bl]
 (refine bgo Tryz.func126 ?_;simp only [go_sem,simprocAttr,A5]);refine SWP.loop (fun k:Nat=>⟨Ba 36 [(0,.p (.sl (A4 l))),(3,.p (.int .i64 (A1 (unn (l.take k))).enc.length)),(9,.p (.sl (A4 l))),(10,.p (.int .i64 l.length)),(11,.p (.int .i64 k))],[]⟩) (fun k=>k<=l.length) (fun k=>l.length - k) 0 (by simp only [List.take_zero,z0];exact Jqc) (Eav _) ?_;intro k hk;by_cases hlt:¬ k<l.length
 ·have c1:((k:Int)<(l.length:Int))=False:=eq_false omg;have tk:l.take k=l:=Ead omg;have hg:=c1;have w1:=c1;have w2:=c1;have c2:=c1;by_cases hl0:l=[]
  ·subst hl0;have hG:=Jpr;(refine lws ?_;simp only [go_sem,simprocAttr,tk,z0]);(repeat' (first|(apply iteI<;>intro h)|(refine get_go ?_;intro b hb)|refine Jqj ?_|((refine Jqa hG ?_);simp only [go_sem,simprocAttr,A5])|(exfalso;omega)));refine SWP.loop (fun i:Nat=>⟨Ba 36 [(6,.p (.sl [])),(25,.p (.sl [])),(26,.p (.int .i64 0)),(27,.p (.int .i64 0))],[]⟩) (fun _=>True) (fun _=>0) 0 Jqc trivial ?_;intro i _;(refine lws ?_;simp only [go_sem,simprocAttr]);rw [z1];rfl
  ·have hpos:0<(A1 (unn l)).enc.length:=by
    have:0<l.length:=by cases l <;> simp at hl0 ⊢
    omega
   have hG:=d_Grow (A1 (unn l)).enc.length hpos omg;(refine lws ?_;simp only [go_sem,simprocAttr,c1,tk]);(repeat' (first|((refine Jqa hG ?_);simp only [go_sem,simprocAttr,A5])|fail));refine Jqg (B1 [(24,33)] _ sm) ?_;simp only [go_sem,simprocAttr];refine SWP.loop (fun k:Nat=>⟨Ba 36 [(6,.own 33 0 (A1 (unn (l.take k))).enc.length),(25,.p (.sl (A4 l))),(26,.p (.int .i64 l.length)),(27,.p (.int .i64 k))],[(33,.row 36 6 (valL (A1 (unn (l.take k))).enc))]⟩) (fun k=>k<=l.length) (fun k=>l.length - k) 0 (by simp only [List.take_zero,z0,z1,Jjy];exact Jqc) (Eav _) ?_;intro j hj;by_cases hjt:¬ j<l.length
   ·have d1:((j:Int)<(l.length:Int))=False:=eq_false omg;have tj:l.take j=l:=Ead omg;have tv:(valL (A1 (unn l)).enc).take (A1 (unn l)).enc.length=valL (A1 (unn l)).enc:=Ead sm;have lv:((A1 (unn l)).enc.length<=(A1 (unn l)).enc.length)=True:=eq_true (Eai _);have hg2:=d1;have w3:=d1;(refine lws ?_;simp only [go_sem,simprocAttr,A7,d1,tj,tv,lv])
    skip
   ·have hjt:=Ea1.1 hjt;have d1:((j:Int)<(l.length:Int))=True:=eq_true omg;obtain ⟨p,hp⟩:∃ p,l[j]? = some p:=⟨_,Eaa hjt⟩
    have hg2:(A4 l)[j]? = some [.sl (valL (p.2.enc []))]:=by simp [A4,hp]
    have hs:=Jc4 l (j+1);have h1:=Jc5 hp;rw [h1,Eac] at hs;have w3:=wj1 (i:=j) omg;have tj:=d1;have tv:=d1;have lv:=d1;(refine lws ?_;simp only [go_sem,simprocAttr,A7,d1,hg2,w3]);refine ⟨E7 _,by omega,by omega,?_⟩;refine ⟨j+1,hjt,by omega,?_⟩;rw [h1,Eac,Ji];exact Jqc
 ·have hlt:=Ea1.1 hlt;have c1:((k:Int)<(l.length:Int))=True:=eq_true omg;obtain ⟨p,hp⟩:∃ p,l[k]? = some p:=⟨_,Eaa hlt⟩
  have hg:(A4 l)[k]? = some [.sl (valL (p.2.enc []))]:=by simp [A4,hp]
  have hs:=Jc4 l (k+1);have h1:=Jc5 hp;rw [h1,Eac] at hs;have tk:=c1;have w1:=wj1 (i:=k) omg;have w2:IntKind.i64.wrap (((A1 (unn (l.take k))).enc.length:Int)+((p.2.enc []).length:Int))=(((A1 (unn (l.take k))).enc.length+(p.2.enc []).length:Nat):Int):=by rw [Aa omg omg];omega
  have c2:((((A1 (unn (l.take k))).enc.length+(p.2.enc []).length:Nat):Int)<0)=False:=eq_false omg;have d1:=c1;have tj:=c1;have tv:=c1;have lv:=c1;have hg2:=c1;have w3:=c1;(refine lws ?_;simp only [go_sem,simprocAttr,A7,c1,hg,w1,w2,c2]);refine ⟨k+1,hlt,by omega,?_⟩;rw [h1,Eac];exact Jqc
theorem Jfu {s:List UInt8} {i:Nat} (h:i<s.length):Pk (s.take (i+1))=(Pk (s.take i) && (decide (48<=at_ s i) && decide (at_ s i<=57))):=by
 simp only [Pk,Ea8,Eaa h,List.all_append,Ql h];simp [Ja8]
theorem Qp {s:List UInt8} {i:Nat} (h:i<s.length) (hb:at_ s i<48\/57<at_ s i):Pk s=false:=by
 simp only [Pk,List.all_eq_false];rw [Ql h] at hb;exact ⟨s[i],Ebq h,by simp [Ja8];omega⟩
theorem Jj5 (s:List UInt8) (hs:s.length<=9223372036854775807):Det cx 161 [.p (.str s)] [] (.p (.bool (Pk s))) []:=by
 (refine bgo Tryz.func161 ?_;simp only [go_sem,simprocAttr]);refine SWP.loop (fun i:Nat=>⟨Ba 20 [(0,.p (.str s)),(3,.p (.int .i64 i))],[]⟩) (fun i=>i<=s.length/\Pk (s.take i)=true) (fun i=>s.length - i) 0 Jqc ⟨Eav _,rfl⟩ ?_;rintro i ⟨h1,h2⟩;(refine lws ?_;simp only [go_sem,simprocAttr]);(repeat' (first|(apply iteI<;>intro h)|refine Jqj ?_|fail))
 ·exact (Qp (i:=i) omg omg).symm
 ·exact (Qp (i:=i) omg omg).symm
 ·refine ⟨i+1,⟨by omega,?_⟩,by omega,Jqc⟩;rw [Jfu omg,h2];simp;omega
 ·rw [Ead omg] at h2;exact h2.symm
theorem M0 (many:Int) (s:List UInt8) (g:Bool) (e:Int) (hs:s.length<=1000000) (he:-9223372036854775808<=e) (he':e<=9223372036854775807):Det cx 129 [.p (.agg [.int .i64 3,.int .i64 many,.str [],.str s,.bool g,.int .i64 e])] [] (.p (.bool (decide (many=0/\Yz s g e)))) []:=by
 (refine bgo Tryz.func129 ?_;simp only [go_sem,simprocAttr]);(repeat' (first|(apply iteI<;>intro h)|refine Jqj ?_|((refine Jqa (Jj5 _ omg) ?_);simp only [go_sem,simprocAttr])|fail))
 all_goals (try simp (disch:=omega) only [Aa,Qs,Ab,Jlh,Mf,Ja0,Jcc,Ja7,Jak] at *)
 all_goals (try rw [show (↑s.length - 1:Int).toNat=s.length - 1 by omega] at *)
 all_goals (rw [Ea0])
 all_goals (have hs0:s.length=0 ↔ s=[]:=List.length_eq_zero_iff)
 all_goals (simp only [Yz,decide_eq_true_eq,beq_iff_eq,bne_iff_ne,Ebv,false_iff])
 all_goals (by_cases h0:s=[])
 all_goals (simp only [h0,if_true,if_false] at *)
 all_goals (first|omega | (simp_all <;> omega) | skip)
theorem Ja1 (k m:Int) (nm s:List UInt8) (g:Bool) (e:Int) (hs:s.length<=1000000) (he:-9223372036854775808<=e) (he':e<=9223372036854775807):Det cx 78 [.p (.agg [.int .i64 k,.int .i64 m,.str nm,.str s,.bool g,.int .i64 e])] [] (.p (.bool (decide (G3 k s g e m)))) []:=by
 by_cases hk:k=3
 ·subst hk;(refine bgo Tryz.func78 ?_;simp only [go_sem,simprocAttr]);(repeat' (first|((refine Jqa (M0 m s g e hs he he') ?_);simp only [go_sem,simprocAttr])|fail))
  all_goals (first|rfl | (simp [G3];done))
 ·(refine bgo Tryz.func78 ?_;simp only [go_sem,simprocAttr]);(repeat' (first|(apply iteI<;>intro h)|((refine Jqa (Cn s hs) ?_);simp only [go_sem,simprocAttr])|(exfalso;omega)))
  all_goals (rw [Ea0])
  all_goals (simp only [G3,decide_eq_true_eq,beq_iff_eq,Ebb,Ebv,false_iff])
  all_goals (first|omega | (simp_all;done)|(simp_all <;> omega))
def nxtR (v:List Node) (i o:Nat):Int:=match nxt v.length (v.drop i) o with
 | some k=>((i+k:Nat):Int)
 | none=>-1
theorem Jha (v:List Node) (i:Nat):nxtR v i 0=i:=by
 unfold nxtR;have:nxt v.length (v.drop i) 0=some 0:=by cases v.drop i <;> rfl
 rw [this];rfl
theorem Jmc {v:List Node} {i o:Nat} (h:v.length<=i) (ho:0<o):nxtR v i o = -1:=by
 unfold nxtR;rw [Ear h];cases o with
 | zero=>omega
 | succ o=>rfl
theorem Jlc {v:List Node} {i o:Nat} {n:Node} (h:v[i]? = some n) (ho:0<o) (hb:n.many<0\/(v.length:Int)<n.many):nxtR v i o = -1:=by
 have hi:=(Eab.1 h).1;unfold nxtR;rw [Eax hi,(Eab.1 h).2];cases o with
 | zero=>omega
 | succ o=>simp only [nxt];rw [if_pos hb]
theorem Jfk {v:List Node} {i o:Nat} {n:Node} (h:v[i]? = some n) (hb:¬ (n.many<0\/(v.length:Int)<n.many)):nxtR v i (o+1)=nxtR v (i+1) (o+n.many.toNat):=by
 have hi:=(Eab.1 h).1;unfold nxtR;rw [Eax hi,(Eab.1 h).2];simp only [nxt];rw [if_neg hb];cases nxt v.length (v.drop (i+1)) (o+n.many.toNat) with
 | none=>rfl
 | some k=>simp only [Option.map_some];omega
theorem U5 {v:List Node} {i:Nat} {n:Node} (h:v[i]? = some n):(valL v)[i]? = some [.int .i64 n.kind,.int .i64 n.many,.str n.name,.str n.s,.bool n.neg,.int .i64 n.e]:=by
 simp [valL,h,Node.cells]
theorem Uv (v:List Node) (hv:v.length<=10000):Det cx 77 [.p (.sl (valL v)),.p (.int .i64 0)] [] (.p (.int .i64 (nxtR v 0 1))) []:=by
 (refine bgo Tryz.func77 ?_;simp only [go_sem,simprocAttr]);refine SWP.loop (fun x:Nat×Nat=>⟨Ba 41 [(0,.p (.sl (valL v))),(1,.p (.int .i64 x.1)),(5,.p (.int .i64 x.2))],[]⟩) (fun x=>x.1<=v.length/\x.2<=1+x.1 * 10000/\nxtR v x.1 x.2=nxtR v 0 1) (fun x=>v.length - x.1) (0,1) Jqc ⟨Eav _,by simp,rfl⟩ ?_;rintro ⟨i,o⟩ ⟨h1,h2,h3⟩;simp only at h1 h2 h3;by_cases ho:o=0
 ·subst ho;rw [Jha] at h3;(refine lws ?_;simp only [go_sem,simprocAttr]);rw [h3]
 ·have c0:((0:Int)<(o:Int))=True:=eq_true omg;by_cases hi:¬ i<v.length
  ·have c1:((v.length:Int)<=(i:Int))=True:=eq_true omg;rw [Jmc omg omg] at h3;have hg:=c1;have c2:=c1;have c3:=c1;have w1:=c1;have w2:=c1;have w3:=c1;(refine lws ?_;simp only [go_sem,simprocAttr,A7,c0,c1]);rw [<- h3]
  ·have hi:=Ea1.1 hi;have c1:((v.length:Int)<=(i:Int))=False:=eq_false omg;obtain ⟨n,hn⟩:∃ n,v[i]? = some n:=⟨_,Eaa hi⟩
   have hg:=U5 hn;by_cases hb:n.many<0\/(v.length:Int)<n.many
   ·rw [Jlc hn omg hb] at h3;have w1:=c1;have w2:=c1;have w3:=c1;by_cases hb1:n.many<0
    ·have c2:(n.many<0)=True:=eq_true hb1;have c3:=c1;(refine lws ?_;simp only [go_sem,simprocAttr,A7,c0,c1,c2,hg]);rw [<- h3]
    ·have c2:(n.many<0)=False:=eq_false hb1;have c3:((v.length:Int)<n.many)=True:=eq_true omg;(refine lws ?_;simp only [go_sem,simprocAttr,A7,c0,c1,c2,c3,hg]);rw [<- h3]
   ·have c2:(n.many<0)=False:=eq_false omg;have c3:((v.length:Int)<n.many)=False:=eq_false omg;obtain ⟨o',rfl⟩:∃ o',o=o'+1:=⟨o - 1,by omega⟩
    rw [Jfk hn hb] at h3;have w1:IntKind.i64.wrap (((o'+1:Nat):Int) - 1)=(o':Int):=by rw [Aa omg omg];omega
    have w2:IntKind.i64.wrap ((o':Int)+n.many)=((o'+n.many.toNat:Nat):Int):=by rw [Aa omg omg];omega
    have w3:=wj1 (i:=i) omg;(refine lws ?_;simp only [go_sem,simprocAttr,A7,c0,c1,c2,c3,hg,w1,w2,w3]);exact ⟨(i+1,o'+n.many.toNat),⟨by simp only;omega,by simp only;omega,h3⟩,by simp only;omega,Jqc⟩
theorem P8 {v:List Node} {i:Nat} {n:Node} (h:v[i]? = some n):(valL v)[i]? = some [.int .i64 n.kind,.int .i64 n.many,.str n.name,.str n.s,.bool n.neg,.int .i64 n.e]:=by
 simp [valL,h,Node.cells]
def Uw (x y:Node):Prop:=x.kind=y.kind/\x.many=y.many/\x.name=y.name/\x.s=y.s/\x.neg=y.neg/\x.e=y.e
theorem Qo {x y:Node}:Uw x y ↔ x=y:=by
 unfold Uw;constructor
 ·rintro ⟨h1,h2,h3,h4,h5,h6⟩;cases x;cases y;simp_all
 ·rintro rfl;exact ⟨rfl,rfl,rfl,rfl,rfl,rfl⟩
instance (x y:Node):Decidable (Uw x y):=inferInstanceAs (Decidable (_/\_))
instance:DecidableEq Node:=fun x y=>decidable_of_iff _ (Qo (x:=x) (y:=y))
theorem Jma {x y:Node}:(x.kind == y.kind && (x.many == y.many && (x.name == y.name && (x.s == y.s && (x.neg == y.neg && x.e == y.e)))))=decide (x=y):=by
 rw [Ea0,decide_eq_true_eq,<- Qo];simp [Uw]
theorem E2 (v u:List Node) (hv:v.length<=1500000000000) (hu:u.length<=1500000000000):Det cx 14 [.p (.sl (valL v)),.p (.sl (valL u))] [] (.p (.bool (decide (v=u)))) []:=by
 by_cases hl:v.length=u.length
 ·have c0:((v.length:Int)=(u.length:Int))=True:=eq_true omg;(refine bgo Tryz.func14 ?_;simp only [go_sem,simprocAttr,A7,c0]);refine SWP.loop (fun i:Nat=>⟨Ba 26 [(0,.p (.sl (valL v))),(1,.p (.sl (valL u))),(5,.p (.int .i64 i))],[]⟩) (fun i=>i<=v.length/\v.take i=u.take i) (fun i=>v.length - i) 0 Jqc ⟨Eav _,rfl⟩ ?_;rintro i ⟨h1,h3⟩;by_cases hi:¬ i<v.length
  ·have c1:((i:Int)<(v.length:Int))=False:=eq_false omg;have hgx:=c1;have hgy:=c1;(refine lws ?_;simp only [go_sem,simprocAttr,A7,c1]);rw [Ead omg,Ead omg] at h3;exact (decide_eq_true h3).symm
  ·have hi:=Ea1.1 hi;have c1:((i:Int)<(v.length:Int))=True:=eq_true omg;obtain ⟨x,hx⟩:∃ x,v[i]? = some x:=⟨_,Eaa hi⟩
   obtain ⟨y,hy⟩:∃ y,u[i]? = some y:=⟨_,Eaa omg⟩
   have hgx:=P8 hx;have hgy:=P8 hy;have w1:=wi1 (i:=i) omg;(refine lws ?_;simp only [go_sem,simprocAttr,A7,c1]);(repeat' (first|(apply iteI<;>intro h)|((refine Jqm ?_);simp only [go_sem,simprocAttr,Jma,hgx,hgy,w1])|fail))
   ·have hxy:=(show ¬ x=y by assumption)
    refine (decide_eq_false fun e=>hxy ?_).symm;subst e;rw [hx] at hy;exact Ea3 hy
   ·have hxy:=Ea1.1 (show ¬ ¬ x=y by assumption);subst hxy;refine ⟨i+1,⟨by omega,?_⟩,by omega,Jqc⟩;rw [Ea8,Ea8,h3,hx,hy]
 ·have c0:((v.length:Int)=(u.length:Int))=False:=eq_false omg;have c1:=c0;have hgx:=c0;have hgy:=c0;have w1:=c0;(refine bgo Tryz.func14 ?_;simp only [go_sem,simprocAttr,A7,c0]);exact (decide_eq_false fun e=>hl (by rw [e])).symm
theorem Z3 (v:List Node) (i:Nat) (nm:List UInt8) (k:Int) (s:List UInt8) (g:Bool) (e:Int) (kids:Forest) (rest:List Node) (hv:v.length<=1500000000000) (h:v.drop i=(Tree.mk k s g e kids).enc nm ++ rest) (hs:∀ n∈v,n.name.length<=1000000):Det cx 79 [.p (.sl (valL v)),.p (.int .i64 i)] [] (.p (.bool (@decide (Eh k kids.list) (Classical.propDecidable _)))) []:=by
 have hll:=Jqi kids;rw [A6] at h;have hg0:=D5 h;rw [C9] at hg0;have hb:=L9 h sm;simp only [List.cons_append,List.length_cons,Eac] at hb;have w0:=wj1 (i:=i) omg;(refine bgo Tryz.func79 ?_;simp only [go_sem,simprocAttr,w0]);refine SWP.loop (fun x:Nat×Nat×Forest=>⟨Ba 75 [(0,.p (.sl (valL v))),(1,.p (.int .i64 i)),(5,.p (.int .i64 x.2.1)),(6,.p (.int .i64 x.1))],[]⟩) (fun x=>x.1+x.2.2.len=kids.len/\v.drop x.2.1=x.2.2.enc ++ rest/\x.2.1+x.2.2.enc.length=i+1+kids.enc.length/\(Eh k kids.list ↔ Eh k x.2.2.list)) (fun x=>x.2.2.enc.length) (0,i+1,kids) Jqc ⟨by simp,by simp only;rw [<- Ebg,h];rfl,by simp only,Iff.rfl⟩ ?_;rintro ⟨j,a,F⟩ ⟨h1,h2,h3,h4⟩;simp only at h1 h2 h3 h4
 match F,h1,h2,h3,h4 with
 | .nil,h1,h2,h3,h4 =>
  simp only [Forest.len] at h1;have c1:((j:Int)<(kids.len:Int))=False:=eq_false omg;have hK:=h4.2 (Sb k);have hga:=c1;have w1:=c1;have c7:=c1;have hgb:=c1;(refine lws ?_;simp only [go_sem,simprocAttr,hg0,c1]);exact (@decide_eq_true _ (Classical.propDecidable _) hK).symm
 | .cons nm' t r,h1,h2,h3,h4 =>
  rw [F2] at h1;rw [A0] at h2 h3;have hp:=Et t nm';simp only [Eac] at h3;obtain ⟨k',n',s',g',e',hga⟩:∃ k' n' s' g' e',(valL v)[a]? = some [.int .i64 k',.int .i64 n',.str nm',.str s',.bool g',.int .i64 e']:=Mi (t:=t) (b:=r.enc ++ rest) (by rw [h2,Ea2]);have c1:((j:Int)<(kids.len:Int))=True:=eq_true omg;rw [Forest.list,Jaa] at h4;simp only at h4;have w1:=wj1 (i:=j) omg;have hnl:nm'.length<=1000000:=by
   have:v[a]? = some ⟨k',n',nm',s',g',e'⟩:=by
    cases hva:v[a]? with
    | none=>simp [valL,hva] at hga
    | some n =>
     have:=P8 hva;rw [hga] at this;simp only [Option.some.injEq,Ecu,PV.int.injEq,PV.str.injEq,PV.bool.injEq,true_and,and_true] at this;obtain ⟨h1,h2,h3,h4,h5,h6⟩:=this;congr 1;cases n;simp_all
   exact hs _ (Eae this)
  have hNx:=Cs v a nm' t (r.enc ++ rest) hv (by rw [h2,Ea2]);have hno:((k=5->nm'=[])/\valid nm'=true/\(k=6->∀ q,r.list.head? = some q->Op.bytesLess nm' q.1=true)/\Eh k r.list->False)->(false = @decide (Eh k kids.list) (Classical.propDecidable _)):=fun h=>((@decide_eq_false_iff_not _ (Classical.propDecidable _)).2 fun hk=>h (h4.1 hk)).symm
  have hd:v.drop (a+(t.enc nm').length)=r.enc ++ rest:=by rw [<- Ebg,h2,Ea2,Ec4]
  match r,h1,h2,h3,h4,hNx,hno,hd with
  | .nil,h1,h2,h3,h4,hNx,hno,hd =>
   simp only [Forest.len] at h1;have c7:(((j+1:Nat):Int)<(kids.len:Int))=False:=eq_false omg;have hgb:=c1;(refine lws ?_;simp only [go_sem,simprocAttr,hg0,c1,hga]);(repeat' (first|(apply iteI<;>intro h)|((first|refine Jqm ?_|(refine Jqa (Cn nm' hnl) ?_)|refine Jqa hNx ?_);simp only [go_sem,simprocAttr,hg0,w1,c7])|(exfalso;omega)))
   all_goals first
    | (
     refine hno ?_;rintro ⟨a1,a2,a3,a4⟩;have h9:=(show valid nm'=false by assumption)
     rw [a2] at h9;cases h9)
    | (
     refine hno ?_;rintro ⟨a1,a2,a3,a4⟩;clear hno hNx h4 hga hg0 hd h2 hs;simp_all)
    | (
     refine ⟨(j+1,a+(t.enc nm').length,.nil),⟨by simp only [Forest.len];omega,hd,by simp only;omega,h4.trans ⟨fun q=>q.2.2.2,fun q=>⟨?_,?_,fun _ q hq=>(by cases hq),q⟩⟩⟩,by simp only [A0,Eac];omega,Jqc⟩
     all_goals (clear hno hNx h4 hga hg0 hd h2 hs;simp_all))
  | .cons nm2 t2 r2,h1,h2,h3,h4,hNx,hno,hd =>
   simp only [Forest.len] at h1;have c7:(((j+1:Nat):Int)<(kids.len:Int))=True:=eq_true omg;obtain ⟨k2,n2,s2,g2,e2,hgb⟩:∃ k' n' s' g' e',(valL v)[a+(t.enc nm').length]? = some [.int .i64 k',.int .i64 n',.str nm2,.str s',.bool g',.int .i64 e']:=Mi (t:=t2) (b:=r2.enc ++ rest) (by rw [hd,A0,Ea2]);(refine lws ?_;simp only [go_sem,simprocAttr,hg0,c1,hga]);(repeat' (first|(apply iteI<;>intro h)|((first|refine Jqm ?_|(refine Jqa (Cn nm' hnl) ?_)|refine Jqa hNx ?_);simp only [go_sem,simprocAttr,hg0,hga,w1,c7,hgb])|(exfalso;omega)))
   all_goals first
    | (
     refine hno ?_;rintro ⟨a1,a2,a3,a4⟩;have h9:=(show valid nm'=false by assumption)
     rw [a2] at h9;cases h9)
    | (
     refine hno ?_;rintro ⟨a1,a2,a3,a4⟩;have a5:=fun hk=>a3 hk (nm2,t2) rfl
     clear a3 hno hNx h4 hga hg0 hd h2 hs hgb;simp_all)
    | (
     refine ⟨(j+1,a+(t.enc nm').length,.cons nm2 t2 r2),⟨by simp only [Forest.len];omega,hd,by simp only;omega,h4.trans ⟨fun q=>q.2.2.2,fun q=>⟨?_,?_,fun hk q hq=>?_,q⟩⟩⟩,by simp only [A0,Eac];omega,Jqc⟩
     all_goals (clear hno hNx h4 hga hg0 hd h2 hs hgb)
     all_goals first
      | (simp_all;done)
      | (simp only [Forest.list,List.head?_cons,Option.some.injEq] at hq;subst hq;simp_all))
theorem Jda:∀ {a b c d:Forest},a.app b=c.app d->a.len=c.len->a=c/\b=d
 | .nil,b,.nil,d,h,_=>⟨rfl,h⟩
 | .nil,_,.cons _ _ _,_,_,h=>by simp [Forest.len] at h
 | .cons _ _ _,_,.nil,_,_,h=>by simp [Forest.len] at h
 | .cons nm t a,b,.cons nm' t' c,d,h,hl=>by
  rw [Forest.app,Forest.app] at h;injection h with h1 h2 h3
  obtain ⟨rfl,rfl⟩:=Jda (a:=a) (b:=b) (c:=c) (d:=d) h3 (by simpa [Forest.len] using hl);exact ⟨by rw [h1,h2],rfl⟩
theorem W5:∀ (n:Nat) {F G:Forest},F.enc.length<=n->F.len=G.len->F.enc=G.enc->F=G
 | _,.nil,.nil,_,_,_=>rfl
 | _,.nil,.cons _ _ _,_,h,_=>by simp [Forest.len] at h
 | _,.cons _ _ _,.nil,_,h,_=>by simp [Forest.len] at h
 | 0,.cons nm t r,.cons _ _ _,h,_,_=>by
  have:=Et t nm;rw [A0,Eac] at h;omega
 | n+1,.cons nm (.mk k s g e kids) r,.cons nm' (.mk k' s' g' e' kids') r',h,hl,he=>by
  rw [A0,A6,Eac,List.length_cons] at h;rw [A0,A0,A6,A6,List.cons_append,List.cons_append] at he;injection he with h1 h2
  injection h1 with g1 g2 g3 g4 g5 g6
  rw [<- Jqk,<- Jqk] at h2;simp only [Forest.len] at hl;have hk:kids.len=kids'.len:=by omega
  have:=W5 n (F:=kids.app r) (G:=kids'.app r') (by rw [Jqk,Eac];omega) (by rw [Jrz,Jrz];omega) h2;obtain ⟨rfl,rfl⟩:=Jda this hk;rw [g1,g3,g4,g5,g6]
theorem Jmz {t u:Tree} {a b:List UInt8} (h:t.enc a=u.enc b):a=b/\t=u:=by
 have:=W5 (Forest.cons a t .nil).enc.length (F:=.cons a t .nil) (G:=.cons b u .nil) (Eai _) rfl (by rw [A0,A0,h]);injection this with h1 h2 _
 exact ⟨h1,h2⟩
theorem Jf9 {t:Tree}:R0 (t.enc []) ↔ okT t:=by
 constructor
 ·rintro ⟨u,hu,h⟩;obtain ⟨_,rfl⟩:=Jmz h;exact hu
 ·exact fun h=>⟨t,h,rfl⟩
theorem Zg {v:List Node} (h:R0 v):nxtR v 0 1=v.length:=by
 obtain ⟨t,_,rfl⟩:=h;have:=Jcx.2 ⟨[],t,rfl⟩;unfold nxtR;rw [Ebi,this];simp
theorem Jf6 {v:List Node} (h:nxtR v 0 1=v.length):∃ nm t,v=Tree.enc nm t:=by
 refine Jcx.1 ?_;unfold nxtR at h;rw [Ebi] at h;cases hn:nxt v.length v 1 with
 | none=>rw [hn] at h;simp at h
 | some k=>rw [hn] at h;simp at h;rw [show k=v.length by omega]
structure NodeFit (n:Node):Prop where
 s:n.s.length<=1000000
 name:n.name.length<=1000000
 e0:-9223372036854775808<=n.e
 e1:n.e<=9223372036854775807
theorem I8 {v:List Node} (h:¬ R0 v):false=Jw v:=by
 cases hb:Jw v with
 | false=>rfl
 | true=>exact absurd (Iq.1 hb) h
theorem Jp (v:List Node) (hv:v.length<=10000) (hf:∀ n∈v,NodeFit n):Det cx 24 [.p (.sl (valL v))] [] (.p (.bool (Jw v))) []:=by
 cases v with
 | nil =>
  have hb:false=Jw []:=I8 (by
   rintro ⟨t,_,h⟩;have:=congrArg List.length h;have h1:=Et t [];simp at this;omega)
  have hg0:True:=trivial;have c0:=hg0;have c1:=hg0;have c2:=hg0;have c3:=hg0;(refine bgo Tryz.func24 ?_;simp only [go_sem,simprocAttr,A7]);exact hb
 | cons n r =>
  have hg0:=U5 (v:=n :: r) (i:=0) (n:=n) rfl;have c0:(((n :: r).length:Int)=0)=False:=eq_false (by simp;omega);have c1:((0:Int)<((n :: r).length:Int))=True:=eq_true sm;have hN:=Uv (n :: r) hv;generalize hvv:n :: r=v at *
  by_cases hnm:n.name=[]
  ·by_cases hnx:nxtR v 0 1=v.length
   ·obtain ⟨nm,t,ht⟩:=Jf6 hnx;have hnm0:nm=[]:=by
     cases t with
     | mk k s g e kids =>
      rw [A6,<- hvv] at ht;have:=(List.cons.inj ht).1;rw [this] at hnm;exact hnm
    subst hnm0;have c2:(n.name=[])=True:=eq_true hnm;have c3:(nxtR v 0 1=(v.length:Int))=True:=eq_true hnx;(refine bgo Tryz.func24 ?_;simp only [go_sem,simprocAttr,A7,hg0,c0,c2]);(repeat' (first|((refine Jqa hN ?_);simp only [go_sem,simprocAttr,A7,c3])|fail));have hB:∀ b:Bool,(b=true ↔ okT t)->b=Jw v:=by
     intro b hb;rw [Ea0,hb,Iq,ht,Jf9]
    have hend:∀ {i:Nat} {F:Forest},i+F.enc.length=v.length->True:=fun _=>trivial
    refine SWP.loop (fun x:Nat×Forest=>⟨Ba 39 [(0,.p (.sl (valL v))),(3,.p (.int .i64 x.1))],[]⟩) (fun x=>v.drop x.1=x.2.enc/\x.1+x.2.enc.length=v.length/\(okT t ↔ okF x.2)) (fun x=>v.length - x.1) (0,.cons [] t .nil) Jqc ⟨by rw [A0,Bl,Eaz,Ebi,ht],by rw [A0,Bl,Eaz,ht];simp,by rw [Fs];exact ⟨fun h=>⟨h,I6⟩,fun h=>h.1⟩⟩ ?_;rintro ⟨i,F⟩ ⟨h1,h2,h3⟩;simp only at h1 h2 h3
    match F,h1,h2,h3 with
    | .nil,h1,h2,h3 =>
     rw [Bl] at h2;have c4:((i:Int)<(v.length:Int))=False:=eq_false (by simp at h2;omega);have hga:=c4;have w1:=c4;(refine lws ?_;simp only [go_sem,simprocAttr,A7,c4]);exact hB true (by rw [h3];simp [I6])
    | .cons nm' (.mk k s g e kids) r,h1,h2,h3 =>
     rw [A0,A6] at h1 h2;simp only [Eac,List.length_cons] at h2;have c4:((i:Int)<(v.length:Int))=True:=eq_true omg;have hga:=D5 h1;rw [C9] at hga;have w1:=wj1 (i:=i) omg;rw [Jjp] at h3;have hmem:(⟨k,kids.len,nm',s,g,e⟩:Node)∈v:=by
      have:(⟨k,kids.len,nm',s,g,e⟩:Node)∈v.drop i:=by rw [h1];simp
      exact Ea7 this
     have hfn:=hf _ hmem;have hpl:=Ja1 k kids.len nm' s g e hfn.s hfn.e0 hfn.e1;have hri:=Z3 v i nm' k s g e kids r.enc omg (by rw [h1,A6]) fun n hn=>(hf n hn).name
     have hcont:(okT t ↔ okF (kids.app r))->∃ y:Nat×Forest,(v.drop y.1=y.2.enc/\y.1+y.2.enc.length=v.length/\(okT t ↔ okF y.2))/\v.length - y.1<v.length - i/\y=(i+1,kids.app r):=fun h =>
      ⟨(i+1,kids.app r),⟨by simp only;rw [<- Ebg,h1,Jqk];rfl,by simp only;rw [Jqk,Eac];omega,h⟩,by simp only;omega,rfl⟩
     by_cases hn1:G3 k s g e kids.len
     ·rw [decide_eq_true hn1] at hpl;by_cases hk1:Eh k kids.list
      ·rw [@decide_eq_true _ (Classical.propDecidable _) hk1] at hri;(refine lws ?_;simp only [go_sem,simprocAttr,A7,c4,hga]);(repeat' (first|((first|refine Jqa hpl ?_|refine Jqa hri ?_);simp only [go_sem,simprocAttr,w1])|fail));obtain ⟨y,p1,p2,rfl⟩:=hcont (h3.trans ⟨fun h=>h.2.2,fun h=>⟨hn1,hk1,h⟩⟩);exact ⟨_,p1,p2,Jqc⟩
      ·rw [@decide_eq_false _ (Classical.propDecidable _) hk1] at hri;(refine lws ?_;simp only [go_sem,simprocAttr,A7,c4,hga]);(repeat' (first|((first|refine Jqa hpl ?_|refine Jqa hri ?_);simp only [go_sem,simprocAttr])|fail));exact hB false (by rw [h3];simp [hk1])
     ·rw [decide_eq_false hn1] at hpl;(refine lws ?_;simp only [go_sem,simprocAttr,A7,c4,hga]);(repeat' (first|((refine Jqa hpl ?_);simp only [go_sem,simprocAttr])|fail));exact hB false (by rw [h3];simp [hn1])
   ·have c2:(n.name=[])=True:=eq_true hnm;have c3:(nxtR v 0 1=(v.length:Int))=False:=eq_false hnx;have hb:=I8 (v:=v) fun h=>hnx (Zg h)
    have c4:=hg0;have hga:=hg0;have w1:=hg0;(refine bgo Tryz.func24 ?_;simp only [go_sem,simprocAttr,A7,hg0,c0,c2]);(repeat' (first|((refine Jqa hN ?_);simp only [go_sem,simprocAttr,A7,c3])|fail));exact hb
  ·have c2:(n.name=[])=False:=eq_false hnm;have c3:=c2;have c4:=hg0;have hga:=hg0;have w1:=hg0;have hb:=I8 (v:=v) (by
    rintro ⟨t,_,h⟩;cases t with
    | mk k s g e kids =>
     rw [A6,<- hvv] at h;have:=(List.cons.inj h).1;rw [this] at hnm;exact hnm rfl)
   (refine bgo Tryz.func24 ?_;simp only [go_sem,simprocAttr,A7,hg0,c0,c2]);exact hb
end Go.LX
