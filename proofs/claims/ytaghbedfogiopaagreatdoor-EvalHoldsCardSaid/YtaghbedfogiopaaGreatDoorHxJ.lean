/- Values: lists of some. -/
import Derived.Test.YtaghbedfogiopaaGreatDoorHxI
import Derived.OpenShut
import Derived.ProofKit
import Derived.Deep.Slices
import Derived.Test.YtaghbedfogiopaaGreatDoorCards
import Derived.Test.YtaghbedfogiopaaGreatDoorTie
import Derived.Deep.DeepWitnessRowRef
import Derived.Lib.LaidIn
import Derived.Lib.LaidU8T
import Derived.Lib.Repeat
set_option linter.unusedSimpArgs false
set_option linter.unusedVariables false
set_option linter.unusedSectionVars false
set_option linter.unnecessarySimpa false
set_option maxRecDepth 100000
set_option maxHeartbeats 2000000
namespace Go.LX
open Go Go.RowKit Go.Proofs Go.Proofs.Tryz
attribute [local irreducible] Al SWP Bi
theorem Jjk {r:Regs} {K:L->Prop}:capV r K (.p .snil)=K (.p (.int .i64 0)):=(rfl)
theorem Jpr:Det cx 160 [.p .snil,.p (.int .i64 0)] [] (.p .snil) []:=by
 have w1:IntKind.i64.wrap 0=0:=by decide
 have c1:((0:Int)<0)=False:=by simp
 (refine bgo func160 ?_;simp only[go_sem,simprocAttr,w1,c1,K9,Jjk,Hi])
 skip
theorem d_Grow (n:Nat) (h0:0<n) (hn:n<=1500000000000):Det cx 160 [.p .snil,.p (.int .i64 n)] [] (.own 900 0 0) [(900,.row 36 6 [])]:=by
 have w1:IntKind.i64.wrap 0=0:=by decide
 have c1:((0:Int)<(n:Int))=True:=eq_true omg;have w2:IntKind.i64.wrap ((n:Int) - 0)=n:=by rw[Aa omg omg];omega
 have c2:((n:Int)<0)=False:=eq_false omg;(refine bgoR true [(22,900)] func160 ?_;simp only[go_sem,simprocAttr,w1,c1,w2,c2,K9,Jjk,Hi]);(repeat'(first|refine Jqj ?_|fail));omega
theorem Jc4 (l:List (List UInt8×Tree)) (k:Nat):(A1 (unn (l.take k))).enc.length<=(A1 (unn l)).enc.length:=by
 rw[Rf];exact Oi _ _
theorem Jc5 {l:List (List UInt8×Tree)} {k:Nat} {p:List UInt8×Tree} (h:l[k]? = some p):(A1 (unn (l.take (k+1)))).enc=(A1 (unn (l.take k))).enc ++ p.2.enc []:=by
 have h':(unn l)[k]? = some ([],p.2):=by simp[unn,h]
 rw[Rf,Rf];exact Nu h'
theorem Y7 (l:List (List UInt8×Tree)) (hv:(A1 (unn l)).enc.length<=1350000000000):Det cx 126 [.p (.sl (A4 l))] [] (.p (.sl (valL (A1 (unn l)).enc))) []:=by
 have hll:=Jqi (A1 (unn l));rw[Ca,Kp] at hll;have z0:(A1 (unn ([]:List (List UInt8×Tree)))).enc.length=0:=by simp[unn,A1,Bl]
 have z1:(A1 (unn ([]:List (List UInt8×Tree)))).enc=[]:=by simp[unn,A1,Bl]
 (refine bgo func126 ?_;simp only[go_sem,simprocAttr,A5]);refine SWP.loop (fun k:Nat=>⟨Ba 36 [(0,.p (.sl (A4 l))),(3,.p (.int .i64 (A1 (unn (l.take k))).enc.length)),(9,.p (.sl (A4 l))),(10,.p (.int .i64 l.length)),(11,.p (.int .i64 k))],[]⟩) (fun k=>k<=l.length) (fun k=>l.length - k) 0 (by simp only[Eb4,z0];exact Jqc) (Eat _) ?_;intro k hk;by_cases hlt:¬ k<l.length
 ·have c1:((k:Int)<(l.length:Int))=False:=eq_false omg;have tk:l.take k=l:=Ead omg;have hg:=c1;have w1:=c1;have w2:=c1;have c2:=c1;by_cases hl0:l=[]
  ·subst hl0;have hG:=Jpr;(refine lws ?_;simp only[go_sem,simprocAttr,tk,z0]);(repeat'(first|(apply iteI<;>intro h)|(refine get_go ?_;intro b hb)|refine Jqj ?_|((refine Jqa hG ?_);simp only[go_sem,simprocAttr,A5])|(exfalso;omega)));refine SWP.loop (fun i:Nat=>⟨Ba 36 [(6,.p (.sl [])),(25,.p (.sl [])),(26,.p (.int .i64 0)),(27,.p (.int .i64 0))],[]⟩) (fun _=>True) (fun _=>0) 0 Jqc trivial ?_;intro i _;(refine lws ?_;simp only[go_sem,simprocAttr]);rw[z1];rfl
  ·have hpos:0<(A1 (unn l)).enc.length:=by
    have:0<l.length:=by cases l<;>simp at hl0 ⊢
    omega
   have hG:=d_Grow (A1 (unn l)).enc.length hpos omg;(refine lws ?_;simp only[go_sem,simprocAttr,c1,tk]);(repeat'(first|((refine Jqa hG ?_);simp only[go_sem,simprocAttr,A5])|fail));refine Jqg (B1 [(24,33)] _ sm) ?_;simp only[go_sem,simprocAttr];refine SWP.loop (fun k:Nat=>⟨Ba 36 [(6,.own 33 0 (A1 (unn (l.take k))).enc.length),(25,.p (.sl (A4 l))),(26,.p (.int .i64 l.length)),(27,.p (.int .i64 k))],[(33,.row 36 6 (valL (A1 (unn (l.take k))).enc))]⟩) (fun k=>k<=l.length) (fun k=>l.length - k) 0 (by simp only[Eb4,z0,z1,Jjy];exact Jqc) (Eat _) ?_;intro j hj;by_cases hjt:¬ j<l.length
   ·have d1:((j:Int)<(l.length:Int))=False:=eq_false omg;have tj:l.take j=l:=Ead omg;have tv:(valL (A1 (unn l)).enc).take (A1 (unn l)).enc.length=valL (A1 (unn l)).enc:=Ead sm;have lv:((A1 (unn l)).enc.length<=(A1 (unn l)).enc.length)=True:=eq_true (Eaj _);have hg2:=d1;have w3:=d1;(refine lws ?_;simp only[go_sem,simprocAttr,A7,d1,tj,tv,lv])
    skip
   ·have hjt:=Eaw.1 hjt;have d1:((j:Int)<(l.length:Int))=True:=eq_true omg;obtain ⟨p,hp⟩:∃ p,l[j]? = some p:=⟨_,Eaa hjt⟩
    have hg2:(A4 l)[j]? = some [.sl (valL (p.2.enc []))]:=by simp[A4,hp]
    have hs:=Jc4 l (j+1);have h1:=Jc5 hp;rw[h1,Eac] at hs;have w3:=wj1 (i:=j) omg;have tj:=d1;have tv:=d1;have lv:=d1;(refine lws ?_;simp only[go_sem,simprocAttr,A7,d1,hg2,w3]);refine ⟨E7 _,omg,omg,?_⟩;refine ⟨j+1,hjt,omg,?_⟩;rw[h1,Eac,Ji];exact Jqc
 ·have hlt:=Eaw.1 hlt;have c1:((k:Int)<(l.length:Int))=True:=eq_true omg;obtain ⟨p,hp⟩:∃ p,l[k]? = some p:=⟨_,Eaa hlt⟩
  have hg:(A4 l)[k]? = some [.sl (valL (p.2.enc []))]:=by simp[A4,hp]
  have hs:=Jc4 l (k+1);have h1:=Jc5 hp;rw[h1,Eac] at hs;have tk:=c1;have w1:=wj1 (i:=k) omg;have w2:IntKind.i64.wrap (((A1 (unn (l.take k))).enc.length:Int)+((p.2.enc []).length:Int))=(((A1 (unn (l.take k))).enc.length+(p.2.enc []).length:Nat):Int):=by rw[Aa omg omg];omega
  have c2:((((A1 (unn (l.take k))).enc.length+(p.2.enc []).length:Nat):Int)<0)=False:=eq_false omg;have d1:=c1;have tj:=c1;have tv:=c1;have lv:=c1;have hg2:=c1;have w3:=c1;(refine lws ?_;simp only[go_sem,simprocAttr,A7,c1,hg,w1,w2,c2]);refine ⟨k+1,hlt,omg,?_⟩;rw[h1,Eac];exact Jqc
theorem Jfu {s:List UInt8} {i:Nat} (h:i<s.length):Pk (s.take (i+1))=(Pk (s.take i) && (decide (48<=at_ s i) && decide (at_ s i<=57))):=by
 simp only[Pk,Ebh,Eaa h,List.all_append,Ql h];simp[Ja8]
theorem Qp {s:List UInt8} {i:Nat} (h:i<s.length) (hb:at_ s i<48\/57<at_ s i):Pk s=false:=by
 simp only[Pk,List.all_eq_false];rw[Ql h] at hb;exact ⟨s[i],Eb3 h,by simp[Ja8];omega⟩
theorem Jj5 (s:List UInt8) (hs:s.length<=9223372036854775807):Det cx 161 [.p (.str s)] [] (.p (.bool (Pk s))) []:=by
 (refine bgo func161 ?_;simp only[go_sem,simprocAttr]);refine SWP.loop (fun i:Nat=>⟨Ba 20 [(0,.p (.str s)),(3,.p (.int .i64 i))],[]⟩) (fun i=>i<=s.length/\Pk (s.take i)=true) (fun i=>s.length - i) 0 Jqc ⟨Eat _,rfl⟩ ?_;rintro i ⟨h1,h2⟩;(refine lws ?_;simp only[go_sem,simprocAttr]);(repeat'(first|(apply iteI<;>intro h)|refine Jqj ?_|fail))
 ·exact (Qp (i:=i) omg omg).symm
 ·exact (Qp (i:=i) omg omg).symm
 ·refine ⟨i+1,⟨omg,?_⟩,omg,Jqc⟩;rw[Jfu omg,h2];simp;omega
 ·rw[Ead omg] at h2;exact h2.symm
theorem M0 (many:Int) (s:List UInt8) (g:Bool) (e:Int) (hs:s.length<=1000000) (he:-9223372036854775808<=e) (he':e<=9223372036854775807):Det cx 129 [.p (.agg [.int .i64 3,.int .i64 many,.str [],.str s,.bool g,.int .i64 e])] [] (.p (.bool (decide (many=0/\Yz s g e)))) []:=by
 (refine bgo func129 ?_;simp only[go_sem,simprocAttr]);(repeat'(first|(apply iteI<;>intro h)|refine Jqj ?_|((refine Jqa (Jj5 _ omg) ?_);simp only[go_sem,simprocAttr])|fail))
 all_goals((try simp (disch:=omega) only [Aa,Qs,Ab,Jlh,Mf,Ja0,Jcc,Ja7,Jak] at *)<;>(try rw[show (↑s.length - 1:Int).toNat=s.length - 1 by omega] at *)<;>(rw[Ea1])<;>(have hs0:s.length=0 ↔ s=[]:=List.length_eq_zero_iff)<;>(simp only[Yz,decide_eq_true_eq,beq_iff_eq,bne_iff_ne,Ebq,false_iff])<;>(by_cases h0:s=[])<;>(simp only[h0,if_true,if_false] at *)<;>(first|omega | (simp_all<;>omega) | skip))
theorem Ja1 (k m:Int) (nm s:List UInt8) (g:Bool) (e:Int) (hs:s.length<=1000000) (he:-9223372036854775808<=e) (he':e<=9223372036854775807):Det cx 78 [.p (.agg [.int .i64 k,.int .i64 m,.str nm,.str s,.bool g,.int .i64 e])] [] (.p (.bool (decide (G3 k s g e m)))) []:=by
 by_cases hk:k=3
 ·subst hk;(refine bgo func78 ?_;simp only[go_sem,simprocAttr]);(repeat'(first|((refine Jqa (M0 m s g e hs he he') ?_);simp only[go_sem,simprocAttr])|fail))
  all_goals (first|rfl | (simp[G3];done))
 ·(refine bgo func78 ?_;simp only[go_sem,simprocAttr]);(repeat'(first|(apply iteI<;>intro h)|((refine Jqa (Cn s hs) ?_);simp only[go_sem,simprocAttr])|(exfalso;omega)))
  all_goals((rw[Ea1])<;>(simp only[G3,decide_eq_true_eq,beq_iff_eq,Ea6,Ebq,false_iff])<;>(first|omega | (simp_all;done)|(simp_all<;>omega)))
def nxtR (v:List Node) (i o:Nat):Int:=match nxt v.length (v.drop i) o with
 | some k=>((i+k:Nat):Int)
 | none=>-1
theorem Jha (v:List Node) (i:Nat):nxtR v i 0=i:=by
 unfold nxtR;have:nxt v.length (v.drop i) 0=some 0:=by cases v.drop i<;>rfl
 rw[this];rfl
theorem Jmc {v:List Node} {i o:Nat} (h:v.length<=i) (ho:0<o):nxtR v i o = -1:=by
 unfold nxtR;rw[Ea0 h];cases o with
 | zero=>omega
 | succ o=>rfl
theorem Jlc {v:List Node} {i o:Nat} {n:Node} (h:v[i]? = some n) (ho:0<o) (hb:n.many<0\/(v.length:Int)<n.many):nxtR v i o = -1:=by
 have hi:=(Eab.1 h).1;unfold nxtR;rw[Eax hi,(Eab.1 h).2];cases o with
 | zero=>omega
 | succ o=>simp only[nxt];rw[if_pos hb]
theorem Jfk {v:List Node} {i o:Nat} {n:Node} (h:v[i]? = some n) (hb:¬ (n.many<0\/(v.length:Int)<n.many)):nxtR v i (o+1)=nxtR v (i+1) (o+n.many.toNat):=by
 have hi:=(Eab.1 h).1;unfold nxtR;rw[Eax hi,(Eab.1 h).2];simp only[nxt];rw[if_neg hb];cases nxt v.length (v.drop (i+1)) (o+n.many.toNat) with
 | none=>rfl
 | some k=>simp only[Option.map_some];omega
theorem U5 {v:List Node} {i:Nat} {n:Node} (h:v[i]? = some n):(valL v)[i]? = some [.int .i64 n.kind,.int .i64 n.many,.str n.name,.str n.s,.bool n.neg,.int .i64 n.e]:=by
 simp[valL,h,Node.cells]
theorem Uv (v:List Node) (hv:v.length<=10000):Det cx 77 [.p (.sl (valL v)),.p (.int .i64 0)] [] (.p (.int .i64 (nxtR v 0 1))) []:=by
 (refine bgo func77 ?_;simp only[go_sem,simprocAttr]);refine SWP.loop (fun x:Nat×Nat=>⟨Ba 41 [(0,.p (.sl (valL v))),(1,.p (.int .i64 x.1)),(5,.p (.int .i64 x.2))],[]⟩) (fun x=>x.1<=v.length/\x.2<=1+x.1 * 10000/\nxtR v x.1 x.2=nxtR v 0 1) (fun x=>v.length - x.1) (0,1) Jqc ⟨Eat _,by simp,rfl⟩ ?_;rintro ⟨i,o⟩ ⟨h1,h2,h3⟩;simp only at h1 h2 h3;by_cases ho:o=0
 ·subst ho;rw[Jha] at h3;(refine lws ?_;simp only[go_sem,simprocAttr]);rw[h3]
 ·have c0:((0:Int)<(o:Int))=True:=eq_true omg;by_cases hi:¬ i<v.length
  ·have c1:((v.length:Int)<=(i:Int))=True:=eq_true omg;rw[Jmc omg omg] at h3;have hg:=c1;have c2:=c1;have c3:=c1;have w1:=c1;have w2:=c1;have w3:=c1;(refine lws ?_;simp only[go_sem,simprocAttr,A7,c0,c1]);rw[<- h3]
  ·have hi:=Eaw.1 hi;have c1:((v.length:Int)<=(i:Int))=False:=eq_false omg;obtain ⟨n,hn⟩:∃ n,v[i]? = some n:=⟨_,Eaa hi⟩
   have hg:=U5 hn;by_cases hb:n.many<0\/(v.length:Int)<n.many
   ·rw[Jlc hn omg hb] at h3;have w1:=c1;have w2:=c1;have w3:=c1;by_cases hb1:n.many<0
    ·have c2:(n.many<0)=True:=eq_true hb1;have c3:=c1;(refine lws ?_;simp only[go_sem,simprocAttr,A7,c0,c1,c2,hg]);rw[<- h3]
    ·have c2:(n.many<0)=False:=eq_false hb1;have c3:((v.length:Int)<n.many)=True:=eq_true omg;(refine lws ?_;simp only[go_sem,simprocAttr,A7,c0,c1,c2,c3,hg]);rw[<- h3]
   ·have c2:(n.many<0)=False:=eq_false omg;have c3:((v.length:Int)<n.many)=False:=eq_false omg;obtain ⟨o',rfl⟩:∃ o',o=o'+1:=⟨o - 1,omg⟩
    rw[Jfk hn hb] at h3;have w1:IntKind.i64.wrap (((o'+1:Nat):Int) - 1)=(o':Int):=by rw[Aa omg omg];omega
    have w2:IntKind.i64.wrap ((o':Int)+n.many)=((o'+n.many.toNat:Nat):Int):=by rw[Aa omg omg];omega
    have w3:=wj1 (i:=i) omg;(refine lws ?_;simp only[go_sem,simprocAttr,A7,c0,c1,c2,c3,hg,w1,w2,w3]);exact ⟨(i+1,o'+n.many.toNat),⟨by simp only;omega,by simp only;omega,h3⟩,by simp only;omega,Jqc⟩
theorem P8 {v:List Node} {i:Nat} {n:Node} (h:v[i]? = some n):(valL v)[i]? = some [.int .i64 n.kind,.int .i64 n.many,.str n.name,.str n.s,.bool n.neg,.int .i64 n.e]:=by
 simp[valL,h,Node.cells]
def Uw (x y:Node):Prop:=x.kind=y.kind/\x.many=y.many/\x.name=y.name/\x.s=y.s/\x.neg=y.neg/\x.e=y.e
theorem Qo {x y:Node}:Uw x y ↔ x=y:=by
 unfold Uw;constructor
 ·rintro ⟨h1,h2,h3,h4,h5,h6⟩;cases x;cases y;simp_all
 ·rintro rfl;exact ⟨rfl,rfl,rfl,rfl,rfl,rfl⟩
instance (x y:Node):Decidable (Uw x y):=inferInstanceAs (Decidable (_/\_))
instance:DecidableEq Node:=fun x y=>decidable_of_iff _ (Qo (x:=x) (y:=y))
theorem Jma {x y:Node}:(x.kind == y.kind && (x.many == y.many && (x.name == y.name && (x.s == y.s && (x.neg == y.neg && x.e == y.e)))))=decide (x=y):=by
 rw[Ea1,decide_eq_true_eq,<- Qo];simp[Uw]
theorem Kkl (v u:List Node) (hv:v.length<=1500000000000) (hu:u.length<=1500000000000):Det cx 14 [.p (.sl (valL v)),.p (.sl (valL u))] [] (.p (.bool (decide (v=u)))) []:=by
 by_cases hl:v.length=u.length
 ·have c0:((v.length:Int)=(u.length:Int))=True:=eq_true omg;(refine bgo func14 ?_;simp only[go_sem,simprocAttr,A7,c0]);refine SWP.loop (fun i:Nat=>⟨Ba 26 [(0,.p (.sl (valL v))),(1,.p (.sl (valL u))),(5,.p (.int .i64 i))],[]⟩) (fun i=>i<=v.length/\v.take i=u.take i) (fun i=>v.length - i) 0 Jqc ⟨Eat _,rfl⟩ ?_;rintro i ⟨h1,h3⟩;by_cases hi:¬ i<v.length
  ·have c1:((i:Int)<(v.length:Int))=False:=eq_false omg;have hgx:=c1;have hgy:=c1;(refine lws ?_;simp only[go_sem,simprocAttr,A7,c1]);rw[Ead omg,Ead omg] at h3;exact (decide_eq_true h3).symm
  ·have hi:=Eaw.1 hi;have c1:((i:Int)<(v.length:Int))=True:=eq_true omg;obtain ⟨x,hx⟩:∃ x,v[i]? = some x:=⟨_,Eaa hi⟩
   obtain ⟨y,hy⟩:∃ y,u[i]? = some y:=⟨_,Eaa omg⟩
   have hgx:=P8 hx;have hgy:=P8 hy;have w1:=wi1 (i:=i) omg;(refine lws ?_;simp only[go_sem,simprocAttr,A7,c1]);(repeat'(first|(apply iteI<;>intro h)|((refine Jqm ?_);simp only[go_sem,simprocAttr,Jma,hgx,hgy,w1])|fail))
   ·have hxy:=(show ¬ x=y by assumption)
    refine (decide_eq_false fun e=>hxy ?_).symm;subst e;rw[hx] at hy;exact Ea9 hy
   ·have hxy:=Eaw.1 (show ¬ ¬ x=y by assumption);subst hxy;refine ⟨i+1,⟨omg,?_⟩,omg,Jqc⟩;rw[Ebh,Ebh,h3,hx,hy]
 ·have c0:((v.length:Int)=(u.length:Int))=False:=eq_false omg;have c1:=c0;have hgx:=c0;have hgy:=c0;have w1:=c0;(refine bgo func14 ?_;simp only[go_sem,simprocAttr,A7,c0]);exact (decide_eq_false fun e=>hl (by rw[e])).symm
theorem Z3 (v:List Node) (i:Nat) (nm:List UInt8) (k:Int) (s:List UInt8) (g:Bool) (e:Int) (kids:Forest) (rest:List Node) (hv:v.length<=1500000000000) (h:v.drop i=(Tree.mk k s g e kids).enc nm ++ rest) (hs:∀ n∈v,n.name.length<=1000000):Det cx 79 [.p (.sl (valL v)),.p (.int .i64 i)] [] (.p (.bool (@decide (Eh k kids.list) (Classical.propDecidable _)))) []:=by
 have hll:=Jqi kids;rw[A6] at h;have hg0:=D5 h;rw[C9] at hg0;have hb:=L9 h sm;simp only[Ea8,Eaf,Eac] at hb;have w0:=wj1 (i:=i) omg;(refine bgo func79 ?_;simp only[go_sem,simprocAttr,w0]);refine SWP.loop (fun x:Nat×Nat×Forest=>⟨Ba 75 [(0,.p (.sl (valL v))),(1,.p (.int .i64 i)),(5,.p (.int .i64 x.2.1)),(6,.p (.int .i64 x.1))],[]⟩) (fun x=>x.1+x.2.2.len=kids.len/\v.drop x.2.1=x.2.2.enc ++ rest/\x.2.1+x.2.2.enc.length=i+1+kids.enc.length/\(Eh k kids.list ↔ Eh k x.2.2.list)) (fun x=>x.2.2.enc.length) (0,i+1,kids) Jqc ⟨by simp,by simp only;rw[<- Ea7,h];rfl,by simp only,Iff.rfl⟩ ?_;rintro ⟨j,a,F⟩ ⟨h1,h2,h3,h4⟩;simp only at h1 h2 h3 h4
 match F,h1,h2,h3,h4 with
 | .nil,h1,h2,h3,h4 =>
  simp only[Forest.len] at h1;have c1:((j:Int)<(kids.len:Int))=False:=eq_false omg;have hK:=h4.2 (Sb k);have hga:=c1;have w1:=c1;have c7:=c1;have hgb:=c1;(refine lws ?_;simp only[go_sem,simprocAttr,hg0,c1]);exact (@decide_eq_true _ (Classical.propDecidable _) hK).symm
 | .cons nm' t r,h1,h2,h3,h4 =>
  rw[Kka] at h1;rw[A0] at h2 h3;have hp:=Et t nm';simp only[Eac] at h3;obtain ⟨k',n',s',g',e',hga⟩:∃ k' n' s' g' e',(valL v)[a]? = some [.int .i64 k',.int .i64 n',.str nm',.str s',.bool g',.int .i64 e']:=Mi (t:=t) (b:=r.enc ++ rest) (by rw[h2,Ea2]);have c1:((j:Int)<(kids.len:Int))=True:=eq_true omg;rw[Forest.list,Jaa] at h4;simp only at h4;have w1:=wj1 (i:=j) omg;have hnl:nm'.length<=1000000:=by
   have:v[a]? = some ⟨k',n',nm',s',g',e'⟩:=by
    cases hva:v[a]? with
    | none=>simp[valL,hva] at hga
    | some n =>
     have:=P8 hva;rw[hga] at this;simp only[Option.some.injEq,Eda,PV.int.injEq,PV.str.injEq,PV.bool.injEq,true_and,and_true] at this;obtain ⟨h1,h2,h3,h4,h5,h6⟩:=this;congr 1;cases n;simp_all
   exact hs _ (Eae this)
  have hNx:=Cs v a nm' t (r.enc ++ rest) hv (by rw[h2,Ea2]);have hno:((k=5->nm'=[])/\valid nm'=true/\(k=6->∀ q,r.list.head? = some q->Op.bytesLess nm' q.1=true)/\Eh k r.list->False)->(false = @decide (Eh k kids.list) (Classical.propDecidable _)):=fun h=>((@decide_eq_false_iff_not _ (Classical.propDecidable _)).2 fun hk=>h (h4.1 hk)).symm
  have hd:v.drop (a+(t.enc nm').length)=r.enc ++ rest:=by rw[<- Ea7,h2,Ea2,Ecm]
  match r,h1,h2,h3,h4,hNx,hno,hd with
  | .nil,h1,h2,h3,h4,hNx,hno,hd =>
   simp only[Forest.len] at h1;have c7:(((j+1:Nat):Int)<(kids.len:Int))=False:=eq_false omg;have hgb:=c1;(refine lws ?_;simp only[go_sem,simprocAttr,hg0,c1,hga]);(repeat'(first|(apply iteI<;>intro h)|((first|refine Jqm ?_|(refine Jqa (Cn nm' hnl) ?_)|refine Jqa hNx ?_);simp only[go_sem,simprocAttr,hg0,w1,c7])|(exfalso;omega)))
   all_goals first
    | (
     refine hno ?_;rintro ⟨a1,a2,a3,a4⟩;have h9:=(show valid nm'=false by assumption)
     rw[a2] at h9;cases h9)
    | (
     refine hno ?_;rintro ⟨a1,a2,a3,a4⟩;clear hno hNx h4 hga hg0 hd h2 hs;simp_all)
    | (
     refine ⟨(j+1,a+(t.enc nm').length,.nil),⟨by simp only[Forest.len];omega,hd,by simp only;omega,h4.trans ⟨fun q=>q.2.2.2,fun q=>⟨?_,?_,fun _ q hq=>(by cases hq),q⟩⟩⟩,by simp only[A0,Eac];omega,Jqc⟩
     all_goals (clear hno hNx h4 hga hg0 hd h2 hs;simp_all))
  | .cons nm2 t2 r2,h1,h2,h3,h4,hNx,hno,hd =>
   simp only[Forest.len] at h1;have c7:(((j+1:Nat):Int)<(kids.len:Int))=True:=eq_true omg;obtain ⟨k2,n2,s2,g2,e2,hgb⟩:∃ k' n' s' g' e',(valL v)[a+(t.enc nm').length]? = some [.int .i64 k',.int .i64 n',.str nm2,.str s',.bool g',.int .i64 e']:=Mi (t:=t2) (b:=r2.enc ++ rest) (by rw[hd,A0,Ea2]);(refine lws ?_;simp only[go_sem,simprocAttr,hg0,c1,hga]);(repeat'(first|(apply iteI<;>intro h)|((first|refine Jqm ?_|(refine Jqa (Cn nm' hnl) ?_)|refine Jqa hNx ?_);simp only[go_sem,simprocAttr,hg0,hga,w1,c7,hgb])|(exfalso;omega)))
   all_goals first
    | (
     refine hno ?_;rintro ⟨a1,a2,a3,a4⟩;have h9:=(show valid nm'=false by assumption)
     rw[a2] at h9;cases h9)
    | (
     refine hno ?_;rintro ⟨a1,a2,a3,a4⟩;have a5:=fun hk=>a3 hk (nm2,t2) rfl
     clear a3 hno hNx h4 hga hg0 hd h2 hs hgb;simp_all)
    | (
     refine ⟨(j+1,a+(t.enc nm').length,.cons nm2 t2 r2),⟨by simp only[Forest.len];omega,hd,by simp only;omega,h4.trans ⟨fun q=>q.2.2.2,fun q=>⟨?_,?_,fun hk q hq=>?_,q⟩⟩⟩,by simp only[A0,Eac];omega,Jqc⟩
     all_goals (clear hno hNx h4 hga hg0 hd h2 hs hgb)
     all_goals first
      | (simp_all;done)
      | (simp only[Forest.list,List.head?_cons,Option.some.injEq] at hq;subst hq;simp_all))
theorem Jda:∀ {a b c d:Forest},a.app b=c.app d->a.len=c.len->a=c/\b=d
 | .nil,b,.nil,d,h,_=>⟨rfl,h⟩
 | .nil,_,.cons _ _ _,_,_,h=>by simp[Forest.len] at h
 | .cons _ _ _,_,.nil,_,_,h=>by simp[Forest.len] at h
 | .cons nm t a,b,.cons nm' t' c,d,h,hl=>by
  rw[Forest.app,Forest.app] at h;injection h with h1 h2 h3
  obtain ⟨rfl,rfl⟩:=Jda (a:=a) (b:=b) (c:=c) (d:=d) h3 (by simpa[Forest.len] using hl);exact ⟨by rw[h1,h2],rfl⟩
theorem W5:∀ (n:Nat) {F G:Forest},F.enc.length<=n->F.len=G.len->F.enc=G.enc->F=G
 | _,.nil,.nil,_,_,_=>rfl
 | _,.nil,.cons _ _ _,_,h,_=>by simp[Forest.len] at h
 | _,.cons _ _ _,.nil,_,h,_=>by simp[Forest.len] at h
 | 0,.cons nm t r,.cons _ _ _,h,_,_=>by
  have:=Et t nm;rw[A0,Eac] at h;omega
 | n+1,.cons nm (.mk k s g e kids) r,.cons nm' (.mk k' s' g' e' kids') r',h,hl,he=>by
  rw[A0,A6,Eac,Eaf] at h;rw[A0,A0,A6,A6,Ea8,Ea8] at he;injection he with h1 h2
  injection h1 with g1 g2 g3 g4 g5 g6
  rw[<- Jqk,<- Jqk] at h2;simp only[Forest.len] at hl;have hk:kids.len=kids'.len:=by omega
  have:=W5 n (F:=kids.app r) (G:=kids'.app r') (by rw[Jqk,Eac];omega) (by rw[Jrz,Jrz];omega) h2;obtain ⟨rfl,rfl⟩:=Jda this hk;rw[g1,g3,g4,g5,g6]
theorem Jmz {t u:Tree} {a b:List UInt8} (h:t.enc a=u.enc b):a=b/\t=u:=by
 have:=W5 (Forest.cons a t .nil).enc.length (F:=.cons a t .nil) (G:=.cons b u .nil) (Eaj _) rfl (by rw[A0,A0,h]);injection this with h1 h2 _
 exact ⟨h1,h2⟩
theorem Jf9 {t:Tree}:R0 (t.enc []) ↔ okT t:=by
 constructor
 ·rintro ⟨u,hu,h⟩;obtain ⟨_,rfl⟩:=Jmz h;exact hu
 ·exact fun h=>⟨t,h,rfl⟩
theorem Zg {v:List Node} (h:R0 v):nxtR v 0 1=v.length:=by
 obtain ⟨t,_,rfl⟩:=h;have:=Jcx.2 ⟨[],t,rfl⟩;unfold nxtR;rw[Ebw,this];simp
theorem Jf6 {v:List Node} (h:nxtR v 0 1=v.length):∃ nm t,v=Tree.enc nm t:=by
 refine Jcx.1 ?_;unfold nxtR at h;rw[Ebw] at h;cases hn:nxt v.length v 1 with
 | none=>rw[hn] at h;simp at h
 | some k=>rw[hn] at h;simp at h;rw[show k=v.length by omega]
structure NodeFit (n:Node):Prop where
 s:n.s.length<=1000000
 name:n.name.length<=1000000
 e0:-9223372036854775808<=n.e
 e1:n.e<=9223372036854775807
theorem I8 {v:List Node} (h:¬ R0 v):false=Jw v:=by
 cases hb:Jw v with
 | false=>rfl
 | true=>exact absurd (Iq.1 hb) h
theorem Jp (v:List Node) (hv:v.length<=10000) (hf:∀ n∈v,NodeFit n):Det cx 24 [.p (.sl (valL v))] [] (.p (.bool (Jw v))) []:=by
 cases v with
 | nil =>
  have hb:false=Jw []:=I8 (by
   rintro ⟨t,_,h⟩;have:=congrArg List.length h;have h1:=Et t [];simp at this;omega)
  have hg0:True:=trivial;have c0:=hg0;have c1:=hg0;have c2:=hg0;have c3:=hg0;(refine bgo func24 ?_;simp only[go_sem,simprocAttr,A7]);exact hb
 | cons n r =>
  have hg0:=U5 (v:=n :: r) (i:=0) (n:=n) rfl;have c0:(((n :: r).length:Int)=0)=False:=eq_false (by simp;omega);have c1:((0:Int)<((n :: r).length:Int))=True:=eq_true sm;have hN:=Uv (n :: r) hv;generalize hvv:n :: r=v at *
  by_cases hnm:n.name=[]
  ·by_cases hnx:nxtR v 0 1=v.length
   ·obtain ⟨nm,t,ht⟩:=Jf6 hnx;have hnm0:nm=[]:=by
     cases t with
     | mk k s g e kids =>
      rw[A6,<- hvv] at ht;have:=(List.cons.inj ht).1;rw[this] at hnm;exact hnm
    subst hnm0;have c2:(n.name=[])=True:=eq_true hnm;have c3:(nxtR v 0 1=(v.length:Int))=True:=eq_true hnx;(refine bgo func24 ?_;simp only[go_sem,simprocAttr,A7,hg0,c0,c2]);(repeat'(first|((refine Jqa hN ?_);simp only[go_sem,simprocAttr,A7,c3])|fail));have hB:∀ b:Bool,(b=true ↔ okT t)->b=Jw v:=by
     intro b hb;rw[Ea1,hb,Iq,ht,Jf9]
    have hend:∀ {i:Nat} {F:Forest},i+F.enc.length=v.length->True:=fun _=>trivial
    refine SWP.loop (fun x:Nat×Forest=>⟨Ba 39 [(0,.p (.sl (valL v))),(3,.p (.int .i64 x.1))],[]⟩) (fun x=>v.drop x.1=x.2.enc/\x.1+x.2.enc.length=v.length/\(okT t ↔ okF x.2)) (fun x=>v.length - x.1) (0,.cons [] t .nil) Jqc ⟨by rw[A0,Bl,Ea5,Ebw,ht],by rw[A0,Bl,Ea5,ht];simp,by rw[Fs];exact ⟨fun h=>⟨h,I6⟩,fun h=>h.1⟩⟩ ?_;rintro ⟨i,F⟩ ⟨h1,h2,h3⟩;simp only at h1 h2 h3
    match F,h1,h2,h3 with
    | .nil,h1,h2,h3 =>
     rw[Bl] at h2;have c4:((i:Int)<(v.length:Int))=False:=eq_false (by simp at h2;omega);have hga:=c4;have w1:=c4;(refine lws ?_;simp only[go_sem,simprocAttr,A7,c4]);exact hB true (by rw[h3];simp[I6])
    | .cons nm' (.mk k s g e kids) r,h1,h2,h3 =>
     rw[A0,A6] at h1 h2;simp only[Eac,Eaf] at h2;have c4:((i:Int)<(v.length:Int))=True:=eq_true omg;have hga:=D5 h1;rw[C9] at hga;have w1:=wj1 (i:=i) omg;rw[Jjp] at h3;have hmem:(⟨k,kids.len,nm',s,g,e⟩:Node)∈v:=by
      have:(⟨k,kids.len,nm',s,g,e⟩:Node)∈v.drop i:=by rw[h1];simp
      exact Ea3 this
     have hfn:=hf _ hmem;have hpl:=Ja1 k kids.len nm' s g e hfn.s hfn.e0 hfn.e1;have hri:=Z3 v i nm' k s g e kids r.enc omg (by rw[h1,A6]) fun n hn=>(hf n hn).name
     have hcont:(okT t ↔ okF (kids.app r))->∃ y:Nat×Forest,(v.drop y.1=y.2.enc/\y.1+y.2.enc.length=v.length/\(okT t ↔ okF y.2))/\v.length - y.1<v.length - i/\y=(i+1,kids.app r):=fun h =>
      ⟨(i+1,kids.app r),⟨by simp only;rw[<- Ea7,h1,Jqk];rfl,by simp only;rw[Jqk,Eac];omega,h⟩,by simp only;omega,rfl⟩
     by_cases hn1:G3 k s g e kids.len
     ·rw[decide_eq_true hn1] at hpl;by_cases hk1:Eh k kids.list
      ·rw[@decide_eq_true _ (Classical.propDecidable _) hk1] at hri;(refine lws ?_;simp only[go_sem,simprocAttr,A7,c4,hga]);(repeat'(first|((first|refine Jqa hpl ?_|refine Jqa hri ?_);simp only[go_sem,simprocAttr,w1])|fail));obtain ⟨y,p1,p2,rfl⟩:=hcont (h3.trans ⟨fun h=>h.2.2,fun h=>⟨hn1,hk1,h⟩⟩);exact ⟨_,p1,p2,Jqc⟩
      ·rw[@decide_eq_false _ (Classical.propDecidable _) hk1] at hri;(refine lws ?_;simp only[go_sem,simprocAttr,A7,c4,hga]);(repeat'(first|((first|refine Jqa hpl ?_|refine Jqa hri ?_);simp only[go_sem,simprocAttr])|fail));exact hB false (by rw[h3];simp[hk1])
     ·rw[decide_eq_false hn1] at hpl;(refine lws ?_;simp only[go_sem,simprocAttr,A7,c4,hga]);(repeat'(first|((refine Jqa hpl ?_);simp only[go_sem,simprocAttr])|fail));exact hB false (by rw[h3];simp[hn1])
   ·have c2:(n.name=[])=True:=eq_true hnm;have c3:(nxtR v 0 1=(v.length:Int))=False:=eq_false hnx;have hb:=I8 (v:=v) fun h=>hnx (Zg h)
    have c4:=hg0;have hga:=hg0;have w1:=hg0;(refine bgo func24 ?_;simp only[go_sem,simprocAttr,A7,hg0,c0,c2]);(repeat'(first|((refine Jqa hN ?_);simp only[go_sem,simprocAttr,A7,c3])|fail));exact hb
  ·have c2:(n.name=[])=False:=eq_false hnm;have c3:=c2;have c4:=hg0;have hga:=hg0;have w1:=hg0;have hb:=I8 (v:=v) (by
    rintro ⟨t,_,h⟩;cases t with
    | mk k s g e kids =>
     rw[A6,<- hvv] at h;have:=(List.cons.inj h).1;rw[this] at hnm;exact hnm rfl)
   (refine bgo func24 ?_;simp only[go_sem,simprocAttr,A7,hg0,c0,c2]);exact hb
theorem Kfd (l:List (List UInt8×Tree)) (hv:(A1 (unn l)).enc.length<=1350000000000):Det cx 69 [.p (.sl (A4 l))] [] (.p (.sl (valL ((Tree.mk 5 [] false 0 (A1 (unn l))).enc [])))) []:=by
 have hll:=Jqi (A1 (unn l));rw[Ca,Kp] at hll;have c1:(1+(A1 (unn l)).enc.length<=(A1 (unn l)).enc.length+1)=True:=eq_true omg;have t1:∀ h:List PV,(h :: valL (A1 (unn l)).enc).take (1+(A1 (unn l)).enc.length)=h :: valL (A1 (unn l)).enc:=fun h=>Ead (by simp;omega)
 (refine bgo func69 ?_;simp only[go_sem,simprocAttr,A5]);(repeat'(first|((refine Jqa (Y7 l hv) ?_);simp only[go_sem,simprocAttr,A7,c1,t1])|fail));(repeat'(first|(refine And.intro (by first|omega | (simp;done)|(simp;omega) | exact E7 _) ?_)|fail));rw[A6,Ca,Kp];rfl
def FitT (t:Tree):Prop:=∀ n∈t.enc [],NodeFit n
theorem O4 {nm:List UInt8} {t:Tree}:∀ {f:Forest},(nm,t)∈f.list->∀ n∈t.enc nm,n∈f.enc
 | .nil,h,_,_=>by cases h
 | .cons a b r,h,n,hn=>by
  rw[A0,Eau];rcases Eam.1 h with h | h
  ·cases h;exact .inl hn
  ·exact .inr (O4 h n hn)
theorem Y3 {t:Tree} {a b:List UInt8} (h:∀ n∈t.enc a,NodeFit n) (hb:b.length<=1000000):∀ n∈t.enc b,NodeFit n:=by
 cases t with
 | mk k s g e kids =>
  rw[A6] at h ⊢;intro n hn;rcases Eam.1 hn with rfl | hn
  ·have:=h _ Eag;exact ⟨this.s,hb,this.e0,this.e1⟩
  ·exact h n (Eah _ hn)
theorem Mg {k:Int} {s:List UInt8} {g:Bool} {e:Int} {kids:Forest} (h:FitT (.mk k s g e kids)) {p:List UInt8×Tree} (hp:p∈kids.list):p.1.length<=1000000/\FitT p.2:=by
 obtain ⟨nm,t⟩:=p;have h1:∀ n∈t.enc nm,NodeFit n:=fun n hn=>h n (by rw[A6];exact Eah _ (O4 hp n hn))
 refine ⟨?_,Y3 h1 sm⟩;cases t with
 | mk k s g e kids =>
  exact (h1 _ (by rw[A6];exact Eag)).name
theorem Ji9 {t w:Tree} {x:Step} (h:FitT t) (hi:inT t x=.ok w):FitT w:=by
 cases t with
 | mk k s g e kids =>
  obtain ⟨p,h1,rfl⟩:=Jd5 hi;exact (Mg h h1).2
theorem S7 (l:List (List UInt8×Tree)) (n:Nat) (y:Tree):(A4 l).set n [.sl (valL (y.enc []))]=A4 (l.set n ([],y)):=by simp[A4,Edj]
theorem Pm {l:List KT} {i:Nat} {y:Tree}:(A1 (unn (l.set i ([],y)))).enc.length<=(A1 l).enc.length+(y.enc []).length:=by
 induction l generalizing i with
 | nil=>simp[unn,A1,Bl]
 | cons p l ih =>
  have hl:∀ l:List KT,(A1 (unn l)).enc.length=(A1 l).enc.length:=by
   intro l
   induction l with
   | nil=>rfl
   | cons q l ih =>
    unfold unn at ih ⊢;simp only[Eay,A1,A0,Eac,ih,G7 _ q.1]
  cases i with
  | zero =>
   rw[hl];simp only[List.set_cons_zero,A1,A0,Eac];omega
  | succ i =>
   have:=ih (i:=i);rw[hl] at this ⊢;simp only[List.set_cons_succ,A1,A0,Eac];omega
theorem Jkz {s:List UInt8} {g:Bool} {e:Int} {kids:Forest} {x:Step} {y:Tree} (hp:x.part=true):putT (.mk 5 s g e kids) x y=.mk 5 [] false 0 (A1 (unn (kids.list.set x.n.toNat ([],y)))):=by
 show (if x.part=true then nd 5 _ else _)=_;rw[if_pos hp];rfl
theorem Jkb {s:List UInt8} {g:Bool} {e:Int} {kids:Forest} {x:Step} {y:Tree} (hp:x.part=false):putT (.mk 6 s g e kids) x y=.mk 6 [] false 0 (A1 (putL x.name y (A8 x.name kids.list))):=by
 show (if x.part=true then _ else nd 6 _)=_;rw[if_neg (by simp[hp])];rfl
theorem Jei (t u:Tree):Det cx 67 [.p (.sl (Bb [])),.p (.sl (valL (t.enc []))),.p (.sl (valL (u.enc [])))] [] (getR (setT [] t u)) []:=by
 have hpe:Bb []=[]:=rfl;(refine bgo func67 ?_;simp only[go_sem,simprocAttr,hpe]);rfl
theorem Hu {p:List Step} {t u:Tree} {e:Nat} (h:setT p t u=.error e):e=5\/e=6:=by
 rw[Km] at h
 induction p generalizing t with
 | nil=>cases h
 | cons x p ih =>
  rw[getT] at h;cases hi:inT t x with
  | error e'=>rw[hi] at h;cases h;exact M2 hi
  | ok w=>rw[hi] at h;exact ih h
theorem L8:∀ (p:List Step) (t u:Tree),p.length<=1000->(∀ x∈p,Bc x)->okT t->okT u->(t.enc []).length+(u.enc []).length<=300000000000->Det cx 67 [.p (.sl (Bb p)),.p (.sl (valL (t.enc []))),.p (.sl (valL (u.enc [])))] [] (getR (setT p t u)) []
 | [],t,u,hp,hok,ht,hu,hs=>Jei t u
 | x :: p,t,u,hp,hok,ht,hu,hs=>by
  have hx:=hok x Eag;have hpl:Bb (x :: p)=[.bool x.part,.str x.name,.int .i64 x.n] :: Bb p:=rfl;have hcl:((((Bb p).length+1:Nat):Int)=0)=False:=eq_false omg;have hin:=d_in t x omg hx;simp only[Eaf] at hp;cases hi:inT t x with
  | error e =>
   rw[hi] at hin;unfold getR at hin;have he:=M2 hi;have c1:((e:Int)=0)=False:=eq_false omg;have hps:=c1;have c2:=c1;have c3:=c1;have l1:=c1;have l2:=c1;have hpt:=c1;have hxm:=c1;(refine bgo func67 ?_;simp only[go_sem,simprocAttr,hpl,hcl]);(repeat'(first|((refine Jqa hin ?_);simp only[go_sem,simprocAttr,c1])|fail));rw[setT,hi];rfl
  | ok w =>
   rw[hi] at hin;unfold getR at hin;have hle:=Q7 hi;have hw:=Jv ht hi;have ih:=L8 p w u omg (fun y hy=>hok y (Eah _ hy)) (Ig ht hw) hu omg;cases hz:setT p w u with
   | error e =>
    rw[hz] at ih;unfold getR at ih;have he:=Hu hz;have c1:((e:Int)=0)=False:=eq_false omg;have hps:=c1;have c2:=c1;have c3:=c1;have l1:=c1;have l2:=c1;have hpt:=c1;have hxm:=c1;(refine bgo func67 ?_;simp only[go_sem,simprocAttr,hpl,hcl]);(repeat'(first|((refine Jqa hin ?_);simp only[go_sem,simprocAttr])|fail));refine ⟨by intro z hz';rcases Eam.1 hz' with rfl | hz';(· rfl);exact Bp _ z hz',omg,?_⟩;(repeat'(first|((refine Jqa ih ?_);simp only[go_sem,simprocAttr,c1])|fail));rw[setT,hi];simp only;rw[hz];rfl
   | ok y =>
    rw[hz] at ih;unfold getR at ih;have hyl:=(Kg (Ig ht hw) hu hz)
    obtain ⟨_,_,_,_,_,_,hyl⟩:=hyl;have c1:=hpl;have hres:setT (x :: p) t u=.ok (putT t x y):=by rw[setT,hi];simp only;rw[hz]
    rw[hres];cases t with
    | mk k s g e kids =>
    have hkv:kids.enc.length<=300000000000:=by rw[A6] at hs;simp at hs;omega
    have hll:=Jqi kids;have hkl:=Jqh kids;cases hpt:x.part with
    | true =>
     obtain ⟨l,h5,_,hn,hg⟩ | ⟨_,_,h6,_,_⟩:=hw
     rotate_left
     ·rw[hpt] at h6;cases h6
     unfold nd at h5;injection h5 with q1 q2 q3 q4 q5
     subst q1;have hkk:kids.list=l:=by rw[q5,Ea]
     unfold Bc at hx;rw[if_pos hpt] at hx;obtain ⟨m,hxm⟩:∃ m:Nat,x.n=m:=⟨x.n.toNat,omg⟩
     rw[Jkz hpt,hxm];simp only[Int.toNat_natCast];have hml:m<kids.len:=by
      have:=(Eab.1 hg).1;rw[hxm] at this;simp only[Int.toNat_natCast] at this;rw[<- hkl,hkk];exact this
     obtain ⟨q,hq⟩:∃ q,kids.list[m]? = some q:=⟨_,Eaa omg⟩
     have c2:=Hx hq;have c3:(A4 kids.list).length=kids.len:=by rw[A5,hkl]
     have hps:=S7 kids.list m y;have l1:(A4 (kids.list.set m ([],y))).take kids.len=A4 (kids.list.set m ([],y)):=Ead (by rw[A5,Edf];omega);have l2:(kids.len<=(A4 (kids.list.set m ([],y))).length)=True:=eq_true (by rw[A5,Edf];omega);have hus:=Pm (l:=kids.list) (i:=m) (y:=y);rw[G1] at hus;have hL:=Kfd (kids.list.set m ([],y)) omg;have hP:=Jc9 [] 5 s g e kids omg;rw[hpt,hxm] at hin;(refine bgo func67 ?_;simp only[go_sem,simprocAttr,hpl,hcl,hpt,hxm]);(repeat'(first|((refine Jqa hin ?_);simp only[go_sem,simprocAttr])|fail));refine ⟨by intro z hz';rcases Eam.1 hz' with rfl | hz';(· rfl);exact Bp _ z hz',omg,?_⟩;(repeat'(first|refine Jqj ?_|((first|refine Jqa ih ?_|refine Jqa hP ?_|refine Jqa hL ?_);simp only[go_sem,simprocAttr,c2,hps,l1,l2])|fail))
     all_goals rfl
    | false =>
     obtain ⟨_,_,h5,_,_⟩ | ⟨l,h6,_,hr,hg⟩:=hw
     ·rw[hpt] at h5;cases h5
     unfold nd at h6;injection h6 with q1 q2 q3 q4 q5
     subst q1;have hkk:kids.list=l:=by rw[q5,Ea]
     rw[Jkb hpt];rw[hpt] at hin;have hW:=Kel [] s g e kids x.name y omg omg (by rw[hkk];exact hr.kept _);have c2:=hpl;have c3:=hpl;have hps:=hpl;have l1:=hpl;have l2:=hpl;have hxm:=hpl;(refine bgo func67 ?_;simp only[go_sem,simprocAttr,hpl,hcl,hpt]);(repeat'(first|((refine Jqa hin ?_);simp only[go_sem,simprocAttr])|fail));refine ⟨by intro z hz';rcases Eam.1 hz' with rfl | hz';(· rfl);exact Bp _ z hz',omg,?_⟩;(repeat'(first|((first|refine Jqa ih ?_|refine Jqa hW ?_);simp only[go_sem,simprocAttr])|fail))
     all_goals rfl
theorem Us (t u:Tree):Det cx 75 [.p (.sl (Bb [])),.p (.sl (valL (t.enc []))),.p (.sl (valL (u.enc [])))] [] (getR (setT [] t u)) []:=by
 have hpe:Bb []=[]:=rfl;(refine bgo func75 ?_;simp only[go_sem,simprocAttr,hpe]);rfl
theorem Tk:∀ (p:List Step) (t u:Tree),p.length<=1000->(∀ x∈p,Bc x)->okT t->FitT t->okT u->(t.enc []).length+(u.enc []).length<=300000000000->Det cx 75 [.p (.sl (Bb p)),.p (.sl (valL (t.enc []))),.p (.sl (valL (u.enc [])))] [] (getR (setT p t u)) []
 | [],t,u,hp,hok,ht,hft,hu,hs=>Us t u
 | x :: p,t,u,hp,hok,ht,hft,hu,hs=>by
  have hx:=hok x Eag;have hpl:Bb (x :: p)=[.bool x.part,.str x.name,.int .i64 x.n] :: Bb p:=rfl;have hcl:((((Bb p).length+1:Nat):Int)=0)=False:=eq_false omg;have hin:=P2 t x omg hx;simp only[Eaf] at hp;cases hi:inT t x with
  | error e =>
   rw[hi] at hin;unfold getR at hin;have he:=M2 hi;have c1:((e:Int)=0)=False:=eq_false omg;have hps:=c1;have c2:=c1;have c3:=c1;have l1:=c1;have l2:=c1;have hpt:=c1;have hxm:=c1;(refine bgo func75 ?_;simp only[go_sem,simprocAttr,hpl,hcl]);(repeat'(first|((refine Jqa hin ?_);simp only[go_sem,simprocAttr,c1])|fail));rw[setT,hi];rfl
  | ok w =>
   rw[hi] at hin;unfold getR at hin;have hle:=Q7 hi;have hw:=Jv ht hi;have ih:=Tk p w u omg (fun y hy=>hok y (Eah _ hy)) (Ig ht hw) (Ji9 hft hi) hu omg;cases hz:setT p w u with
   | error e =>
    rw[hz] at ih;unfold getR at ih;have he:=Hu hz;have c1:((e:Int)=0)=False:=eq_false omg;have hps:=c1;have c2:=c1;have c3:=c1;have l1:=c1;have l2:=c1;have hpt:=c1;have hxm:=c1;(refine bgo func75 ?_;simp only[go_sem,simprocAttr,hpl,hcl]);(repeat'(first|((refine Jqa hin ?_);simp only[go_sem,simprocAttr])|fail));refine ⟨by intro z hz';rcases Eam.1 hz' with rfl | hz';(· rfl);exact Bp _ z hz',omg,?_⟩;(repeat'(first|((refine Jqa ih ?_);simp only[go_sem,simprocAttr,c1])|fail));rw[setT,hi];simp only;rw[hz];rfl
   | ok y =>
    rw[hz] at ih;unfold getR at ih;have hyl:=(Kg (Ig ht hw) hu hz)
    obtain ⟨_,_,_,_,_,_,hyl⟩:=hyl;have c1:=hpl;have hres:setT (x :: p) t u=.ok (putT t x y):=by rw[setT,hi];simp only;rw[hz]
    rw[hres];cases t with
    | mk k s g e kids =>
    have hkv:kids.enc.length<=300000000000:=by rw[A6] at hs;simp at hs;omega
    have hll:=Jqi kids;have hkl:=Jqh kids;cases hpt:x.part with
    | true =>
     obtain ⟨l,h5,_,hn,hg⟩ | ⟨_,_,h6,_,_⟩:=hw
     rotate_left
     ·rw[hpt] at h6;cases h6
     unfold nd at h5;injection h5 with q1 q2 q3 q4 q5
     subst q1;have hkk:kids.list=l:=by rw[q5,Ea]
     unfold Bc at hx;rw[if_pos hpt] at hx;obtain ⟨m,hxm⟩:∃ m:Nat,x.n=m:=⟨x.n.toNat,omg⟩
     rw[Jkz hpt,hxm];simp only[Int.toNat_natCast];have hml:m<kids.len:=by
      have:=(Eab.1 hg).1;rw[hxm] at this;simp only[Int.toNat_natCast] at this;rw[<- hkl,hkk];exact this
     obtain ⟨q,hq⟩:∃ q,kids.list[m]? = some q:=⟨_,Eaa omg⟩
     have c2:=Hx hq;have c3:(A4 kids.list).length=kids.len:=by rw[A5,hkl]
     have hps:=S7 kids.list m y;have l1:(A4 (kids.list.set m ([],y))).take kids.len=A4 (kids.list.set m ([],y)):=Ead (by rw[A5,Edf];omega);have l2:(kids.len<=(A4 (kids.list.set m ([],y))).length)=True:=eq_true (by rw[A5,Edf];omega);have hus:=Pm (l:=kids.list) (i:=m) (y:=y);rw[G1] at hus;have hL:=Tt (kids.list.set m ([],y)) omg;have hP:=Qx [] 5 s g e kids omg;rw[hpt,hxm] at hin;(refine bgo func75 ?_;simp only[go_sem,simprocAttr,hpl,hcl,hpt,hxm]);(repeat'(first|((refine Jqa hin ?_);simp only[go_sem,simprocAttr])|fail));refine ⟨by intro z hz';rcases Eam.1 hz' with rfl | hz';(· rfl);exact Bp _ z hz',omg,?_⟩;(repeat'(first|refine Jqj ?_|((first|refine Jqa ih ?_|refine Jqa hP ?_|refine Jqa hL ?_);simp only[go_sem,simprocAttr,c2,hps,l1,l2])|fail))
     all_goals rfl
    | false =>
     obtain ⟨_,_,h5,_,_⟩ | ⟨l,h6,_,hr,hg⟩:=hw
     ·rw[hpt] at h5;cases h5
     unfold nd at h6;injection h6 with q1 q2 q3 q4 q5
     subst q1;have hkk:kids.list=l:=by rw[q5,Ea]
     rw[Jkb hpt];rw[hpt] at hin;have hkO:=(Lu.1 ht).2.1;have hxo:x.name.length<=1000000:=by
      obtain ⟨z,hz1,hz2⟩:=Qq hg;rw[<- hz2,<- hkk] at *
      rw[<- hkk] at hz1;exact (Mg hft hz1).1
     have hxv:valid x.name=true:=by
      unfold Bc at hx;rw[if_neg (by simp[hpt])] at hx;exact hx.2
     have hW:=Tl [] s g e kids x.name y omg omg (by rw[hkk];exact hr.kept _) (fun z hz=>(Mg hft hz).1) hkO.2.1 hxo hxv;have c2:=hpl;have c3:=hpl;have hps:=hpl;have l1:=hpl;have l2:=hpl;have hxm:=hpl;(refine bgo func75 ?_;simp only[go_sem,simprocAttr,hpl,hcl,hpt]);(repeat'(first|((refine Jqa hin ?_);simp only[go_sem,simprocAttr])|fail));refine ⟨by intro z hz';rcases Eam.1 hz' with rfl | hz';(· rfl);exact Bp _ z hz',omg,?_⟩;(repeat'(first|((first|refine Jqa ih ?_|refine Jqa hW ?_);simp only[go_sem,simprocAttr])|fail))
     all_goals rfl
end Go.LX
namespace Go.LX
open Go Go.RowKit Go.Proofs
attribute [local irreducible] Al SWP Bi
theorem Ww {s:List UInt8} {m:Nat} (h1:m<=s.length) (h2:∀ j,j<m->H3 s j) (h3:m<s.length->¬ H3 s m):Dm s=m:=by
 have hle:=P3 s;rcases Nat.lt_trichotomy (Dm s) m with h | h | h
 ·exact absurd (h2 _ h) (Jam omg)
 ·exact h
 ·exact absurd (Sh h) (h3 omg)
theorem J8t:∀ {s:List UInt8},(∀ c∈s,c.toNat<128)->valid s=true:=by
 intro s h;refine Jb.2 ⟨s.map fun c=>(c.toNat:Int),?_,?_⟩
 ·intro r hr;obtain ⟨c,hc,rfl⟩:=Eav.1 hr;have:=h c hc;unfold Cy;omega
 ·induction s with
  | nil=>rfl
  | cons c s ih =>
   rw[Eay,Ki,<- ih fun d hd=>h d (Eah _ hd)];have hc:=h c Eag;have:utf (c.toNat:Int)=[c]:=by
    unfold utf;rw[Nb ⟨omg,omg⟩];have e:((c.toNat:Int) % 256).toNat=c.toNat:=by omega
    simp[u8of,e]
   rw[this];rfl
theorem J8x {s:List UInt8} {j:Nat} (h:H3 s j):at_ s j<128:=by
 unfold H3 letP figP at h;omega
theorem J1w {s:List UInt8} (h:(Bw s).2≠0):Bc (Bw s).1/\(Bw s).1.part=false/\s.take (Bw s).2=Bv (Bw s).1/\(Bw s).2<=s.length:=by
 have hle:=Jf2 s;unfold Bw at h ⊢;split at h
 case isFalse=>exact absurd rfl h
 rename_i h46;rw[if_pos h46];obtain ⟨r,rfl⟩:∃ r,s=46 :: r:=by
  cases s with
  | nil=>simp at h46
  | cons c r=>simp at h46;exact ⟨r,by rw[h46]⟩
 simp only[Eb7,Ebw] at h ⊢;have hwl:=P3 r;split at h
 ·rename_i hw;rw[if_pos hw];have hwd:isWd (r.take (Dm r)):=by
   refine ⟨fun e=>?_,Ww (Eaj _) (fun j hj=>?_) (fun h=>absurd h (Nat.lt_irrefl _))⟩
   ·have:=congrArg List.length e;rw[Eas,Ebe] at this;omega
   ·simp at hj;have:=Sh (s:=r) (j:=j) omg;unfold H3 at this ⊢;rw[Kaz omg];exact this
  refine ⟨?_,rfl,?_,by simp;omega⟩
  ·unfold Bc;rw[if_neg sm];refine ⟨rfl,J8t fun c hc=>?_⟩;obtain ⟨j,hj,rfl⟩:=Ebc hc;simp at hj;have:=J8x (Sh (s:=r) (j:=j) omg);rw[Ql omg] at this;simpa using this
  ·unfold Bv;rw[if_neg sm,if_pos hwd,Ebl]
 ·rename_i hw;rw[if_neg hw];split at h
  ·exact absurd rfl h
  ·rename_i hc;rw[if_neg hc];simp only[not_or,ne_eq,Eaw] at hc;obtain ⟨c1,c2,c3⟩:=hc;have hg:=Jni c1;refine ⟨?_,rfl,?_,by simp;omega⟩
   ·unfold Bc;rw[if_neg sm];exact ⟨rfl,hg.1⟩
   ·unfold Bv;rw[if_neg sm,if_neg c2,Ebl,c3]
theorem Kfl {r:List UInt8} (h0:dgR 7 r≠[]) (h1:¬ (at_ r 0=48/\1<(dgR 7 r).length)):r.take (dgR 7 r).length=dgR 7 r/\Lib.decDigits (valD (dgR 7 r))=dgR 7 r:=by
 have hp:=Jdy 7 r;have hall:=Jc6 7 r;generalize dgR 7 r=t at *
 have hlt:0<t.length:=List.length_pos_iff.2 h0;have ha0:at_ t 0=at_ r 0:=by
  rw[hp];simp only[at_,Eai];rw[Eco omg]
 exact ⟨hp.symm,(Sa (t.length - 1) t omg hall (by rw[ha0];omega)).1⟩
theorem J4i {s:List UInt8} (h:(Ce s).2≠0):Bc (Ce s).1/\(Ce s).1.part=true/\s.take (Ce s).2=Bv (Ce s).1/\(Ce s).2<=s.length:=by
 have hle:=Zo s;have h91:s.take 1=[91]:=by
  unfold Ce at h;split at h
  ·rename_i hc;exact hc.1
  ·exact absurd rfl h
 obtain ⟨r,rfl⟩:∃ r,s=91 :: r:=by
  cases s with
  | nil=>simp at h91
  | cons c r=>simp at h91;exact ⟨r,by rw[h91]⟩
 obtain ⟨g1,g2,g3,g4⟩:=J2k h;have hf:=Jle g1 g2 g3 g4;have hlen:=Jd2 7 r;rw[hf];rw[hf] at hle;refine ⟨?_,rfl,?_,hle⟩
 ·unfold Bc;rw[if_pos rfl];exact ⟨rfl,by simp only;omega,by simp only;omega⟩
 ·unfold Bv;rw[if_pos rfl];simp only[Lib.itoa_nonneg];obtain ⟨hq,hcan⟩:=Kfl g1 g2;rw[hcan,Ebl];congr 1;rw[Ebh,hq,g4];rfl
theorem Kar {s:List UInt8} {i:Nat} (hi:0<i) (h:(Ee s i).2≠0):Bc (Ee s i).1/\(s.drop i).take (Ee s i).2=Bv (Ee s i).1:=by
 unfold Ee at h ⊢;split at h
 ·rename_i hf;rw[if_pos hf];have:=J1w hf;exact ⟨this.1,this.2.2.1⟩
 ·rename_i hf;rw[if_neg hf,if_neg omg];rw[if_neg omg] at h;have:=J4i h;exact ⟨this.1,this.2.2.1⟩
theorem J3d:∀ (f:Nat) (s:List UInt8) (i:Nat) (p:List Step),0<i->i<=s.length->p.length<=20->∃ q,(Fl s f i p).1=p ++ q/\(∀ x∈q,Bc x)/\(Fl s f i p).1.length<=20/\s.drop i=Br q ++ s.drop (Fl s f i p).2/\(Fl s f i p).2<=s.length
 | 0,s,i,p,_,hi,hp=>⟨[],by simp[Fl],by simp,by simpa[Fl] using hp,by simp[Fl,Br],by simpa[Fl] using hi⟩
 | f+1,s,i,p,h0,hi,hp=>by
  rw[Fl];split
  ·rename_i hc;obtain ⟨c1,c2,c3⟩:=hc;obtain ⟨g1,g2⟩:=Kar h0 c3;have hle:=Jzk hi;obtain ⟨q,k1,k2,k3,k4,k5⟩:=J3d f s (i+(Ee s i).2) (p ++ [(Ee s i).1]) omg hle (by simp;omega);refine ⟨(Ee s i).1 :: q,by rw[k1];simp,fun x hx=>?_,k3,?_,k5⟩
   ·rcases Eam.1 hx with rfl | hx
    ·exact g1
    ·exact k2 x hx
   ·have e:Br ((Ee s i).1 :: q)=Bv (Ee s i).1 ++ Br q:=rfl;rw[e,<- g2,Ea2,<- k4,<- Ea7,Eb0]
  ·exact ⟨[],by simp,by simp,hp,by simp[Br],hi⟩
theorem Kb0 {s:List UInt8} (h:(Je s).2.2=0):(Je s).2.1=0/\E9 (Je s).1/\Hy (Je s).1=s:=by
 unfold Je at h ⊢;by_cases h1:s=[46]
 ·rw[if_pos h1];exact ⟨rfl,⟨by simp,by simp⟩,by rw[h1];rfl⟩
 ·rw[if_neg h1] at h ⊢;split at h
  ·cases h
  ·rename_i hc;rw[if_neg hc];simp only[not_or,Nat.not_lt] at hc;obtain ⟨c1,c2⟩:=hc;refine ⟨rfl,?_⟩;simp only;unfold Mp at c1 c2 ⊢;rw[Fl] at c1 c2 ⊢;split at c2
   ·rename_i hd;rw[if_pos hd] at c1 ⊢;obtain ⟨d1,_,d3⟩:=hd;have hle:=Jzk (s:=s) (i:=0) (Eat _);obtain ⟨q,k1,k2,k3,k4,k5⟩:=J3d s.length s (0+(Ee s 0).2) ([] ++ [(Ee s 0).1]) omg hle sm;have hend:(Fl s s.length (0+(Ee s 0).2) ([] ++ [(Ee s 0).1])).2=s.length:=by omega
    rw[hend,List.drop_length,Ea5] at k4;rw[k1] at k3 ⊢;simp only[List.nil_append,Ea8,Ebm] at *
    unfold Ee at d3 k4 k3 ⊢;simp only[Ebw] at d3 k4 k3 ⊢;by_cases hf:(Bw s).2≠0
    ·rw[if_pos hf] at k4 k3 ⊢;obtain ⟨f1,f2,f3,_⟩:=J1w hf;refine ⟨⟨k3,fun x hx=>?_⟩,?_⟩
     ·rcases Eam.1 hx with rfl | hx
      ·exact f1
      ·exact k2 x hx
     ·unfold Hy;simp only;rw[if_neg (by rw[f2];simp)];have e:Br ((Bw s).1 :: q)=Bv (Bw s).1 ++ Br q:=rfl;rw[e,<- f3,<- k4,Eb0]
    ·rw[if_neg hf,if_pos trivial] at d3 k4 k3 ⊢;split at d3
     ·rename_i hp;rw[if_pos hp] at k4 k3 ⊢;obtain ⟨p1,p2⟩:=hp;obtain ⟨f1,f2,f3,_⟩:=J4i p2;obtain ⟨r,rfl⟩:∃ r,s=46 :: r:=by
       cases s with
       | nil=>simp at p1
       | cons c r=>simp at p1;exact ⟨r,by rw[p1]⟩
      simp only[Eb7,Ebw] at *
      refine ⟨⟨k3,fun x hx=>?_⟩,?_⟩
      ·rcases Eam.1 hx with rfl | hx
       ·exact f1
       ·exact k2 x hx
      ·unfold Hy;simp only;rw[if_pos f2];have e:Br ((Ce r).1 :: q)=Bv (Ce r).1 ++ Br q:=rfl;rw[e,<- f3,<- k4,Eb0]
     ·exact absurd rfl d3
   ·simp at c2
theorem Kbt {s:List UInt8} (h:(Je s).2.2≠0):(Je s).2.2=1/\(Je s).1=[]/\(Je s).2.1<=s.length:=by
 unfold Je at h ⊢;by_cases h1:s=[46]
 ·rw[if_pos h1] at h;exact absurd rfl h
 ·rw[if_neg h1] at h ⊢;split at h
  ·rename_i hc;rw[if_pos hc];refine ⟨rfl,rfl,?_⟩;have key:∀ (f i:Nat) (p:List Step),i<=s.length->(Fl s f i p).2<=s.length:=by
    intro f
    induction f with
    | zero=>intro i p hi;exact hi
    | succ f ih =>
     intro i p hi;rw[Fl];split
     ·exact ih _ _ (Jzk hi)
     ·exact hi
   exact key _ _ _ (Eat _)
  ·exact absurd rfl h
end Go.LX
namespace Go.LX
open Go Go.RowKit Go.Proofs Go.Proofs.Tryz
attribute [local irreducible] Al SWP Bi
def Ih (v:List Node):Bool:=v.all fun n=>decide (n.s.length<=200) && decide (n.name.length<=200)
noncomputable def fewB (v:List Node) (m:Nat):Bool:=decide (v.length<=m) && (Ih v && Jw v)
structure EFit (n:Node):Prop where
 s:n.s.length<=9223372036854775807
 name:n.name.length<=9223372036854775807
 e0:-9223372036854775808<=n.e
 e1:n.e<=9223372036854775807
theorem Jbf {v:List Node} {i:Nat} {n:Node} (h:v[i]? = some n):Ih (v.take (i+1))=(Ih (v.take i) && (decide (n.s.length<=200) && decide (n.name.length<=200))):=by
 unfold Ih;rw[Ebh,h,List.all_append];simp
theorem Y1 {v:List Node} {i:Nat} {n:Node} (h:v[i]? = some n) (hn:¬ (n.s.length<=200/\n.name.length<=200)):Ih v=false:=by
 unfold Ih;rw[List.all_eq_false];exact ⟨n,Eae h,by simpa using hn⟩
theorem Ln (v:List Node) (m:Nat) (hm':m<=1000) (hv:v.length<=9223372036854775807) (hf:∀ n∈v,EFit n):Det cx 27 [.p (.sl (valL v)),.p (.int .i64 m)] [] (.p (.bool (fewB v m))) []:=by
 by_cases hl:v.length<=m
 ·have c0:((m:Int)<(v.length:Int))=False:=eq_false omg;(refine bgo func27 ?_;simp only[go_sem,simprocAttr,A7,c0]);refine SWP.loop (fun i:Nat=>⟨Ba 34 [(0,.p (.sl (valL v))),(1,.p (.int .i64 m)),(5,.p (.int .i64 i))],[]⟩) (fun i=>i<=v.length/\Ih (v.take i)=true) (fun i=>v.length - i) 0 Jqc ⟨Eat _,rfl⟩ ?_;rintro i ⟨h1,h2⟩;by_cases hi:¬ i<v.length
  ·have c1:((i:Int)<(v.length:Int))=False:=eq_false omg;rw[Ead omg] at h2;have hfit:∀ n∈v,NodeFit n:=fun n hn=>by
    have h3:=h2;unfold Ih at h3;have:=Eby.1 h3 n hn;simp only[Ea6,decide_eq_true_eq] at this;exact ⟨omg,omg,(hf n hn).e0,(hf n hn).e1⟩
   have hg:=c1;have w1:=c1;(refine lws ?_;simp only[go_sem,simprocAttr,A7,c1]);(repeat'(first|((refine Jqa (Jp v omg hfit) ?_);simp only[go_sem,simprocAttr])|fail));unfold fewB;rw[decide_eq_true hl,h2];simp
  ·have hi:=Eaw.1 hi;have c1:((i:Int)<(v.length:Int))=True:=eq_true omg;obtain ⟨n,hn⟩:∃ n,v[i]? = some n:=⟨_,Eaa hi⟩
   have hg:=U5 hn;have w1:=wj1 (i:=i) omg;have hfn:=hf n (Eae hn);have hsn:=hfn.s;have hnn:=hfn.name;(refine lws ?_;simp only[go_sem,simprocAttr,A7,c1,hg,w1]);(repeat'(apply iteI<;>intro h))
   all_goals first
    | (
     refine ⟨i+1,⟨omg,?_⟩,omg,Jqc⟩;rw[Jbf hn,h2];simp;omega)
    | (
     unfold fewB;rw[Y1 hn omg];simp)
 ·have c0:((m:Int)<(v.length:Int))=True:=eq_true omg;have c1:=c0;have hg:=c0;have w1:=c0;(refine bgo func27 ?_;simp only[go_sem,simprocAttr,A7,c0]);unfold fewB;rw[decide_eq_false hl];simp
theorem Jnl {v:List Node} {m:Nat}:fewB v m=true ↔ v.length<=m/\(∀ n∈v,n.s.length<=200/\n.name.length<=200)/\∃ t,okT t/\v=t.enc []:=by
 unfold fewB Ih;rw[Ea6,Ea6,decide_eq_true_eq,Iq,Eby];simp only[Ea6,decide_eq_true_eq];rfl
end Go.LX
namespace Go.LX
open Go Go.RowKit Go.Proofs
attribute [local irreducible] Al SWP Bi
def tOne:Tree:=.mk 2 [] false 0 .nil
def tTwo:Tree:=.mk 5 [] false 0 (.cons [] tOne (.cons [] tOne .nil))
def tObj:Tree:=.mk 6 [] false 0 (.cons [97] tTwo .nil)
def tSet:Tree:=.mk 6 [] false 0 (.cons [97] tOne .nil)
def ndL (k m:Int) (nm:List UInt8):List PV:=[.int .i64 k,.int .i64 m,.str nm,.str [],.bool false,.int .i64 0]
theorem vOne:valL (tOne.enc [])=[ndL 2 0 []]:=by simp[tOne,A6,Bl,valL,Node.cells,ndL,Forest.len]
theorem vSet:valL (tSet.enc [])=[ndL 6 1 [],ndL 2 0 [97]]:=by simp[tSet,tOne,A6,A0,Bl,valL,Node.cells,ndL,Forest.len]
def pA:List Step:=[⟨false,[97],0⟩,⟨true,[],0⟩,⟨false,[98,32,99],0⟩]
structure PathFit (p:List Step):Prop where
 len:p.length<=140737488355328
 name:∀ x∈p,x.name.length<=140737488355328
end Go.LX
namespace Go.LX
open Go Go.RowKit Go.Proofs Go.Proofs.Tryz
attribute [local irreducible] Al SWP Bi
structure ValFit (v:List Node):Prop where
 len:v.length<=140737488355328
 node:∀ n∈v,EFit n
theorem Fw {v:List Node} (hv:ValFit v) {m:Nat} (h:fewB v m=true):∃ t,okT t/\v=t.enc []/\(t.enc []).length<=m/\FitT t:=by
 obtain ⟨h1,h2,t,h3,rfl⟩:=Jnl.1 h;exact ⟨t,h3,rfl,h1,fun n hn=>⟨by have:=(h2 n hn).1;omega,by have:=(h2 n hn).2;omega,(hv.node n hn).e0,(hv.node n hn).e1⟩⟩
theorem Jz:Det cx 14 [.p .snil,.p .snil] [] (.p (.bool true)) []:=by
 (refine bgo func14 ?_;simp only[go_sem,simprocAttr]);refine SWP.loop (fun _:Nat=>⟨Ba 26 [(0,.p (.sl [])),(1,.p (.sl [])),(5,.p (.int .i64 0))],[]⟩) (fun _=>True) (fun _=>0) 0 Jqc trivial ?_;intro i _;(refine lws ?_;simp only[go_sem,simprocAttr])
 skip
end Go.LX
namespace Go.LX
open Go Go.Proofs Go.RowKit Go.ChangeShapes Go.WideShapes Go.ChangeAt
section
variable {H:Type} {enc:TypeId×Value->H} {P:Program}
theorem Kz (hl:laidOutB P=true) {W W':World} {sp:Nat->Bool}:∀ (ts:List TypeId) (vs:List Value) (ds:List (DataW H)) (ps:List MemPlace),(∀ t∈ts,P.readableRec t=true/\t<P.types.size) ->
  DataW.TrodAll enc P W 0 (fun _=>true) true ts vs ds ps->(∀ p∈ps,W.sameAt W' p)->(∀ p∈ps,sp p.block=true)->DataW.TrodAll enc P W' 0 sp true ts vs ds ps
 | [],vs,ds,ps,_,h,_,_=>by
  obtain ⟨rfl,rfl,rfl⟩:=trodAll_nil h;exact trodAll_mk0
 | t :: ts,vs,ds,ps,hr,h,hs,hb=>by
  obtain ⟨v,vs',d,ds',p,q,rfl,rfl,rfl,h0,h1⟩:=trodAll_cons h;have ht:=hr t Eag;exact trodAll_cons_mk (WideElems.Trod_stays hl ht.1 ht.2 h0 (fun x hx=>hs x (Ecc _ hx)) fun x hx=>hb x (Ecc _ hx))
   (Kz hl ts vs' ds' q (fun u hu=>hr u (Eah _ hu)) h1 (fun x hx=>hs x (Ec4 _ hx)) fun x hx=>hb x (Ec4 _ hx))
theorem M7 (hl:laidOutB P=true) {f:Func} {s:ChangeSpec} {b:TypeId} {W W':World} {args:Array Value} {ds gs:List (DataW H)} {before:List MemPlace} (hv:s.vars=[])
  (hrd:∀ t∈f.params.toList,P.readableRec t=true/\t<P.types.size) (hrt:f.resultTypes = #[b]) (hb:P.underlying b=some .bool)
  (hW:DataW.Whole enc P f.params.toList s.vars false W args.toList ds gs before) (hfn:s.fn H ds = { results:=[.lit (.bool true)],args:=ds }) (hbel:Below W.heap.size W W') :
  s.post enc P f false true false false W args (.bool true) W':=by
 have hW':=hW;have hlt:∀ p∈before,p.block<W.heap.size:=fun p hp=>hW'.lt p hp
 obtain ⟨p,q,hA,hV,rfl,hfz,hnd⟩:=hW;rw[hv] at hV;obtain ⟨rfl,rfl⟩:=trodVars_none hV;simp only[Ea5] at hlt;refine ⟨ds,[],p ++ [],[],p,[],hW',?_,?_,?_,hbel.frame _,fun h=>by cases h⟩
 ·rw[Ea5,hfn,hrt];exact trodAll_mk1 (shut_bool hb _)
 ·rw[Ea5,hfn];exact Kz hl _ _ _ _ hrd hA (fun x hx=>hbel.same (hlt x hx)) fun x hx=>by simpa using hlt x hx
 ·rw[Ea5,hfn,hv];rfl
end
end Go.LX
namespace Go.LX
open Go Go.Proofs Go.RowKit Go.ChangeShapes Go.WideShapes Go.ChangeAt Go.Lib
def Ja (W:World) (b:Nat):Prop:=b<W.heap.size
theorem Jkw {α:Type} {Q:Nat->α->Prop}:∀ n,(∀ i,i<n->∃ x,Q i x)->∃ p:List α,p.length=n/\∀ i x,p[i]? = some x->Q i x
 | 0,_=>⟨[],rfl,fun i x h=>by simp at h⟩
 | n+1,h=>by
  obtain ⟨p,hp,hq⟩:=Jkw n fun i hi=>h i omg
  obtain ⟨x,hx⟩:=h n omg;refine ⟨p ++ [x],by simp[hp],fun i y hy=>?_⟩;rcases Nat.lt_trichotomy i n with hi | hi | hi
  ·rw[Ear omg] at hy;exact hq i y hy
  ·subst hi;rw[Eaq omg,hp] at hy;simp at hy;subst hy;exact hx
  ·rw[Ece (by simp[hp];omega)] at hy;cases hy
theorem J8 {H:Type} {P:Program} {e:TypeId} {d:DataW H} {n:Nat}:∀ {l:List (DataW H)},d∈l->n∈d.weights P e->n∈DataW.weightsAll P e l
 | [],h,_=>by cases h
 | a :: l,h,hn=>by
  simp only[DataW.weightsAll,Eau];rcases Eam.1 h with rfl | h
  ·exact .inl hn
  ·exact .inr (J8 h hn)
theorem Jka (b off k:Nat):(⟨b,off,none⟩:Addr).add k=⟨b,off+k,none⟩:=by
 unfold Addr.add;split
 ·rename_i h;subst h;rfl
 ·rfl
theorem openIn {α H:Type} {enc:TypeId×Value->H} {P:Program} {w:World} {t e:TypeId} {c:Nat} (vals:α->List Value) (cells:α->List PV) (Good:α->Prop)
  (ht:P.underlying t=some (.slice e)) (hc:P.cellsOf e=c) (hc0:0<c) (hb:0<P.bytesOf e) (hvl:∀ x,(vals x).length=c) (hcl:∀ x,(cells x).length=c) (hsc:∀ x,∀ p∈cells x,p.scalar=true)
  (hrep:∀ x j p,Good x->(cells x)[j]? = some p->PRep w (Ja w) ((vals x).getD j undef) p)
  (each:∀ (fuel:Nat) (cs:List Value) (y:DataW H×List MemPlace),DataW.trod enc P w 0 (fun _=>true) true fuel e cs=some y->(∀ n∈y.1.weights P e,n<=reachBytes)->∃ x,Good x/\cs=vals x)
  {cs:List Value} {fuel:Nat} {x:DataW H×List MemPlace} (h:DataW.trod enc P w 0 (fun _=>true) true fuel t cs=some x) (hz:∀ n∈x.1.weights P t,n<=reachBytes) :
  ∃ (v:Value) (p:List α),cs=[v]/\p.length<=140737488355328/\(∀ a∈p,Good a)/\PRep w (Ja w) v (.sl (p.map cells)):=by
 rcases Go.Deep.open_slice ht h with ⟨rfl,rfl⟩ | ⟨a,len,cap,m,n,D,Pl,rfl,hb0,hl,hm,hmm,rfl,hx⟩
 ·exact ⟨_,[],rfl,by simp,by simp,PRep.slNil⟩
 ·simp only[if_true] at hmm;subst hmm;by_cases h0:m=0
  ·subst h0;obtain rfl:len=0:=by omega
   exact ⟨_,[],rfl,by simp,by simp,PRep.slNil⟩
  obtain ⟨blk,off,spot⟩:=a;obtain ⟨cs0,hc1,_⟩:=hx 0 omg;have h00:=(World.cells?_some hc1).2.2 0 omg;have hl0:=(World.cells?_some hc1).2.1;have hcell:(w.cell? ⟨blk,off,spot⟩).isSome=true:=by
   have e1:((⟨blk,off,spot⟩:Addr).add (0 * P.cellsOf e)).add 0=⟨blk,off,spot⟩:=by rw[Ec1];rfl
   rw[e1] at h00;rw[h00,Eaa omg];rfl
  have hsp:spot=none:=by
   unfold World.cell? at hcell;cases spot with
   | none=>rfl
   | some s=>split at hcell<;>simp at hcell
  subst hsp;have hblk:blk<w.heap.size:=by
   rcases Ede blk w.heap.size with h | h
   ·exact h
   ·unfold World.cell? at hcell;simp only[Array.getElem?_eq_none h] at hcell;simp at hcell
  have hreach:reachBytes<=140737488355328:=by decide
  have hlen:len<=140737488355328:=by
   have h1:=hz ((len+(m - len)) * P.bytesOf e) (by simp[DataW.weights,ht]);have h2:len<=(len+(m - len)) * P.bytesOf e:=by
    have:(len+(m - len)) * 1<=(len+(m - len)) * P.bytesOf e:=Nat.mul_le_mul_left _ hb;omega
   omega
  obtain ⟨p,hp,hq⟩:=Jkw (Q:=fun i x=>Good x/\w.cells? 0 ((⟨blk,off,none⟩:Addr).add (i * c)) c=some (vals x)) len fun i hi=>by
   obtain ⟨cs',h1,h2⟩:=hx i omg;rw[hc] at h1;obtain ⟨x,hg,rfl⟩:=each n cs' _ h2 (fun k hk=>hz k (by
    simp only[DataW.weights,ht,Eam,Eau];exact .inr (.inl (J8 (Eav.2 ⟨i,List.mem_range.2 hi,rfl⟩) hk))))
   exact ⟨x,hg,h1⟩
  refine ⟨_,p,rfl,omg,fun a ha=>?_,?_⟩
  ·obtain ⟨i,hi⟩:=Ebr ha;exact (hq i a hi).1
  ·have e2:len=(p.map cells).length:=by simp[hp]
   have key:=PRep.sl (w:=w) (Im:=Ja w) blk off m c (p.map cells) (by rw[<- e2];exact hl) hblk (fun i j=>match p[i]? with | some x=>(vals x).getD j undef | none=>undef)
    (fun r hr=>by obtain ⟨x,_,rfl⟩:=Eav.1 hr;exact hcl x)
    (fun r hr=>by obtain ⟨x,_,rfl⟩:=Eav.1 hr;exact hsc x)
    (fun i hi j hj=>by
     rw[<- e2] at hi;obtain ⟨x,hx'⟩:∃ x,p[i]? = some x:=⟨_,Eaa omg⟩
     have h1:=(World.cells?_some (hq i x hx').2).2.2 j hj;rw[Go.Deep.add_add,Jka,<- Ebx] at h1;rw[h1,hx'];have h3:j<(vals x).length:=by rw[hvl];exact hj
     simp[Eai,Eaa h3])
    (fun i r j q hr hq'=>by
     rw[Eal] at hr;cases hx':p[i]? with
     | none=>rw[hx'] at hr;cases hr
     | some x =>
      rw[hx'] at hr;obtain rfl:=Ea9 hr;exact hrep x j q (hq i x hx').1 hq')
   rw[<- e2] at key;exact key
theorem Xx {α H:Type} {enc:TypeId×Value->H} {P:Program} {w:World} {t e:TypeId} {c:Nat} (vals:α->List Value) (cells:α->List PV) (Good:α->Prop)
  (ht:P.underlying t=some (.slice e)) (hc:P.cellsOf e=c) (hb:0<P.bytesOf e) (hvl:∀ x,(vals x).length=c) (hcl:∀ x,(cells x).length=c) (hsc:∀ x,∀ p∈cells x,p.scalar=true)
  (hrep:∀ (Im:Nat->Prop) x j p,(cells x)[j]? = some p->PRep w Im ((vals x).getD j undef) p)
  (each:∀ (fuel:Nat) (cs:List Value) (y:DataW H×List MemPlace),DataW.trod enc P w 0 (fun _=>true) true fuel e cs=some y->(∀ n∈y.1.weights P e,n<=reachBytes)->∃ x,Good x/\cs=vals x)
  {b:Nat} {v:Value} (hok:Cell.okWide P w .any b t v) {fuel:Nat} {x:DataW H×List MemPlace} (h:DataW.trod enc P w 0 (fun _=>true) true fuel t [v]=some x) (hz:∀ n∈x.1.weights P t,n<=reachBytes) (hc0:0<c:=by decide) :
  ∃ p:List α,p.length<=140737488355328/\(∀ a∈p,Good a)/\PRep w (Ja w) v (.sl (p.map cells)):=by
 obtain ⟨v',p,e1,h1,h2,h3⟩:=openIn vals cells Good ht hc hc0 hb hvl hcl hsc (fun x j p _ h=>hrep _ x j p h) each h hz;cases e1;exact ⟨p,h1,h2,h3⟩
end Go.LX
namespace Go.LX
open Go Go.Proofs Go.Proofs.Tryz Go.RowKit Go.ChangeShapes Go.WideShapes Go.ChangeAt Go.Lib
open Go.Proofs.YtaghbedfogiopaaGreatDoor
theorem Mc {P:Program} {w:World} {x:String×DataW Unit} {l:List (String×DataW Unit)} (h:laidMet P (x :: l) w):laidMet P l w:=by
 obtain ⟨ps,h1,h2,h3⟩:=h;obtain ⟨n,d⟩:=x;obtain ⟨g,t,cs,fuel,p,q,_,_,_,_,h5,rfl⟩:=h1;exact ⟨q,h5,(Ecd.1 h2).2.1,fun b off hb=>h3 b off (Ec4 _ hb)⟩
theorem Jc3 (x:ByteArray):(⟨⟨x.data.toList⟩⟩:ByteArray)=x:=by rcases x with ⟨⟨l⟩⟩;rfl
theorem T8 (s:ByteArray):s.data.toList.length=s.size:=by simp
theorem Jci {P:Program} {w:World} {sp:Nat->Bool} {t:TypeId} {cs:List Value} {nm:String} {d:DataW Unit} {p:List MemPlace} {u:TypeDesc} (ht:P.underlying t=some u) (hu:∃ m,u=.interface m) :
  ∀ {fuel:Nat},DataW.trod (fun _=>()) P w 0 sp false fuel t cs=some (.iface nm d,p)->∃ te pe,cs=[.iface te pe]
 | 0,h=>by simp[DataW.trod] at h
 | fuel+1,h=>by
  obtain ⟨m,rfl⟩:=hu;rcases cs with _ | ⟨c,_ | ⟨c2,cs⟩⟩
  ·simp[DataW.trod,ht] at h
  ·cases c<;>first|exact ⟨_,_,rfl⟩ | (simp[DataW.trod,ht] at h;done)
  ·simp[DataW.trod,ht] at h
theorem Xq {w:World} {n:String} {nm:String} {d:DataW Unit} {g:Nat} {t:TypeId} {u:TypeDesc} (h:VarReads Tryz.prog w n (.iface nm d)) (hg:Tryz.prog.globalNamed n=some g) (ht:(Tryz.prog.globals[g]?).map (·.type)=some t) (hu:Tryz.prog.underlying t=some u) (hi:∃ m,u=.interface m):Jk8 g w:=by
 obtain ⟨g',t',cs,fuel,p,h1,h2,h3,h4⟩:=h;obtain rfl:=Ea9 (hg.symm.trans h1);obtain rfl:=Ea9 (ht.symm.trans h2);obtain ⟨te,pe,e⟩:=Jci hu hi h4;refine ⟨te,pe,?_⟩;rw[World.var?_cell hg h3 0,<- Ebu,e];rfl
theorem gOwn:ownKnob Tryz.prog.godebug=none:=kr
theorem L2:laidOutB Tryz.prog=true:=kr
theorem gFirst:Go.Pinned.utf8First=firstData:=kr
theorem u8T:U8Types Tryz.prog Tryz_lays197_renX:=⟨by kernel_rfl,by kernel_rfl,by kernel_rfl,by kernel_rfl⟩
theorem u8X:U8Extra Tryz.prog Tryz_lays197_renX:=⟨by kernel_rfl,by kernel_rfl,by kernel_rfl,by kernel_rfl,by kernel_rfl,by kernel_rfl,by kernel_rfl⟩
def tz64:List Int:=Lib.deBruijn64tab.map fun n:Nat=>(n:Int)
theorem Kv {W:World} {n:String} {d:DataW Unit} {g:Nat} (h:VarReads Tryz.prog W n d) (hg:Tryz.prog.globalNamed n=some g):g<W.heap.size:=by
 obtain ⟨g',t',cs,fuel,p,h1,_,h3,_⟩:=h;obtain rfl:=Ea9 (hg.symm.trans h1);unfold World.var? at h3;rw[hg] at h3;simp only[Option.bind_some] at h3;rcases Ede g W.heap.size with h | h
 ·exact h
 ·rw[Array.getElem?_eq_none h] at h3;cases h3
theorem Jdp {W:World} (h:laidMetH Tryz.prog Rows.evalTellsRow.laid W):QuoteG W (Ja W):=by
 have h0:laidMet Tryz.prog Rows.evalTellsRow.laid W:=h;have h1:=Mc h0;have h2:=Mc h1;have r1:VarReads Tryz.prog W "unicode/utf8.first" Rows.laid_unicode_utf8_first:=laidMet.reads h0 (by simp[Rows.evalTellsRow]);have r2:VarReads Tryz.prog W "unicode/utf8.acceptRanges" Rows.laid_unicode_utf8_acceptRanges:=laidMet.reads h0 (by simp[Rows.evalTellsRow]);have r3:VarReads Tryz.prog W "strconv.ErrSyntax" Rows.laid_strconv_ErrSyntax:=laidMet.reads h0 (by simp[Rows.evalTellsRow]);have r4:VarReads Tryz.prog W "strconv.ErrRange" Rows.laid_strconv_ErrRange:=laidMet.reads h0 (by simp[Rows.evalTellsRow]);have r5:VarReads Tryz.prog W "math/bits.deBruijn64tab" Rows.laid_math_bits_deBruijn64tab:=laidMet.reads h0 (by simp[Rows.evalTellsRow]);have r6:VarReads Tryz.prog W "internal/strconv.uint64pow10" Rows.laid_internal_strconv_uint64pow10:=laidMet.reads h0 (by simp[Rows.evalTellsRow]);refine ⟨?_,?_,?_,?_,?_,Kv r1 kr,Kv r2 kr,Kv r3 kr,Kv r4 kr,Kv r5 kr,Kv r6 kr⟩
 ·have f1:VarReads Tryz.prog W "unicode/utf8.first" firstData:=by
   rw[<- gFirst];exact laidMet.reads h0 (by simp[Rows.evalTellsRow,Rows.laid_unicode_utf8_first])
  have f2:VarReads Tryz.prog W "unicode/utf8.acceptRanges" acceptData:=laidMet.reads h0 (by
   rw[show (acceptData:DataW Unit)=Rows.laid_unicode_utf8_acceptRanges by kernel_rfl];simp[Rows.evalTellsRow])
  exact utf8Tabs_of_readsT u8T u8X f1 f2
 ·exact Xq r3 kr kr underlying187 ⟨_,rfl⟩
 ·exact Xq r4 kr kr underlying187 ⟨_,rfl⟩
 ·have ht:TabIs Tryz.prog W "math/bits.deBruijn64tab" .u8 tz64:=tabIs_of_head (g:=7) (t:=260) (e:=5) (n:=64) kr kr kr kr kr kr (k:=.u8) (zs:=tz64) h1;intro j hj;have:=ht.cell (g:=7) kr j (by simpa[tz64] using hj);rw[this];simp[tz64,Eai,hj]
 ·exact tabIs_of_head (g:=2) (t:=229) (e:=191) (n:=20) kr kr kr kr kr kr (k:=.u64) (zs:=Lib.pow10Tab) h2
def Yw (d:DataW Unit):List Value:=match d with
 | .agg l=>l.flatMap fun x=>match x with
  | .lit (.int k n)=>[Value.int k n]
  | .agg l'=>l'.flatMap fun y=>match y with
   | .lit (.int k n)=>[Value.int k n]
   | _=>[]
  | _=>[]
 | _=>[]
noncomputable def D9 (os:Os):World :=
 let N:=(World.settled Tryz.prog os).heap.size;let w0:=World.holding Tryz.prog os ⟨#[
  .cells #[.string ⟨#[118,97,108,117,101,32,111,117,116,32,111,102,32,114,97,110,103,101]⟩] 264,.cells #[.string ⟨#[105,110,118,97,108,105,100,32,115,121,110,116,97,120]⟩] 264],#[],[]⟩
 let put (h:Array Obj) (g:Nat) (cs:Array Value):Array Obj:=h.modify g fun
  | .cells _ t frozen=>.cells cs t frozen
  | o=>o
 let h1:=put w0.heap 6 (Yw Rows.laid_math_bits_deBruijn32tab).toArray;let h2:=put h1 7 (Yw Rows.laid_math_bits_deBruijn64tab).toArray;let h3:=put h2 2 (Yw Rows.laid_internal_strconv_uint64pow10).toArray;let h4:=put h3 1 (Yw Rows.laid_unicode_utf8_acceptRanges).toArray;let h5:=put h4 5 #[.iface 262 (.pointer (some ⟨N,0,none⟩))];let h6:=put h5 4 #[.iface 262 (.pointer (some ⟨N+1,0,none⟩))];let h7:=put h6 0 (Yw Rows.laid_unicode_utf8_first).toArray
 { w0 with heap:=h7 }
theorem Ma (os:Os) (args:Array Value):laidMet Tryz.prog Rows.evalTellsRow.laid ((D9 os).forCall (fun _ _=>0) ⟨#[],args,[]⟩).memory :=
 laidMet_of_run' 8 kr kr
theorem trod_string {H:Type} {enc:TypeId×Value->H} {P:Program} {w:World} {base:Nat} {sp:Nat->Bool} {held:Bool} {t:TypeId} {s:List UInt8} {d:DataW H} {p:List MemPlace} (ht:P.underlying t=some .string) (h:DataW.Trod enc P w base sp held t (.string ⟨⟨s⟩⟩) d p):d=.lit (.string s):=by
 obtain ⟨fuel,h⟩:=h;cases fuel with
 | zero=>simp[DataW.trod] at h
 | succ f =>
  simp only[DataW.trod,ht,Value.cells] at h;split at h
  ·simp at h;exact h.1.symm
  ·cases h
theorem Kk0:Tryz.prog.cellsOf 4=1:=kr
theorem cStr:Tryz.prog.cellsOf 9=1:=kr
theorem cInt:Tryz.prog.cellsOf 3=1:=kr
theorem cStep:Tryz.prog.cellsOf 63=3:=kr
theorem Kf7:Tryz.prog.cellsOf 36=6:=kr
theorem bStep:0<Tryz.prog.bytesOf 63:=by decide +kernel
theorem bNode:0<Tryz.prog.bytesOf 36:=by decide +kernel
def Step.vals (x:Step):List Value:=[.bool x.part,.string ⟨⟨x.name⟩⟩,.int .i64 x.n]
def Node.vals (n:Node):List Value:=[.int .i64 n.kind,.int .i64 n.many,.string ⟨⟨n.name⟩⟩,.string ⟨⟨n.s⟩⟩,.bool n.neg,.int .i64 n.e]
theorem Jk6 {H:Type} {enc:TypeId×Value->H} {w:World} (fuel:Nat) (cs:List Value) (y:DataW H×List MemPlace) (h:DataW.trod enc Tryz.prog w 0 (fun _=>true) true fuel 63 cs=some y) (hz:∀ n∈y.1.weights Tryz.prog 63,n<=reachBytes) :
  ∃ x:Step,x.name.length<=140737488355328/\cs=x.vals:=by
 obtain ⟨xs,n,_,rfl,hl,hlen,hf⟩:=DataW.trod_struct underlying63 h;rw[cStep] at hl
 match xs,hlen,cs,hl with
 | [y0,y1,y2],_,[a,b,c],_ =>
  have g0:=hf 0 _ rfl;have g1:=hf 1 _ rfl;have g2:=hf 2 _ rfl;simp only[Kk0,cStr,cInt,Ebw,Eb7,Ebl,Eb4,List.getElem?_cons_zero,List.getElem?_cons_succ] at g0 g1 g2;obtain ⟨x0,e0,rfl⟩:=DataW.trod_bool underlying4 g0;obtain ⟨x1,e1,rfl,_⟩:=DataW.trod_string underlying9 g1;obtain ⟨x2,e2,rfl,_⟩:=DataW.trod_int underlying3 g2;cases e0;cases e1;cases e2;refine ⟨⟨x0,x1.data.toList,x2⟩,?_,?_⟩
  ·have h1:=hz x1.data.toList.length (by simp[DataW.weights,DataW.weightsEach,underlying63]);have hreach:reachBytes<=140737488355328:=by decide
   exact Nat.le_trans h1 hreach
  ·simp only[Step.vals,Jc3]
theorem Jly {H:Type} {enc:TypeId×Value->H} {w:World} (fuel:Nat) (cs:List Value) (y:DataW H×List MemPlace) (h:DataW.trod enc Tryz.prog w 0 (fun _=>true) true fuel 36 cs=some y) (_:∀ n∈y.1.weights Tryz.prog 36,n<=reachBytes) :
  ∃ x:Node,EFit x/\cs=x.vals:=by
 obtain ⟨xs,n,_,rfl,hl,hlen,hf⟩:=DataW.trod_struct underlying36 h;rw[Kf7] at hl
 match xs,hlen,cs,hl with
 | [y0,y1,y2,y3,y4,y5],_,[a0,a1,a2,a3,a4,a5],_ =>
  have g0:=hf 0 _ rfl;have g1:=hf 1 _ rfl;have g2:=hf 2 _ rfl;have g3:=hf 3 _ rfl;have g4:=hf 4 _ rfl;have g5:=hf 5 _ rfl;simp only[Kk0,cStr,cInt,Ebw,Eb7,Ebl,Eb4,List.getElem?_cons_zero,List.getElem?_cons_succ] at g0 g1 g2 g3 g4 g5;obtain ⟨x0,e0,rfl,_⟩:=DataW.trod_int underlying3 g0;obtain ⟨x1,e1,rfl,_⟩:=DataW.trod_int underlying3 g1;obtain ⟨x2,e2,rfl,z2⟩:=DataW.trod_string underlying9 g2;obtain ⟨x3,e3,rfl,z3⟩:=DataW.trod_string underlying9 g3;obtain ⟨x4,e4,rfl⟩:=DataW.trod_bool underlying4 g4;obtain ⟨x5,e5,rfl,z5⟩:=DataW.trod_int underlying3 g5;cases e0;cases e1;cases e2;cases e3;cases e4;cases e5;have hm:maxLen=9223372036854775807:=by decide
  have k1:IntKind.i64.min = -9223372036854775808:=by decide
  have k2:IntKind.i64.max=9223372036854775807:=by decide
  simp only[Lit.wf,Ea6,decide_eq_true_eq,k1,k2] at z5;have s2:=T8 x2;have s3:=T8 x3;refine ⟨⟨x0,x1,x2.data.toList,x3.data.toList,x4,x5⟩,⟨?_,?_,z5.1,z5.2⟩,?_⟩
  ·show x3.data.toList.length<=_;omega
  ·show x2.data.toList.length<=_;omega
  ·simp only[Node.vals,Jc3]
theorem Jmi (w:World) (Im:Nat->Prop) (x:Step) (j:Nat) (p:PV) (h:x.cells[j]? = some p):PRep w Im (x.vals.getD j undef) p:=by
 match j,h with
 | 0,h=>cases h;exact PRep.bool _
 | 1,h=>cases h;exact PRep.str _
 | 2,h=>cases h;exact PRep.int _ _
 | j+3,h=>simp[Step.cells] at h
theorem Ji6 (w:World) (Im:Nat->Prop) (x:Node) (j:Nat) (p:PV) (h:x.cells[j]? = some p):PRep w Im (x.vals.getD j undef) p:=by
 match j,h with
 | 0,h=>cases h;exact PRep.int _ _
 | 1,h=>cases h;exact PRep.int _ _
 | 2,h=>cases h;exact PRep.str _
 | 3,h=>cases h;exact PRep.str _
 | 4,h=>cases h;exact PRep.bool _
 | 5,h=>cases h;exact PRep.int _ _
 | j+6,h=>simp[Node.cells] at h
theorem Z7 {H:Type} {enc:TypeId×Value->H} {w:World} {b:Nat} {v:Value} (hok:Cell.okWide Tryz.prog w .any b 33 v) {fuel:Nat} {x:DataW H×List MemPlace} (h:DataW.trod enc Tryz.prog w 0 (fun _=>true) true fuel 33 [v]=some x) (hz:∀ n∈x.1.weights Tryz.prog 33,n<=reachBytes) :
  ∃ p:List Step,PathFit p/\PRep w (Ja w) v (.sl (Bb p)):=by
 obtain ⟨p,h1,h2,h3⟩:=Xx Step.vals Step.cells (fun x=>x.name.length<=140737488355328) underlying33 cStep bStep (fun _=>rfl) (fun _=>rfl) (fun x p hp=>by simp[Step.cells] at hp;rcases hp with rfl | rfl | rfl<;>rfl) (Jmi w) Jk6 hok h hz;exact ⟨p,⟨h1,h2⟩,h3⟩
theorem Vt {H:Type} {enc:TypeId×Value->H} {w:World} {b:Nat} {v:Value} (hok:Cell.okWide Tryz.prog w .any b 25 v) {fuel:Nat} {x:DataW H×List MemPlace} (h:DataW.trod enc Tryz.prog w 0 (fun _=>true) true fuel 25 [v]=some x) (hz:∀ n∈x.1.weights Tryz.prog 25,n<=reachBytes) :
  ∃ p:List Node,ValFit p/\PRep w (Ja w) v (.sl (valL p)):=by
 obtain ⟨p,h1,h2,h3⟩:=Xx Node.vals Node.cells EFit underlying25 Kf7 bNode (fun _=>rfl) (fun _=>rfl) (fun x p hp=>by simp[Node.cells] at hp;rcases hp with rfl | rfl | rfl | rfl | rfl | rfl<;>rfl) (Ji6 w) Jly hok h hz;exact ⟨p,⟨h1,h2⟩,h3⟩
theorem Jkh {P:Program} {W:World} {r:Reach} {b:Nat} {t e:TypeId} {v:Value} (ht:P.underlying t=some (.slice e)) (h:Cell.okWide P W r b t v):v.cells.toList=[v]:=by
 simp only[Cell.okWide,Cell.ok,ht] at h;cases v<;>first|rfl | (simp at h;done)
theorem J0 {H:Type} {P:Program} {ts:List TypeId} {ds:List (DataW H)} (hz:(DataW.weightsEach P ts ds).all (· <= reachBytes)=true) {j:Nat} {t:TypeId} {d:DataW H} (h1:ts[j]? = some t) (h2:ds[j]? = some d):∀ n∈d.weights P t,n<=reachBytes:=fun n hn=>by
 simpa using Eby.1 hz n (DataW.weights_mem_each h1 h2 n hn)
theorem Kk2 {H:Type} {enc:TypeId×Value->H} {w:World} {b:Nat} {v:Value} {d:DataW H} {q:List MemPlace} {ts:List TypeId} {ds:List (DataW H)} (hok:Value.okWide Tryz.prog w .any b 33 v) (h:DataW.Trod enc Tryz.prog w 0 (fun _=>true) true 33 v d q)
  (hz:(DataW.weightsEach Tryz.prog ts ds).all (· <= reachBytes)=true) {j:Nat} (h1:ts[j]? = some 33) (h2:ds[j]? = some d):∃ p:List Step,PathFit p/\PRep w (Ja w) v (.sl (Bb p)):=by
 simp only[Value.okWide,underlying33] at hok;obtain ⟨fuel,h⟩:=h;rw[Jkh underlying33 hok] at h;exact Z7 hok h (J0 hz h1 h2)
theorem N3 {H:Type} {enc:TypeId×Value->H} {w:World} {b:Nat} {v:Value} {d:DataW H} {q:List MemPlace} {ts:List TypeId} {ds:List (DataW H)} (hok:Value.okWide Tryz.prog w .any b 25 v) (h:DataW.Trod enc Tryz.prog w 0 (fun _=>true) true 25 v d q)
  (hz:(DataW.weightsEach Tryz.prog ts ds).all (· <= reachBytes)=true) {j:Nat} (h1:ts[j]? = some 25) (h2:ds[j]? = some d):∃ p:List Node,ValFit p/\PRep w (Ja w) v (.sl (valL p)):=by
 simp only[Value.okWide,underlying25] at hok;obtain ⟨fuel,h⟩:=h;rw[Jkh underlying25 hok] at h;exact Vt hok h (J0 hz h1 h2)
theorem Jo3:Tryz.prog.cellsOf 33=1:=kr
theorem J5d {P:Program} (h:P.funcs.any Func.goes=false) (f:FuncId):P.goes f=false:=by
 unfold Program.goes;rw[h,Bool.and_false,Bool.or_false,List.any_eq_false];intro g _ hg;cases hf:P.funcs[g]? with
 | none=>rw[hf] at hg;cases hg
 | some fn =>
  rw[hf] at hg;rw[Array.any_eq_false] at h;obtain ⟨i,rfl⟩:=Eaz.1 hf;exact h g i hg
theorem goesBy_none {P:Program} (h:P.funcs.any Func.goes=false) (c:OpenClaim):false=c.goesBy P:=by
 unfold OpenClaim.goesBy Program.goesAt Program.goesFrom;have h1:(P.funcNamed c.func).any P.goes=false:=by
  cases P.funcNamed c.func with
  | none=>rfl
  | some f=>exact J5d h f
 rw[h1,Bool.false_or];split
 ·rfl
 ·symm;rw[List.any_eq_false];intro g _ hg;rw[J5d h g] at hg;cases hg
theorem noGoes:Tryz.pinned.checked.prog.funcs.any Func.goes=false:=kr
end Go.LX
namespace Go.LX
def Jr9 (s:List UInt8):List UInt8:=s.dropWhile (· == 48)
def Jqy (s:List UInt8):List UInt8:=(s.reverse.dropWhile (· == 48)).reverse
theorem Jy3 (c:UInt8) (l:List UInt8):at_ (c :: l) 0=c.toNat:=by simp[at_]
theorem Jyx (l:List UInt8) (c:UInt8):at_ (l ++ [c]) l.length=c.toNat:=by simp[at_,Eai]
theorem J6p {u:List UInt8} (h:0<u.length):∃ l c,u=l ++ [c]:=by
 have hne:u≠[]:=by intro hu;subst hu;simp at h
 exact ⟨u.dropLast,u.getLast hne,(List.dropLast_concat_getLast hne).symm⟩
end Go.LX
namespace Go.LX
open Go Go.RowKit Go.Proofs Go.Lib
def J7r (c:UInt8):Bool:=decide (48<=c.toNat) && decide (c.toNat<=57)
def Jqr (s:List UInt8):Bool:=s.all J7r
def figR (r:Nat):Bool:=decide (48<=r) && decide (r<=57)
end Go.LX
namespace Go.LX

end Go.LX
namespace Go.LX
open Go Go.Proofs
abbrev Node.pv (n:Node):List PV:=n.cells
theorem Jth (n:Node):n.pv=[.int .i64 n.kind,.int .i64 n.many,.str n.name,.str n.s,.bool n.neg,.int .i64 n.e]:=(rfl)
def J1b (many e:Int):Bool:=decide (-1000<=e) && decide (e<=1000) && decide (many+e<=1000)
def numRight (n:Node):Bool :=
 if ¬ n.kind=3 then false else if ¬ n.many=0 then false else if ¬ n.name.length=0 then false else if Jqr n.s=false then false else if 100<(n.s.length:Int) then false else
 if n.e < -1000 then false else if 1000<n.e then false else if 1000<(n.s.length:Int)+n.e then false else
 if n.s.length=0 then (if n.neg=false then n.e == 0 else false) else (if ¬ (at_ n.s 0:Int)=48 then ((at_ n.s (n.s.length - 1):Int) != 48) else false)
def cmpI (a b:Int):Int:=if a<b then -1 else if b<a then 1 else 0
def cmpS (a b:List UInt8):Int:=if Op.bytesLess a b=true then -1 else if (Op.bytesLess a b || a == b)=false then 1 else 0
def Jt3:Node:=⟨0,0,[],[],false,0⟩
def make (neg:Bool) (s:List UInt8) (e:Int):Node×Int :=
 if Jqr s=false then (Jt3,4) else
 if (Jr9 s).length=0 then ({ Jt3 with kind:=3 },0) else
 if e < -100000000 then (Jt3,2) else if 100000000<e then (Jt3,2) else
 let t:=Jqy (Jr9 s);let e':=e+((Jr9 s).length - t.length)
 if 100<(t.length:Int) then (Jt3,2) else if e' < -1000 then (Jt3,2) else if 1000<(t.length:Int)+e' then (Jt3,2) else
 ({ Jt3 with kind:=3,s:=t,neg:=neg,e:=e' },0)
def Jxi (a b:Node):Int :=
 if a.s.length=0 then cmpI a.s.length b.s.length else if b.s.length=0 then cmpI a.s.length b.s.length else
 if ¬ cmpI (a.s.length+a.e) (b.s.length+b.e)=0 then cmpI (a.s.length+a.e) (b.s.length+b.e) else cmpS a.s b.s
def Jwe (a b:Node):Int :=
 if a.neg=true/\b.neg=false then -1 else if b.neg=true/\a.neg=false then 1 else if a.neg=true then Jxi b a else Jxi a b
structure Node.small (n:Node):Prop where
 s:n.s.length<=1000000
 e1:-1000000<=n.e
 e2:n.e<=1000000
def Js1 (n:Node) (p:Int):Int :=
 let i:=(n.s.length:Int) - 1 - (p - n.e)
 if i<0 then 0 else if (n.s.length:Int)<=i then 0 else ((at_ n.s i.toNat:Int) - 48) % 256
def Jtn (f g:Int->Int) (side:Int):Nat->Int->Int
 | 0,_=>0
 | n+1,p=>if f p<g p then -side else if g p<f p then side else Jtn f g side n (p - 1)
def Juc (a b:Node):Int :=
 let side:=if a.neg=true then -1 else 1
 if a.neg != b.neg then side else
 let top:=max ((a.s.length:Int)+a.e) (b.s.length+b.e)
 Jtn (Js1 a) (Js1 b) side (top - min a.e b.e+1).toNat top
def J9n (n:Node):List UInt8:=if n.neg=true then [45] else []
def Keq (n:Node):List UInt8 :=
 if n.s.length=0 then [48] else
 if 0<=n.e/\(n.s.length:Int)+n.e<=20 then J9n n ++ n.s ++ Lib.repeatL [48] n.e.toNat else
 if n.e<0/\-20<=n.e then
  J9n n ++ (Lib.repeatL [48] (1 - n.e - n.s.length).toNat ++ n.s).take (((Lib.repeatL [48] (1 - n.e - n.s.length).toNat ++ n.s).length:Int)+n.e).toNat ++ [46] ++ (Lib.repeatL [48] (1 - n.e - n.s.length).toNat ++ n.s).drop (((Lib.repeatL [48] (1 - n.e - n.s.length).toNat ++ n.s).length:Int)+n.e).toNat
 else J9n n ++ n.s ++ [101] ++ Lib.itoa n.e
def val (l:List UInt8):Int:=l.foldl (fun n c=>n * 10+((c.toNat:Int) - 48)) 0
end Go.LX
namespace Go.Proofs
open Go.Shelf
end Go.Proofs
set_option maxRecDepth 100000
set_option maxHeartbeats 2000000
namespace Go.LX
open Go Go.RowKit Go.Proofs Go.Proofs.Tryz
attribute [local irreducible] Al SWP Bi
theorem J83 (a:Int):Det cx 153 [.p (.int .i64 a)] [] (.p (.bool false)) []:=by
 (refine bgo func153 ?_;simp only[go_sem,simprocAttr])
theorem J8z (a:List UInt8):Det cx 155 [.p (.str a)] [] (.p (.bool false)) []:=by
 (refine bgo func155 ?_;simp only[go_sem,simprocAttr])
theorem Jx2 (a b:Int):Det cx 115 [.p (.int .i64 a),.p (.int .i64 b)] [] (.p (.int .i64 (cmpI a b))) []:=by
 (refine bgo func115 ?_;simp only[go_sem,simprocAttr]);(repeat'(first|(apply iteI<;>intro h)|((refine Jqa (J83 _) ?_);simp only[go_sem,simprocAttr])|fail))
 all_goals simp[cmpI, *]
theorem J9j (a b:List UInt8):Det cx 117 [.p (.str a),.p (.str b)] [] (.p (.int .i64 (cmpS a b))) []:=by
 (refine bgo func117 ?_;simp only[go_sem,simprocAttr]);(repeat'(first|(apply iteI<;>intro h)|((refine Jqa (J8z _) ?_);simp only[go_sem,simprocAttr])|fail))
 all_goals simp_all[cmpS]
end Go.LX
namespace Go.LX
open Go Go.RowKit Go.Proofs Go.Proofs.Tryz
attribute [local irreducible] Al SWP Bi
theorem Kfr (a b:Node) (ha:a.small) (hb:b.small):Det cx 154 [.p (.agg a.pv),.p (.agg b.pv)] [] (.p (.int .i64 (Jxi a b))) []:=by
 obtain ⟨a1,a2,a3⟩:=ha;obtain ⟨b1,b2,b3⟩:=hb;(refine bgo func154 ?_;simp only[go_sem,simprocAttr,Jth]);simp (disch:=omega) only [Aa];(repeat'(first|(apply iteI<;>intro h)|((first|(refine Jqa (Jx2 _ _) ?_)|(refine Jqa (J9j _ _) ?_));simp only[go_sem,simprocAttr])|fail))
 all_goals simp_all[Jxi]
theorem Kdu (a b:Node) (ha:a.small) (hb:b.small):Det cx 116 [.p (.agg a.pv),.p (.agg b.pv)] [] (.p (.int .i64 (Jwe a b))) []:=by
 (refine bgo func116 ?_;simp only[go_sem,simprocAttr,Jth]);(repeat'(first|(apply iteI<;>intro h)|((first|(refine Jqa (Kfr a b ha hb) ?_)|(refine Jqa (Kfr b a hb ha) ?_));simp only[go_sem,simprocAttr])|fail))
 all_goals simp_all[Jwe]
theorem J1l (n:Node) (p:Int) (hn:n.small) (h1:-10000000<=p) (h2:p<=10000000):Det cx 156 [.p (.agg n.pv),.p (.int .i64 p)] [] (.p (.int .i64 (Js1 n p))) []:=by
 obtain ⟨a1,a2,a3⟩:=hn;(refine bgo func156 ?_;simp only[go_sem,simprocAttr,Jth]);simp (disch:=omega) only [Aa];(repeat'(first|(apply iteI<;>intro h)|refine Jqj ?_|fail))
 all_goals((try simp only[Be] at *)<;>(try rw[Aa omg omg]))
 all_goals simp[Js1, *]
theorem Kdw (a b:Node) (ha:a.small) (hb:b.small):Det cx 121 [.p (.agg a.pv),.p (.agg b.pv)] [] (.p (.int .i64 (Juc a b))) []:=by
 obtain ⟨a1,a2,a3⟩:=ha;obtain ⟨b1,b2,b3⟩:=hb;(refine bgo func121 ?_;simp only[go_sem,simprocAttr,Jth]);simp (disch:=omega) only [Aa];(repeat'(apply iteI<;>intro h))
 ·simp_all[Juc]
 ·refine SWP.loop (fun p:Int=>⟨Ba 56 [(2,.ptr 2 0 0),(3,.ptr 3 0 0),(5,.p (.int .i64 (-1))),(7,.p (.int .i64 p))],[(2,.var 36 (a.pv.map .p)),(3,.var 36 (b.pv.map .p))]⟩)
   (fun p=>min a.e b.e - 1<=p/\p<=max ((a.s.length:Int)+a.e) (b.s.length+b.e)/\Juc a b=Jtn (Js1 a) (Js1 b) (if a.neg=true then -1 else 1) (p - min a.e b.e+1).toNat p)
   (fun p=>(p - min a.e b.e+1).toNat) (max ((a.s.length:Int)+a.e) (b.s.length+b.e)) (Jqt (by simp only[Ap,Ar,Ao,Aj,Af,Nat.reduceEqDiff,reduceIte,Nat.reduceLT,Nat.reduceLeDiff];simp[Ai,Au]) (by simp[Az,A3,Aw,Am,Ai,Jth]) (by simp[Ay])) ⟨omg,omg,by simp_all[Juc]⟩ ?_
  rintro p ⟨g1,g2,g3⟩;have key:min a.e b.e<=p->Juc a b=if Js1 a p<Js1 b p then -(if a.neg=true then -1 else 1) else if Js1 b p<Js1 a p then (if a.neg=true then -1 else 1) else Jtn (Js1 a) (Js1 b) (if a.neg=true then -1 else 1) (p - 1 - min a.e b.e+1).toNat (p - 1):=by
   intro h;rw[g3,show (p - min a.e b.e+1).toNat=(p - 1 - min a.e b.e+1).toNat+1 by omega,Jtn]
  (refine lws ?_;simp only[go_sem,simprocAttr,Jth]);(repeat'(first|(apply iteI<;>intro h)|((first|refine Jqm ?_|(refine Jqb (J1l a p ⟨a1,a2,a3⟩ omg omg) ?_)|(refine Jqb (J1l b p ⟨b1,b2,b3⟩ omg omg) ?_));simp only[go_sem,simprocAttr])|fail))
  all_goals (try simp (disch:=omega) only [Aa,Qs,Ab,Jlh,Mf,Ja0,Jcc,Ja7,Jak] at *)
  ·(have hk:=key (by assumption);clear key g3;rw[hk];clear hk;simp_all<;>omega)
  ·(have hk:=key (by assumption);clear key g3;rw[hk];clear hk;simp_all<;>omega)
  ·exact ⟨p - 1,⟨omg,omg,by (have hk:=key (by assumption);clear key g3;rw[hk];clear hk;simp_all<;>omega)⟩,omg,(Jqt (by simp only[Ap,Ar,Ao,Aj,Af,Nat.reduceEqDiff,reduceIte,Nat.reduceLT,Nat.reduceLeDiff];simp[Ai,Au]) (by simp[Az,A3,Aw,Am,Ai,Jth]) (by simp[Ay]))⟩
  ·rw[g3,show (p - min a.e b.e+1).toNat=0 by omega];rfl
 ·simp_all[Juc]
 ·refine SWP.loop (fun p:Int=>⟨Ba 56 [(2,.ptr 2 0 0),(3,.ptr 3 0 0),(5,.p (.int .i64 1)),(7,.p (.int .i64 p))],[(2,.var 36 (a.pv.map .p)),(3,.var 36 (b.pv.map .p))]⟩)
   (fun p=>min a.e b.e - 1<=p/\p<=max ((a.s.length:Int)+a.e) (b.s.length+b.e)/\Juc a b=Jtn (Js1 a) (Js1 b) (if a.neg=true then -1 else 1) (p - min a.e b.e+1).toNat p)
   (fun p=>(p - min a.e b.e+1).toNat) (max ((a.s.length:Int)+a.e) (b.s.length+b.e)) (Jqt (by simp only[Ap,Ar,Ao,Aj,Af,Nat.reduceEqDiff,reduceIte,Nat.reduceLT,Nat.reduceLeDiff];simp[Ai,Au]) (by simp[Az,A3,Aw,Am,Ai,Jth]) (by simp[Ay])) ⟨omg,omg,by simp_all[Juc]⟩ ?_
  rintro p ⟨g1,g2,g3⟩;have key:min a.e b.e<=p->Juc a b=if Js1 a p<Js1 b p then -(if a.neg=true then -1 else 1) else if Js1 b p<Js1 a p then (if a.neg=true then -1 else 1) else Jtn (Js1 a) (Js1 b) (if a.neg=true then -1 else 1) (p - 1 - min a.e b.e+1).toNat (p - 1):=by
   intro h;rw[g3,show (p - min a.e b.e+1).toNat=(p - 1 - min a.e b.e+1).toNat+1 by omega,Jtn]
  (refine lws ?_;simp only[go_sem,simprocAttr,Jth]);(repeat'(first|(apply iteI<;>intro h)|((first|refine Jqm ?_|(refine Jqb (J1l a p ⟨a1,a2,a3⟩ omg omg) ?_)|(refine Jqb (J1l b p ⟨b1,b2,b3⟩ omg omg) ?_));simp only[go_sem,simprocAttr])|fail))
  all_goals (try simp (disch:=omega) only [Aa,Qs,Ab,Jlh,Mf,Ja0,Jcc,Ja7,Jak] at *)
  ·(have hk:=key (by assumption);clear key g3;rw[hk];clear hk;simp_all<;>omega)
  ·(have hk:=key (by assumption);clear key g3;rw[hk];clear hk;simp_all<;>omega)
  ·exact ⟨p - 1,⟨omg,omg,by (have hk:=key (by assumption);clear key g3;rw[hk];clear hk;simp_all<;>omega)⟩,omg,(Jqt (by simp only[Ap,Ar,Ao,Aj,Af,Nat.reduceEqDiff,reduceIte,Nat.reduceLT,Nat.reduceLeDiff];simp[Ai,Au]) (by simp[Az,A3,Aw,Am,Ai,Jth]) (by simp[Ay]))⟩
  ·rw[g3,show (p - min a.e b.e+1).toNat=0 by omega];rfl
end Go.LX
namespace Go.LX
open Go Go.Proofs
def dig (s:List UInt8):Nat:=s.foldl (fun n c=>n * 10+(c.toNat - 48)) 0
def digF (n:Nat) (s:List UInt8):Nat:=s.foldl (fun n c=>n * 10+(c.toNat - 48)) n
theorem J1g:∀ (s:List UInt8) (n:Nat),digF n s=n * 10 ^ s.length+dig s
 | [],n=>by simp[digF,dig]
 | c :: s,n=>by
  have h1:=J1g s (n * 10+(c.toNat - 48));have h2:=J1g s (0 * 10+(c.toNat - 48));have e:dig (c :: s)=digF (0 * 10+(c.toNat - 48)) s:=rfl;have e':digF n (c :: s)=digF (n * 10+(c.toNat - 48)) s:=rfl;rw[e,e',h1,h2,Eaf,Nat.pow_succ];have:(n * 10+(c.toNat - 48)) * 10 ^ s.length=n * (10 ^ s.length * 10)+(c.toNat - 48) * 10 ^ s.length:=by
   rw[Ebj,Ec3,Nat.mul_comm 10]
  rw[this];simp;omega
theorem Jvt (c:UInt8) (s:List UInt8):dig (c :: s)=(c.toNat - 48) * 10 ^ s.length+dig s:=by
 have e:dig (c :: s)=digF (0 * 10+(c.toNat - 48)) s:=rfl;rw[e,J1g];simp
theorem Jyf (s t:List UInt8):dig (s ++ t)=dig s * 10 ^ t.length+dig t:=by
 have:dig (s ++ t)=digF (dig s) t:=by simp[dig,digF,List.foldl_append]
 rw[this,J1g]
theorem Jsv {c:UInt8} {s:List UInt8}:Jqr (c :: s)=true ↔ (48<=c.toNat/\c.toNat<=57)/\Jqr s=true:=by
 simp[Jqr,J7r]
theorem Jsm {s t:List UInt8}:Jqr (s ++ t)=true ↔ Jqr s=true/\Jqr t=true:=by
 simp[Jqr,List.all_append]
theorem Jyc:∀ {s:List UInt8},Jqr s=true->dig s<10 ^ s.length
 | [],_=>by simp[dig]
 | c :: s,h=>by
  rw[Jsv] at h;have:=Jyc h.2;rw[Jvt,Eaf,Nat.pow_succ];have h9:(c.toNat - 48)<=9:=by omega
  have:=Ebb (10 ^ s.length) h9;omega
theorem dig_ge {c:UInt8} {s:List UInt8} (h:Jqr (c :: s)=true) (hc:c.toNat≠48):10 ^ s.length<=dig (c :: s):=by
 rw[Jsv] at h;rw[Jvt];have:1<=c.toNat - 48:=by omega
 have:=Ebb (10 ^ s.length) this;omega
theorem J8o {s:List UInt8} (h0:0<s.length) (hf:Jqr s=true) (hl:at_ s (s.length - 1)≠48):0<dig s/\dig s % 10≠0:=by
 obtain ⟨l,c,rfl⟩:=J6p h0;rw[Jsm] at hf;have hc:=(Jsv.1 hf.2).1;have e:(l ++ [c]).length - 1=l.length:=by simp
 rw[e,Jyx] at hl;rw[Jyf];have:dig [c]=c.toNat - 48:=by simp[dig]
 rw[this];simp only[Eaf,Ebe,Ebm,Nat.pow_one];omega
structure RightN (n:Node):Prop where
 kind:n.kind=3
 many:n.many=0
 name:n.name=[]
 figs:Jqr n.s=true
 len:n.s.length<=100
 e1:-1000<=n.e
 e2:n.e<=1000
 top:(n.s.length:Int)+n.e<=1000
 zero:n.s.length=0->n.neg=false/\n.e=0
 head:0<n.s.length->at_ n.s 0≠48
 last:0<n.s.length->at_ n.s (n.s.length - 1)≠48
theorem RightN.small {n:Node} (h:RightN n):n.small:=⟨by have:=h.len;omega,by have:=h.e1;omega,by have:=h.e2;omega⟩
def mag (n:Node):Nat:=dig n.s * 10 ^ (n.e+1000).toNat
def sv (n:Node):Int:=if n.neg=true then -(mag n:Int) else mag n
theorem Jz7 {n:Node} (h:RightN n):mag n<10 ^ (n.s.length+n.e+1000).toNat:=by
 have e:(n.s.length+n.e+1000).toNat=n.s.length+(n.e+1000).toNat:=by have:=h.e1;omega
 rw[e,Ecw];exact Nat.mul_lt_mul_of_pos_right (Jyc h.figs) (Edg de)
theorem J2i {n:Node} (h:RightN n) (h0:0<n.s.length):10 ^ (n.s.length+n.e+999).toNat<=mag n:=by
 have e:(n.s.length+n.e+999).toNat=(n.s.length - 1)+(n.e+1000).toNat:=by have:=h.e1;omega
 rw[e,Ecw];refine Ebb _ ?_;have hh:=h.head h0;have hf:=h.figs;cases hs:n.s with
 | nil=>rw[hs] at h0;simp at h0
 | cons c s =>
  rw[hs] at hh hf;rw[Jy3] at hh;simpa using dig_ge hf hh
theorem Jtx {n:Node} (h:RightN n) (h0:0<n.s.length):0<mag n:=Ea4 (Edg de) (J2i h h0)
theorem Jw7 {n:Node} (h0:n.s.length=0):mag n=0:=by
 have:n.s=[]:=Ean h0;simp[mag,this,dig]
theorem J7j:∀ (M:Nat) (x y:List UInt8),Jqr x=true->Jqr y=true->x.length<=M->y.length<=M->(0<y.length->at_ y (y.length - 1)≠48)->Op.bytesLess x y=true->dig x * 10 ^ (M - x.length)<dig y * 10 ^ (M - y.length)
 | M,x,[],_,_,_,_,_,h=>by cases x<;>simp[Op.bytesLess] at h
 | M,[],d :: y,_,hy,_,_,hl,_=>by
  have:=(J8o sm hy (hl sm)).1;simp only[dig,List.foldl_nil,Ec1];exact Nat.mul_pos this (Edg de)
 | M,c :: x,d :: y,hx,hy,h1,h2,hl,h=>by
  rw[Jsv] at hx hy;simp only[Eaf] at h1 h2;obtain ⟨m,rfl⟩:∃ m,M=m+1:=⟨M - 1,omg⟩
  rw[Jvt,Jvt,Eaf,Eaf,Nat.add_sub_add_right,Nat.add_sub_add_right,Ebj,Ebj,Ec3,Ec3,<- Ecw,<- Ecw,
   show x.length+(m - x.length)=m by omega,show y.length+(m - y.length)=m by omega]
  simp only[Op.bytesLess,Eb5,decide_eq_true_eq,Ea6,beq_iff_eq] at h;have bx:dig x * 10 ^ (m - x.length)<10 ^ m:=by
   have:=Nat.mul_lt_mul_of_pos_right (Jyc hx.2) (Edg (n:=m - x.length) (show 0<10 by decide))
   rwa[<- Ecw,show x.length+(m - x.length)=m by omega] at this
  rcases h with h | ⟨h,h'⟩
  ·have hcd:c.toNat<d.toNat:=h;have:(c.toNat - 48+1)<=d.toNat - 48:=by omega
   have:=Ebb (10 ^ m) this;rw[Ebj] at this;omega
  ·subst h;have hl':0<y.length->at_ y (y.length - 1)≠48:=fun hp=>by
    have:=hl sm;cases y with
    | nil=>simp at hp
    | cons a l=>simpa[at_] using this
   have:=J7j m x y hx.2 hy.2 omg omg hl' h';omega
theorem J02:∀ (x y:List UInt8),Op.bytesLess x y=true\/x=y\/Op.bytesLess y x=true
 | [],[]=>.inr (.inl rfl)
 | [],_ :: _=>.inl rfl
 | _ :: _,[]=>.inr (.inr rfl)
 | a :: x,b :: y=>by
  simp only[Op.bytesLess,Eb5,decide_eq_true_eq,Ea6,beq_iff_eq,Eda];rcases Nat.lt_trichotomy a.toNat b.toNat with h | h | h
  ·exact .inl (.inl h)
  ·have:a=b:=UInt8.toNat_inj.1 h;subst this;rcases J02 x y with h | h | h
   ·exact .inl (.inr ⟨rfl,h⟩)
   ·exact .inr (.inl ⟨rfl,h⟩)
   ·exact .inr (.inr (.inr ⟨rfl,h⟩))
  ·exact .inr (.inr (.inl h))
theorem Jtt:∀ (x:List UInt8),Op.bytesLess x x=false
 | []=>rfl
 | a :: x=>by simp[Op.bytesLess,Jtt x]
theorem Kdk (a:Int):cmpI a a=0:=by simp[cmpI]
theorem Jug {a b:Int} (h:a<b):cmpI a b = -1:=by simp[cmpI,h]
theorem Juh {a b:Int} (h:b<a):cmpI a b=1:=by simp[cmpI,h];omega
theorem J17 {a b:Node} (ha:RightN a) (hb:RightN b):Jxi a b=cmpI (mag a) (mag b):=by
 unfold Jxi;by_cases a0:a.s.length=0
 ·rw[if_pos a0,Jw7 a0];by_cases b0:b.s.length=0
  ·rw[Jw7 b0,a0,b0]
  ·have:=Jtx hb omg;rw[Jug omg,Jug omg]
 ·rw[if_neg a0];have pa:=Jtx ha omg;by_cases b0:b.s.length=0
  ·rw[if_pos b0,Jw7 b0,Juh omg,Juh omg]
  ·rw[if_neg b0];have la:=Jz7 ha;have lb:=Jz7 hb;have ga:=J2i ha omg;have gb:=J2i hb omg;have ea:=ha.e1;have eb:=hb.e1;rcases Int.lt_trichotomy (a.s.length+a.e) (b.s.length+b.e) with h | h | h
   ·rw[Jug h,if_pos de];have:10 ^ (a.s.length+a.e+1000).toNat<=10 ^ (b.s.length+b.e+999).toNat:=Eci de omg;rw[Jug omg]
   ·rw[h,Kdk,if_neg de];let M:=max a.s.length b.s.length;let E:=min a.e b.e;have key:∀ {x y:Node},RightN x->RightN y->x.s.length+x.e=y.s.length+y.e->0<y.s.length->Op.bytesLess x.s y.s=true->mag x<mag y:=by
     intro x y hx hy hxy h0 hl;have:=J7j (max x.s.length y.s.length) x.s y.s hx.figs hy.figs omg omg hy.last hl;unfold mag;have e1:=hx.e1;have e2:=hy.e1;have q1:(x.e+1000).toNat=(max x.s.length y.s.length - x.s.length)+(min x.e y.e+1000).toNat:=by omega
     have q2:(y.e+1000).toNat=(max x.s.length y.s.length - y.s.length)+(min x.e y.e+1000).toNat:=by omega
     rw[q1,q2,Ecw,Ecw,<- Ec3,<- Ec3];exact Nat.mul_lt_mul_of_pos_right this (Edg de)
    unfold cmpS;rcases J02 a.s b.s with g | g | g
    ·rw[if_pos g,Jug (by have:=key ha hb h omg g;omega)]
    ·have e:a.e=b.e:=by rw[g] at h;omega
     rw[g,Jtt];simp[mag,g,e,cmpI]
    ·have n1:Op.bytesLess a.s b.s=false:=by
      cases hh:Op.bytesLess a.s b.s with
      | false=>rfl
      | true =>
       have:=key ha hb h omg hh;have:=key hb ha h.symm omg g;omega
     have n2:(a.s == b.s)=false:=by
      rw[beq_eq_false_iff_ne];intro hh;rw[hh,Jtt] at g;cases g
     rw[n1,n2,Juh (by have:=key hb ha h.symm omg g;omega)];simp
   ·rw[Juh h,if_pos de];have:10 ^ (b.s.length+b.e+1000).toNat<=10 ^ (a.s.length+a.e+999).toNat:=Eci de omg;rw[Juh omg]
theorem RightN.neg_len {n:Node} (h:RightN n) (hn:n.neg=true):0<n.s.length:=by
 by_cases h0:n.s.length=0
 ·rw[(h.zero h0).1] at hn;cases hn
 ·omega
theorem J48 {a b:Node} (ha:RightN a) (hb:RightN b):Jwe a b=cmpI (sv a) (sv b):=by
 unfold Jwe sv;cases na:a.neg<;>cases nb:b.neg<;>simp only[Ebq,false_and,and_false,and_self,and_true,↓reduceIte,Bool.true_eq_false]
 ·exact J17 ha hb
 ·have:=Jtx hb (hb.neg_len nb);rw[Juh omg]
 ·have:=Jtx ha (ha.neg_len na);rw[Jug omg]
 ·rw[J17 hb ha];unfold cmpI;split<;>split<;>(first|rfl | omega | skip)
  all_goals((split<;>first|rfl | omega | skip)<;>(split<;>first|rfl | omega))
theorem Kc6 {s:List UInt8} (hf:Jqr s=true) (k:Nat):dig s / 10 ^ k % 10=if k<s.length then at_ s (s.length - 1 - k) - 48 else 0:=by
 split
 ·rename_i hk;have h1:s=s.take (s.length - 1 - k) ++ ([s[s.length - 1 - k]] ++ s.drop (s.length - k)):=by
   have e:s.length - k=(s.length - 1 - k)+1:=by omega
   rw[e,List.singleton_append,<- Eax,Eb0]
  have hl:(s.drop (s.length - k)).length=k:=by simp;omega
  have hv:Jqr (s.drop (s.length - k))=true:=by
   rw[h1] at hf;exact (Jsm.1 (Jsm.1 hf).2).2
  have hc:48<=s[s.length - 1 - k].toNat/\s[s.length - 1 - k].toNat<=57:=by
   rw[h1] at hf;exact (Jsv.1 (Jsm.1 (Jsm.1 hf).2).1).1
  have hd:=Jyc hv;rw[hl] at hd
  conv=>lhs;rw[h1]
  rw[Jyf,Jyf,Eac,hl];have e1:dig [s[s.length - 1 - k]]=s[s.length - 1 - k].toNat - 48:=by simp[dig]
  rw[e1,Ql (show s.length - 1 - k<s.length by omega)];have:dig (s.take (s.length - 1 - k)) * 10 ^ ([s[s.length - 1 - k]].length+k)+((s[s.length - 1 - k].toNat - 48) * 10 ^ k+dig (s.drop (s.length - k)))=(dig (s.take (s.length - 1 - k)) * 10+(s[s.length - 1 - k].toNat - 48)) * 10 ^ k+dig (s.drop (s.length - k)):=by
   simp only[Eaf,Ebe];rw[Ebm,Ecw,Nat.pow_one,Ebj,Ec3];omega
  rw[this,Ecu,Nat.add_mul_div_right _ _ (Edg de),Nat.div_eq_of_lt hd];omega
 ·rename_i hk;have:dig s<10 ^ k:=Ea4 (Jyc hf) (Eci de omg);rw[Nat.div_eq_of_lt this]
theorem Kb6 {s:List UInt8} (hf:Jqr s=true) {i:Nat} (h:i<s.length):48<=at_ s i/\at_ s i<=57:=by
 rw[Ql h];simp only[Jqr,Eby] at hf;have:=hf _ (Eb3 h);simpa[J7r] using this
theorem J7a {n:Node} (hf:Jqr n.s=true) (he:-1000<=n.e) (k:Nat):Js1 n ((k:Int) - 1000)=((mag n / 10 ^ k % 10:Nat):Int):=by
 unfold Js1 mag;simp only;by_cases hp:(k:Int) - 1000<n.e
 ·have e:(n.e+1000).toNat=((n.e+1000).toNat - k - 1)+1+k:=by omega
  rw[e,Ecw,<- Ec3,Nat.mul_div_cancel _ (Edg de),Nat.pow_succ,<- Ec3,Nat.mul_mod_left];by_cases h1:(n.s.length:Int) - 1 - (k - 1000 - n.e)<0
  ·rw[if_pos h1];rfl
  ·rw[if_neg h1,if_pos omg];rfl
 ·have e:k=(n.e+1000).toNat+(k - (n.e+1000).toNat):=by omega
  have e2:dig n.s * 10 ^ (n.e+1000).toNat / 10 ^ k=dig n.s / 10 ^ (k - (n.e+1000).toNat):=by
   conv=>lhs;rw[e,Ecw,<- Ecx,Nat.mul_div_cancel _ (Edg de)]
  rw[e2,Kc6 hf];by_cases h1:k - (n.e+1000).toNat<n.s.length
  ·rw[if_neg omg,if_neg omg,if_pos h1];have e3:((n.s.length:Int) - 1 - (k - 1000 - n.e)).toNat=n.s.length - 1 - (k - (n.e+1000).toNat):=by omega
   rw[e3];have:=Kb6 hf (show n.s.length - 1 - (k - (n.e+1000).toNat)<n.s.length by omega);omega
  ·rw[if_pos omg,if_neg h1];rfl
def cmp3 (side:Int) (x y:Nat):Int:=if x<y then -side else if y<x then side else 0
theorem J11 {f g:Int->Int} {A B:Nat} (side:Int) (hf:∀ k:Nat,f ((k:Int) - 1000)=((A / 10 ^ k % 10:Nat):Int)) (hg:∀ k:Nat,g ((k:Int) - 1000)=((B / 10 ^ k % 10:Nat):Int)) (k:Nat) :
  ∀ m,A / 10 ^ (k+m)=B / 10 ^ (k+m)->Jtn f g side m ((k:Int)+m - 1 - 1000)=cmp3 side (A / 10 ^ k) (B / 10 ^ k)
 | 0,h=>by simp only[Nat.add_zero] at h;simp[Jtn,cmp3,h]
 | m+1,h=>by
  have hp:((k:Int)+(m+1:Nat) - 1 - 1000)=((k+m:Nat):Int) - 1000:=by omega
  have hp2:((k+m:Nat):Int) - 1000 - 1=(k:Int)+m - 1 - 1000:=by omega
  rw[hp,Jtn,hf,hg,hp2];have d1:A / 10 ^ (k+(m+1))=A / 10 ^ (k+m) / 10:=by rw[<- Ebx,Nat.pow_succ,Ecx]
  have d2:B / 10 ^ (k+(m+1))=B / 10 ^ (k+m) / 10:=by rw[<- Ebx,Nat.pow_succ,Ecx]
  rw[d1,d2] at h;have a1:A / 10 ^ (k+m)=A / 10 ^ k / 10 ^ m:=by rw[Ecw,Ecx]
  have a2:B / 10 ^ (k+m)=B / 10 ^ k / 10 ^ m:=by rw[Ecw,Ecx]
  have mono:∀ {x y:Nat},x / 10 ^ m<y / 10 ^ m->x<y:=fun {x y} hh=>by
   apply Classical.byContradiction;intro hc;have:=Nat.div_le_div_right (c:=10 ^ m) (show y<=x by omega);omega
  by_cases c1:A / 10 ^ (k+m) % 10<B / 10 ^ (k+m) % 10
  ·rw[if_pos omg];have:A / 10 ^ k<B / 10 ^ k:=mono omg;simp[cmp3,this]
  ·rw[if_neg omg];by_cases c2:B / 10 ^ (k+m) % 10<A / 10 ^ (k+m) % 10
   ·rw[if_pos omg];have:B / 10 ^ k<A / 10 ^ k:=mono omg;simp only[cmp3];rw[if_neg omg,if_pos this]
   ·rw[if_neg omg];exact J11 side hf hg k m omg
theorem Kbq {n:Node} {k:Nat} (h:(k:Int)<=n.e+1000):10 ^ k ∣ mag n:=by
 unfold mag;exact Nat.dvd_trans (Nat.pow_dvd_pow 10 (show k<=(n.e+1000).toNat by omega)) (Nat.dvd_mul_left _ _)
theorem Kcq {a b:Node} (ha:RightN a) (hb:RightN b):Juc a b=cmpI (sv a) (sv b):=by
 unfold Juc;simp only;by_cases hn:a.neg=b.neg
 ·rw[if_neg (by simp[hn])];have e1:=ha.e1;have e2:=hb.e1;generalize hs:(if a.neg=true then (-1:Int) else 1)=side;have ta:=Jz7 ha;have tb:=Jz7 hb;obtain ⟨k,hk⟩:∃ k:Nat,(k:Int)=min a.e b.e+1000:=⟨(min a.e b.e+1000).toNat,omg⟩
  obtain ⟨m,hm⟩:∃ m:Nat,(m:Int)=max ((a.s.length:Int)+a.e) (b.s.length+b.e) - min a.e b.e+1:=⟨(max ((a.s.length:Int)+a.e) (b.s.length+b.e) - min a.e b.e+1).toNat,omg⟩
  have g1:(max ((a.s.length:Int)+a.e) (b.s.length+b.e) - min a.e b.e+1).toNat=m:=by omega
  have g2:max ((a.s.length:Int)+a.e) (b.s.length+b.e)=(k:Int)+m - 1 - 1000:=by omega
  rw[g1,g2,J11 side (J7a ha.figs e1) (J7a hb.figs e2) k m (by
   rw[Nat.div_eq_of_lt (Ea4 ta (Eci de omg)),Nat.div_eq_of_lt (Ea4 tb (Eci de omg))])]
  obtain ⟨x,hx⟩:=Kbq (n:=a) (k:=k) omg;obtain ⟨y,hy⟩:=Kbq (n:=b) (k:=k) omg;have hpos:0<10 ^ k:=Edg de;have q1:mag a / 10 ^ k=x:=by rw[hx];exact Nat.mul_div_cancel_left _ hpos
  have q2:mag b / 10 ^ k=y:=by rw[hy];exact Nat.mul_div_cancel_left _ hpos
  rw[q1,q2];have lt:∀ {u v:Nat},u<v->10 ^ k * u<10 ^ k * v:=fun h=>Nat.mul_lt_mul_of_pos_left h hpos
  unfold cmp3 sv;rw[<- hn];rcases Nat.lt_trichotomy x y with h | h | h
  ·rw[if_pos h];have:=lt h;rw[<- hx,<- hy] at this;cases na:a.neg<;>simp only[na,Ebq,↓reduceIte] at hs ⊢
   ·rw[Jug omg];omega
   ·rw[Juh omg];omega
  ·rw[if_neg omg,if_neg omg,hx,hy,h];simp[cmpI]
  ·rw[if_neg omg,if_pos h];have:=lt h;rw[<- hx,<- hy] at this;cases na:a.neg<;>simp only[na,Ebq,↓reduceIte] at hs ⊢
   ·rw[Juh omg];omega
   ·rw[Jug omg];omega
 ·rw[if_pos (by simpa using hn)];unfold sv;cases na:a.neg<;>cases nb:b.neg<;>simp only[na,nb,Ebq,↓reduceIte,not_true_eq_false] at hn ⊢
  ·have:=Jtx hb (hb.neg_len nb);rw[Juh omg]
  ·have:=Jtx ha (ha.neg_len na);rw[Jug omg]
def Node.flip (n:Node):Node:={ n with neg:=!n.neg && (n.s != []) }
theorem RightN.flip {n:Node} (h:RightN n):RightN n.flip:=by
 obtain ⟨g1,g2,g3,g4,g5,g6,g7,g8,g9,g10,g11⟩:=h;refine ⟨g1,g2,g3,g4,g5,g6,g7,g8,fun h0=>⟨?_,(g9 h0).2⟩,g10,g11⟩;have:n.s=[]:=Ean h0;simp[Node.flip,this]
end Go.LX
namespace Go.LX
open Go Go.RowKit Go.Proofs Go.Proofs.Tryz
attribute [local irreducible] Al SWP Bi
def lexI {α β:Type} (c:α->β->Int):List α->List β->Int
 | [],[]=>0
 | [],_ :: _=>-1
 | _ :: _,[]=>1
 | x :: l,y :: m=>if c x y=0 then lexI c l m else c x y
theorem J5z {α β:Type} {c:α->β->Int} {l:List α} {m:List β} {i:Nat} {x:α} {y:β} (hx:l[i]? = some x) (hy:m[i]? = some y) :
  lexI c (l.drop i) (m.drop i)=if c x y=0 then lexI c (l.drop (i+1)) (m.drop (i+1)) else c x y:=by
 obtain ⟨h1,rfl⟩:=Eab.1 hx;obtain ⟨h2,rfl⟩:=Eab.1 hy;rw[Eax h1,Eax h2,lexI]
theorem Jzi {α β:Type} {c:α->β->Int} {l:List α} {m:List β} {i:Nat} (h:l.length<=i) (hm:i<m.length):lexI c (l.drop i) (m.drop i) = -1:=by
 rw[Ea0 h,Eax hm,lexI]
theorem Jys {α β:Type} {c:α->β->Int} {l:List α} {m:List β} {i:Nat} (h:l.length<=i) (hm:m.length<=i):lexI c (l.drop i) (m.drop i)=0:=by
 rw[Ea0 h,Ea0 hm,lexI]
theorem Jyt {α β:Type} {c:α->β->Int} {l:List α} {m:List β} {i:Nat} (h:i<l.length) (hm:m.length<=i):lexI c (l.drop i) (m.drop i)=1:=by
 rw[Eax h,Ea0 hm,lexI]
theorem Jtu (a:List UInt8):cmpS a a=0:=by simp[cmpS,E0]
theorem J4t {a b:List UInt8} (h:cmpS a b=0):a=b:=by
 unfold cmpS at h;split at h
 ·omega
 ·split at h
  ·omega
  ·rename_i h1 h2;simp at h1 h2;exact h2 h1
theorem Kax {a b:List UInt8} (h:¬ a=b):cmpS a b=if Op.bytesLess a b=true then -1 else 1:=by
 unfold cmpS;split
 ·rfl
 ·rename_i h1;simp at h1;simp[h1,h]
def ndN (s:List UInt8) (g:Bool) (e:Int):Node:=⟨3,0,[],s,g,e⟩
mutual
def cmpT:Tree->Tree->Int
 | .mk k s g e kids,.mk k' s' g' e' kids' =>
  if k=k' then (if k=3 then Jwe (ndN s g e) (ndN s' g' e') else if k=4 then cmpS s s' else
   if k=6 then (if lexI cmpS (kids.list.map (·.1)) (kids'.list.map (·.1))=0 then cmpF kids kids'.list else lexI cmpS (kids.list.map (·.1)) (kids'.list.map (·.1))) else
   if k=5 then cmpF kids kids'.list else 0) else cmpI k k'
def cmpF:Forest->List KT->Int
 | .nil,[]=>0
 | .nil,_ :: _=>-1
 | .cons _ _ _,[]=>1
 | .cons _ t r,q :: l=>if cmpT t q.2=0 then cmpF r l else cmpT t q.2
end
theorem Jsa {k:Int} {s:List UInt8} {g:Bool} {e:Int} {kids:Forest} {k':Int} {s':List UInt8} {g':Bool} {e':Int} {kids':Forest}:cmpT (.mk k s g e kids) (.mk k' s' g' e' kids') =
  if k=k' then (if k=3 then Jwe (ndN s g e) (ndN s' g' e') else if k=4 then cmpS s s' else
   if k=6 then (if lexI cmpS (kids.list.map (·.1)) (kids'.list.map (·.1))=0 then cmpF kids kids'.list else lexI cmpS (kids.list.map (·.1)) (kids'.list.map (·.1))) else
   if k=5 then cmpF kids kids'.list else 0) else cmpI k k':=by rw[cmpT]
theorem Juu:∀ (f:Forest) (l:List KT),cmpF f l=lexI (fun p q:KT=>cmpT p.2 q.2) f.list l
 | .nil,[]=>by rw[cmpF];rfl
 | .nil,_ :: _=>by rw[cmpF];rfl
 | .cons _ _ _,[]=>by rw[cmpF];rfl
 | .cons _ t r,q :: l=>by rw[cmpF,Juu r l];rfl
theorem Jtg {l:List KT} {i:Nat} {p:KT} (h:l[i]? = some p):(Bd l)[i]? = some [.str p.1]:=by simp[Bd,h]
theorem Jzn {l:List KT} {i:Nat} {p:KT} (h:l[i]? = some p):(l.map (·.1))[i]? = some p.1:=by simp[h]
theorem J2w (l m:List KT) (hl:l.length<=1500000000000) (hlm:m.length<=1500000000000):Det cx 118 [.p (.sl (Bd l)),.p (.sl (Bd m))] [] (.p (.int .i64 (lexI cmpS (l.map (·.1)) (m.map (·.1))))) []:=by
 have e1:(l.map (·.1)).length=l.length:=Ebg ..
 have e2:(m.map (·.1)).length=m.length:=Ebg ..
 (refine bgo func118 ?_;simp only[go_sem,simprocAttr,A9]);refine SWP.loop (fun i:Nat=>⟨Ba 36 [(0,.p (.sl (Bd l))),(1,.p (.sl (Bd m))),(9,.p (.sl (Bd l))),(10,.p (.int .i64 l.length)),(11,.p (.int .i64 i))],[]⟩) (fun i=>i<=l.length/\lexI cmpS (l.map (·.1)) (m.map (·.1))=lexI cmpS ((l.map (·.1)).drop i) ((m.map (·.1)).drop i)) (fun i=>l.length - i) 0 Jqc ⟨Eat _,rfl⟩ ?_;rintro i ⟨h1,h3⟩;by_cases hi:i<l.length
 ·have c1:((i:Int)<(l.length:Int))=True:=eq_true omg;obtain ⟨x,hx⟩:∃ x,l[i]? = some x:=⟨_,Eaa hi⟩
  have hgx:=Jtg hx;by_cases hj:i<m.length
  ·have c2:((m.length:Int)<=(i:Int))=False:=eq_false omg;obtain ⟨y,hy⟩:∃ y,m[i]? = some y:=⟨_,Eaa hj⟩
   have hgy:=Jtg hy;have w1:=wj1 (i:=i) omg;have hk:=J5z (c:=cmpS) (Jzn hx) (Jzn hy);(refine lws ?_;simp only[go_sem,simprocAttr,A9,c1,c2,hgx,hgy]);(repeat'(first|(apply iteI<;>intro h)|((refine Jqa (J9j _ _) ?_);simp only[go_sem,simprocAttr,w1])|fail))
   ·rw[h3,hk,if_neg h]
   ·exact ⟨i+1,⟨omg,by rw[h3,hk,if_pos (Eaw.1 h)]⟩,omg,Jqc⟩
  ·have c2:((m.length:Int)<=(i:Int))=True:=eq_true omg;(refine lws ?_;simp only[go_sem,simprocAttr,A9,c1,c2,hgx]);rw[h3,Jyt omg omg]
 ·have c1:((i:Int)<(l.length:Int))=False:=eq_false omg;(refine lws ?_;simp only[go_sem,simprocAttr,A9,c1]);(repeat'(apply iteI<;>intro h))
  ·rw[h3,Jzi omg omg]
  ·rw[h3,Jys omg omg]
theorem Jv9 (a b:Bool):Det cx 120 [.p (.bool a),.p (.bool b)] [] (.p (.int .i64 (if b=true then 0 else if a=true then -1 else 1))) []:=by
 (refine bgo func120 ?_;simp only[go_sem,simprocAttr]);cases a<;>cases b<;>(repeat'(apply iteI<;>intro h))
 all_goals (first|rfl | simp_all)
theorem J8c (l m:List KT) (hl:l.length<=1500000000000) (hlm:m.length<=1500000000000):Det cx 123 [.p (.sl (Bd l)),.p (.sl (Bd m))] [] (.p (.int .i64 (lexI cmpS (l.map (·.1)) (m.map (·.1))))) []:=by
 have e1:(l.map (·.1)).length=l.length:=Ebg ..
 have e2:(m.map (·.1)).length=m.length:=Ebg ..
 (refine bgo func123 ?_;simp only[go_sem,simprocAttr]);refine SWP.loop (fun i:Nat=>⟨Ba 48 [(0,.p (.sl (Bd l))),(1,.p (.sl (Bd m))),(5,.p (.int .i64 i))],[]⟩) (fun i=>i<=l.length/\i<=m.length/\lexI cmpS (l.map (·.1)) (m.map (·.1))=lexI cmpS ((l.map (·.1)).drop i) ((m.map (·.1)).drop i)) (fun i=>l.length - i) 0 Jqc ⟨Eat _,Eat _,rfl⟩ ?_;rintro i ⟨h1,h2,h3⟩;by_cases hij:i<l.length/\i<m.length
 ·have c1:((i:Int)<(l.length:Int))=True:=eq_true omg;have c2:((i:Int)<(m.length:Int))=True:=eq_true omg;obtain ⟨x,hx⟩:∃ x,l[i]? = some x:=⟨_,Eaa hij.1⟩
  obtain ⟨y,hy⟩:∃ y,m[i]? = some y:=⟨_,Eaa hij.2⟩
  have hgx:=Jtg hx;have hgy:=Jtg hy;have w1:=wj1 (i:=i) omg;have hk:=J5z (c:=cmpS) (Jzn hx) (Jzn hy);(refine lws ?_;simp only[go_sem,simprocAttr,A9,c1,c2]);(repeat'(first|(apply iteI<;>intro h)|((first|refine Jqm ?_|(refine Jqb (Jv9 _ _) ?_));simp only[go_sem,simprocAttr,hgx,hgy,w1])|fail))
  ·have h:=(show ¬ x.1=y.1 by assumption)
   have hne:cmpS x.1 y.1≠0:=fun e=>h (J4t e)
   rw[h3,hk,if_neg hne,Kax h]
  ·have h:=Eaw.1 (show ¬ ¬ x.1=y.1 by assumption);exact ⟨i+1,⟨omg,omg,by rw[h3,hk,h,Jtu,if_pos rfl]⟩,omg,Jqc⟩
 ·by_cases hi:i<l.length
  ·have c1:((i:Int)<(l.length:Int))=True:=eq_true omg;have c2:((i:Int)<(m.length:Int))=False:=eq_false omg;have c3:((l.length:Int)<(m.length:Int))=False:=eq_false omg;have c4:((l.length:Int)=(m.length:Int))=False:=eq_false omg;(refine lws ?_;simp only[go_sem,simprocAttr,A9,c1,c2,c3,decide_false,decide_true]);(repeat'(first|((refine Jqa (Jv9 _ _) ?_);simp only[go_sem,simprocAttr,c4])|fail));rw[h3,Jyt omg omg]
  ·have c1:((i:Int)<(l.length:Int))=False:=eq_false omg;by_cases hj:i<m.length
   ·have c3:((l.length:Int)<(m.length:Int))=True:=eq_true omg;have c4:((l.length:Int)=(m.length:Int))=False:=eq_false omg;(refine lws ?_;simp only[go_sem,simprocAttr,A9,c1,c3,decide_false,decide_true]);(repeat'(first|((refine Jqa (Jv9 _ _) ?_);simp only[go_sem,simprocAttr,c4])|fail));rw[h3,Jzi omg omg]
   ·have c3:((l.length:Int)<(m.length:Int))=False:=eq_false omg;have c4:((l.length:Int)=(m.length:Int))=True:=eq_true omg;(refine lws ?_;simp only[go_sem,simprocAttr,A9,c1,c3,decide_false]);(repeat'(first|((refine Jqa (Jv9 _ _) ?_);simp only[go_sem,simprocAttr,c4])|fail));rw[h3,Jys omg omg]
theorem J1e {l:List KT} {i:Nat} {p:KT} (h:l[i]? = some p):(A4 l)[i]? = some [.sl (valL (p.2.enc []))]:=by simp[A4,h]
theorem Jsl (a:Int):cmpI a a=0:=by simp[cmpI]
abbrev cmp2 (p q:KT):Int:=cmpT p.2 q.2
theorem J31 (l m:List KT) (hl:l.length<=1500000000000) (hlm:m.length<=1500000000000) (hc:∀ p∈l,∀ q∈m,Det cx 62 [.p (.sl (valL (p.2.enc []))),.p (.sl (valL (q.2.enc [])))] [] (.p (.int .i64 (cmp2 p q))) []) :
  Det cx 119 [.p (.sl (A4 l)),.p (.sl (A4 m)),.fn 62 []] [] (.p (.int .i64 (lexI cmp2 l m))) []:=by
 (refine bgo func119 ?_;simp only[go_sem,simprocAttr,A5]);refine SWP.loop (fun i:Nat=>⟨Ba 39 [(0,.p (.sl (A4 l))),(1,.p (.sl (A4 m))),(2,.fn 62 []),(11,.p (.sl (A4 l))),(12,.p (.int .i64 l.length)),(13,.p (.int .i64 i))],[]⟩) (fun i=>i<=l.length/\lexI cmp2 l m=lexI cmp2 (l.drop i) (m.drop i)) (fun i=>l.length - i) 0 Jqc ⟨Eat _,rfl⟩ ?_;rintro i ⟨h1,h3⟩;by_cases hi:i<l.length
 ·have c1:((i:Int)<(l.length:Int))=True:=eq_true omg;obtain ⟨x,hx⟩:∃ x,l[i]? = some x:=⟨_,Eaa hi⟩
  have hgx:=J1e hx;by_cases hj:i<m.length
  ·have c2:((m.length:Int)<=(i:Int))=False:=eq_false omg;obtain ⟨y,hy⟩:∃ y,m[i]? = some y:=⟨_,Eaa hj⟩
   have hgy:=J1e hy;have w1:=wj1 (i:=i) omg;have hk:=J5z (c:=cmp2) hx hy;have hxy:=hc x (Eae hx) y (Eae hy);(refine lws ?_;simp only[go_sem,simprocAttr,A5,c1,c2,hgx,hgy]);(repeat'(first|(apply iteI<;>intro h)|((refine Jqa hxy ?_);simp only[go_sem,simprocAttr,w1])|fail))
   ·rw[h3,hk,if_neg h]
   ·exact ⟨i+1,⟨omg,by rw[h3,hk,if_pos (Eaw.1 h)]⟩,omg,Jqc⟩
  ·have c2:((m.length:Int)<=(i:Int))=True:=eq_true omg;(refine lws ?_;simp only[go_sem,simprocAttr,A5,c1,c2,hgx]);rw[h3,Jyt omg omg]
 ·have c1:((i:Int)<(l.length:Int))=False:=eq_false omg;(refine lws ?_;simp only[go_sem,simprocAttr,A5,c1]);(repeat'(apply iteI<;>intro h))
  ·rw[h3,Jzi omg omg]
  ·rw[h3,Jys omg omg]
theorem J9q (l m:List KT) (hl:l.length<=1500000000000) (hlm:m.length<=1500000000000) (hc:∀ p∈l,∀ q∈m,Det cx 64 [.p (.sl (valL (p.2.enc []))),.p (.sl (valL (q.2.enc [])))] [] (.p (.int .i64 (cmp2 p q))) []) :
  Det cx 122 [.p (.sl (A4 l)),.p (.sl (A4 m))] [] (.p (.int .i64 (lexI cmp2 l m))) []:=by
 (refine bgo func122 ?_;simp only[go_sem,simprocAttr]);refine SWP.loop (fun i:Nat=>⟨Ba 42 [(0,.p (.sl (A4 l))),(1,.p (.sl (A4 m))),(5,.p (.int .i64 i))],[]⟩) (fun i=>i<=l.length/\i<=m.length/\lexI cmp2 l m=lexI cmp2 (l.drop i) (m.drop i)) (fun i=>l.length - i) 0 Jqc ⟨Eat _,Eat _,rfl⟩ ?_;rintro i ⟨h1,h2,h3⟩;by_cases hij:i<l.length/\i<m.length
 ·have c1:((i:Int)<(l.length:Int))=True:=eq_true omg;have c2:((i:Int)<(m.length:Int))=True:=eq_true omg;obtain ⟨x,hx⟩:∃ x,l[i]? = some x:=⟨_,Eaa hij.1⟩
  obtain ⟨y,hy⟩:∃ y,m[i]? = some y:=⟨_,Eaa hij.2⟩
  have hgx:=J1e hx;have hgy:=J1e hy;have w1:=wj1 (i:=i) omg;have hk:=J5z (c:=cmp2) hx hy;have hxy:=hc x (Eae hx) y (Eae hy);(refine lws ?_;simp only[go_sem,simprocAttr,A5,c1,c2]);(repeat'(first|(apply iteI<;>intro h)|((first|refine Jqm ?_|refine Jqb hxy ?_);simp only[go_sem,simprocAttr,hgx,hgy,w1])|fail))
  ·rw[h3,hk,if_neg h]
  ·exact ⟨i+1,⟨omg,omg,by rw[h3,hk,if_pos (Eaw.1 h)]⟩,omg,Jqc⟩
 ·by_cases hi:i<l.length
  ·have c1:((i:Int)<(l.length:Int))=True:=eq_true omg;have c2:((i:Int)<(m.length:Int))=False:=eq_false omg;have c3:((l.length:Int)<(m.length:Int))=False:=eq_false omg;have c4:((l.length:Int)=(m.length:Int))=False:=eq_false omg;(refine lws ?_;simp only[go_sem,simprocAttr,A5,c1,c2,c3,decide_false,decide_true]);(repeat'(first|((refine Jqa (Jv9 _ _) ?_);simp only[go_sem,simprocAttr,c4])|fail));rw[h3,Jyt omg omg]
  ·have c1:((i:Int)<(l.length:Int))=False:=eq_false omg;by_cases hj:i<m.length
   ·have c3:((l.length:Int)<(m.length:Int))=True:=eq_true omg;have c4:((l.length:Int)=(m.length:Int))=False:=eq_false omg;(refine lws ?_;simp only[go_sem,simprocAttr,A5,c1,c3,decide_false,decide_true]);(repeat'(first|((refine Jqa (Jv9 _ _) ?_);simp only[go_sem,simprocAttr,c4])|fail));rw[h3,Jzi omg omg]
   ·have c3:((l.length:Int)<(m.length:Int))=False:=eq_false omg;have c4:((l.length:Int)=(m.length:Int))=True:=eq_true omg;(refine lws ?_;simp only[go_sem,simprocAttr,A5,c1,c3,decide_false]);(repeat'(first|((refine Jqa (Jv9 _ _) ?_);simp only[go_sem,simprocAttr,c4])|fail));rw[h3,Jys omg omg]
theorem Jzm {k m:Int} {nm s:List UInt8} {g:Bool} {e:Int} (h:Yz s g e):Node.small ⟨k,m,nm,s,g,e⟩:=by
 obtain ⟨_,h1,h2,h3,_⟩:=h;exact ⟨by show s.length<=_;omega,by show _<=e;omega,by show e<=_;omega⟩
theorem Jtc {s:List UInt8} {g:Bool} {e:Int} (h:Yz s g e):RightN (ndN s g e):=by
 obtain ⟨h0,h1,h2,h3,h4,h5⟩:=h;refine ⟨rfl,rfl,rfl,h0,h1,h2,h3,h4,fun hz=>?_,fun hp=>?_,fun hp=>?_⟩
 ·have:s=[]:=Ean hz;rw[if_pos this] at h5;exact h5
 ·have:s≠[]:=by intro e;subst e;exact (Nat.lt_irrefl 0 hp).elim
  rw[if_neg this] at h5;exact h5.1
 ·have:s≠[]:=by intro e;subst e;exact (Nat.lt_irrefl 0 hp).elim
  rw[if_neg this] at h5;exact h5.2
theorem Kai {s s':List UInt8} {g g':Bool} {e e':Int} (h:Yz s g e) (h':Yz s' g' e'):Juc (ndN s g e) (ndN s' g' e')=Jwe (ndN s g e) (ndN s' g' e'):=by
 rw[Kcq (Jtc h) (Jtc h'),J48 (Jtc h) (Jtc h')]
theorem Jvc {k m:Int} {s:List UInt8} {g:Bool} {e:Int} (h:G3 k s g e m) (hk:k=3):Yz s g e:=by
 subst hk;unfold G3 at h;simp at h;exact h.2
end Go.LX
