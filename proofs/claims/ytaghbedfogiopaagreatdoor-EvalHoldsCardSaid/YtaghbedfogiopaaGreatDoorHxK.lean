/- The order of values: both sides. -/
import Derived.Test.YtaghbedfogiopaaGreatDoorHxJ
import Derived.WalkSpells
import Derived.Shelf.SlicesE.Delete
set_option linter.unusedSimpArgs false
set_option linter.unusedVariables false
set_option linter.unusedSectionVars false
set_option linter.unnecessarySimpa false
set_option maxRecDepth 100000
set_option maxHeartbeats 2000000
namespace Go.LX
open Go Go.RowKit Go.Proofs Go.Proofs.Tryz
attribute [local irreducible] Al SWP Bi
theorem nc_num (m m':Int) (nm nm' s s':List UInt8) (g g':Bool) (e e':Int) (h:Yz s g e) (h':Yz s' g' e'):Det cx 116 [.p (.agg [.int .i64 3,.int .i64 m,.str nm,.str s,.bool g,.int .i64 e]),.p (.agg [.int .i64 3,.int .i64 m',.str nm',.str s',.bool g',.int .i64 e'])] [] (.p (.int .i64 (Jwe (ndN s g e) (ndN s' g' e')))) []:=by
 have:=Kdu ⟨3,m,nm,s,g,e⟩ ⟨3,m',nm',s',g',e'⟩ (Jzm h) (Jzm h');exact this
theorem Kfx (s s':List UInt8) (g g':Bool) (e e':Int) (h:Yz s g e) (h':Yz s' g' e'):Det cx 121 [.p (.agg [.int .i64 3,.int .i64 0,.str [],.str s,.bool g,.int .i64 e]),.p (.agg [.int .i64 3,.int .i64 0,.str [],.str s',.bool g',.int .i64 e'])] [] (.p (.int .i64 (Jwe (ndN s g e) (ndN s' g' e')))) []:=by
 have:=Kdw ⟨3,0,[],s,g,e⟩ ⟨3,0,[],s',g',e'⟩ (Jzm h) (Jzm h');rw[<- Kai h h'];exact this
theorem J6x {a b:Int} (h:¬ a=b):¬ cmpI a b=0:=by
 unfold cmpI;split
 ·decide
 ·split
  ·decide
  ·omega
theorem Jvb {k:Int} {s:List UInt8} {g:Bool} {e:Int} {kids:Forest} (h:okT (.mk k s g e kids)) {p:KT} (hp:p∈kids.list):okT p.2:=Jdo.1 (Lu.1 h).2.2 p hp
theorem Ke2 (n:Nat) (t u:Tree) (hn:(t.enc []).length<=n) (ht:okT t) (hu:okT u) (hs:(t.enc []).length<=1500000000000) (hs':(u.enc []).length<=1500000000000):Det cx 62 [.p (.sl (valL (t.enc []))),.p (.sl (valL (u.enc [])))] [] (.p (.int .i64 (cmpT t u))) []:=by
 induction n generalizing t u with
 | zero=>have:=Et t [];omega
 | succ n ih =>
 cases t with
 | mk k s g e kids =>
 cases u with
 | mk k' s' g' e' kids' =>
 have hok:=Lu.1 ht;have hok':=Lu.1 hu;rw[A6,Eaf] at hn hs hs';have hg:=Cc [] k s g e kids;have hg':=Cc [] k' s' g' e' kids';have hll:=Jqi kids;have hll':=Jqi kids';have hkl:=Jqh kids;have hkl':=Jqh kids';have hc:∀ p∈kids.list,∀ q∈kids'.list,Det cx 62 [.p (.sl (valL (p.2.enc []))),.p (.sl (valL (q.2.enc [])))] [] (.p (.int .i64 (cmp2 p q))) []:=fun p hp q hq=>ih p.2 q.2 (by have:=Jd7 hp;omega) (Jvb ht hp) (Jvb hu hq) (by have:=Jd7 hp;omega) (by have:=Jd7 hq;omega)
 have hCF:=J31 kids.list kids'.list omg omg hc;by_cases hkk:k=k'
 ·subst hkk;by_cases h3:k=3
  ·subst h3;(refine bgo func62 ?_;simp only[go_sem,simprocAttr]);(repeat'(first|(apply iteI<;>intro h)|((first|refine Jqm ?_|(refine Jqb (Jx2 _ _) ?_)|(refine Jqb (nc_num _ _ _ _ _ _ _ _ _ _ (Jvc hok.1 rfl) (Jvc hok'.1 rfl)) ?_));simp only[go_sem,simprocAttr,hg,hg'])|fail))
   all_goals first
    | exact absurd (Jsl _) (by assumption)
    | (rw[Jsa,if_pos rfl,if_pos rfl];done)
  ·by_cases h4:k=4
   ·subst h4;(refine bgo func62 ?_;simp only[go_sem,simprocAttr]);(repeat'(first|(apply iteI<;>intro h)|((first|refine Jqm ?_|(refine Jqb (Jx2 _ _) ?_)|(refine Jqb (J9j _ _) ?_));simp only[go_sem,simprocAttr,hg,hg'])|fail))
    all_goals first
     | exact absurd (Jsl _) (by assumption)
     | (rw[Jsa,if_pos rfl,if_neg de,if_pos rfl];done)
   ·by_cases h6:k=6
    ·subst h6;(refine bgo func62 ?_;simp only[go_sem,simprocAttr]);(repeat'(first|(apply iteI<;>intro h)|((first|refine Jqm ?_|(refine Jqb (Jx2 _ _) ?_)|(refine Jqa (J56 [] s g e kids omg) ?_)|(refine Jqa (J56 [] s' g' e' kids' omg) ?_)|(refine Jqa (J2w _ _ omg omg) ?_)|(refine Jqa (Px [] 6 s g e kids omg) ?_)|(refine Jqa (Px [] 6 s' g' e' kids' omg) ?_)|refine Jqa hCF ?_);simp only[go_sem,simprocAttr,hg,hg'])|fail))
     all_goals first
      | exact absurd (Jsl _) (by assumption)
      | (rw[Jsa,if_pos rfl,if_neg de,if_neg de,if_pos rfl,if_neg (by assumption)];done)
      | (rw[Jsa,if_pos rfl,if_neg de,if_neg de,if_pos rfl,if_pos (Eaw.1 (by assumption)),Juu];done)
    ·by_cases h5:k=5
     ·subst h5;(refine bgo func62 ?_;simp only[go_sem,simprocAttr]);(repeat'(first|(apply iteI<;>intro h)|((first|refine Jqm ?_|(refine Jqb (Jx2 _ _) ?_)|(refine Jqa (Px [] 5 s g e kids omg) ?_)|(refine Jqa (Px [] 5 s' g' e' kids' omg) ?_)|refine Jqa hCF ?_);simp only[go_sem,simprocAttr,hg,hg'])|fail))
      all_goals first
       | exact absurd (Jsl _) (by assumption)
       | (rw[Jsa,if_pos rfl,if_neg de,if_neg de,if_neg de,if_pos rfl,Juu];done)
     ·(refine bgo func62 ?_;simp only[go_sem,simprocAttr]);(repeat'(first|(apply iteI<;>intro h)|((first|refine Jqm ?_|(refine Jqb (Jx2 _ _) ?_));simp only[go_sem,simprocAttr,hg,hg'])|(exfalso;omega)))
      all_goals first
       | exact absurd (Jsl _) (by assumption)
       | (rw[Jsa,if_pos rfl,if_neg h3,if_neg h4,if_neg h6,if_neg h5];done)
 ·(refine bgo func62 ?_;simp only[go_sem,simprocAttr]);(repeat'(first|(apply iteI<;>intro h)|((first|refine Jqm ?_|(refine Jqb (Jx2 _ _) ?_));simp only[go_sem,simprocAttr,hg,hg'])|fail))
  all_goals first
   | (rw[Jsa,if_neg hkk];done)
   | exact absurd (Eaw.1 (by assumption)) (J6x hkk)
   | exact absurd (by assumption) (J6x hkk)
theorem Kbz {a b:Int}:cmpI a b=if a=b then 0 else if a<b then -1 else 1:=by
 unfold cmpI;split
 ·rw[if_neg omg]
 ·split
  ·rw[if_neg omg]
  ·rw[if_pos omg]
theorem Jxe {a b:List UInt8}:cmpS a b=if a=b then 0 else if Op.bytesLess a b=true then -1 else 1:=by
 by_cases h:a=b
 ·subst h;rw[if_pos rfl,Jtu]
 ·rw[if_neg h,Kax h]
theorem Jz3 (n:Nat) (t u:Tree) (hn:(t.enc []).length<=n) (ht:okT t) (hu:okT u) (hs:(t.enc []).length<=1500000000000) (hs':(u.enc []).length<=1500000000000):Det cx 64 [.p (.sl (valL (t.enc []))),.p (.sl (valL (u.enc [])))] [] (.p (.int .i64 (cmpT t u))) []:=by
 induction n generalizing t u with
 | zero=>have:=Et t [];omega
 | succ n ih =>
 cases t with
 | mk k s g e kids =>
 cases u with
 | mk k' s' g' e' kids' =>
 have hok:=Lu.1 ht;have hok':=Lu.1 hu;rw[A6,Eaf] at hn hs hs';have hg:=Cc [] k s g e kids;have hg':=Cc [] k' s' g' e' kids';have hll:=Jqi kids;have hll':=Jqi kids';have hkl:=Jqh kids;have hkl':=Jqh kids';have hc:∀ p∈kids.list,∀ q∈kids'.list,Det cx 64 [.p (.sl (valL (p.2.enc []))),.p (.sl (valL (q.2.enc [])))] [] (.p (.int .i64 (cmp2 p q))) []:=fun p hp q hq=>ih p.2 q.2 (by have:=Jd7 hp;omega) (Jvb ht hp) (Jvb hu hq) (by have:=Jd7 hp;omega) (by have:=Jd7 hq;omega)
 have hCF:=J9q kids.list kids'.list omg omg hc;by_cases hkk:k=k'
 ·subst hkk;by_cases h3:k=3
  ·subst h3;have hm0:(kids.len:Int)=0:=by have:=hok.1;simp[G3] at this;omega
   have hm1:(kids'.len:Int)=0:=by have:=hok'.1;simp[G3] at this;omega
   rw[hm0] at hg;rw[hm1] at hg';(refine bgo func64 ?_;simp only[go_sem,simprocAttr]);(repeat'(first|((refine Jqm ?_);simp only[go_sem,simprocAttr,hg,hg',hg,hg'])|fail));refine Kes 6 [0,1,2,3,4,5] (.node 6 (.node 7 (.node 8 (.node 9 .leaf .nil) .nil) .nil) (.node 7 (.node 6 (.node 8 (.node 9 .leaf .nil) .nil) .nil) .nil)) 4 hm rfl kr kr ?_;simp only[go_sem,simprocAttr,hg,hg',hg,hg'];refine ⟨?_,?_⟩
   ·(repeat'(first|((refine Jqa (Kfx _ _ _ _ _ _ (Jvc hok.1 rfl) (Jvc hok'.1 rfl)) ?_);simp only[go_sem,simprocAttr])|fail));rw[Jsa,if_pos rfl,if_pos rfl]
   ·(repeat'(first|((refine Jqa (Kfx _ _ _ _ _ _ (Jvc hok.1 rfl) (Jvc hok'.1 rfl)) ?_);simp only[go_sem,simprocAttr])|fail));rw[Jsa,if_pos rfl,if_pos rfl]
  ·by_cases h4:k=4
   ·subst h4;(refine bgo func64 ?_;simp only[go_sem,simprocAttr]);(repeat'(first|((first|refine Jqm ?_|(refine Jqb (Jv9 _ _) ?_));simp only[go_sem,simprocAttr,hg,hg'])|fail))
    all_goals first
     | exact (by rw[Jsa,if_pos rfl,if_neg de,if_pos rfl,Jxe]:cmpT _ _=_).symm
   ·by_cases h6:k=6
    ·subst h6;(refine bgo func64 ?_;simp only[go_sem,simprocAttr]);(repeat'(first|(apply iteI<;>intro h)|((first|refine Jqm ?_|(refine Jqa (Ir [] s g e kids omg) ?_)|(refine Jqa (Ir [] s' g' e' kids' omg) ?_)|(refine Jqa (J8c _ _ omg omg) ?_)|(refine Jqa (Dy [] 6 s g e kids omg) ?_)|(refine Jqa (Dy [] 6 s' g' e' kids' omg) ?_)|refine Jqa hCF ?_);simp only[go_sem,simprocAttr,hg,hg'])|fail))
     all_goals first
      | (rw[Jsa,if_pos rfl,if_neg de,if_neg de,if_pos rfl,if_neg (by assumption)];done)
      | (rw[Jsa,if_pos rfl,if_neg de,if_neg de,if_pos rfl,if_pos (Eaw.1 (by assumption)),Juu];done)
    ·by_cases h5:k=5
     ·subst h5;(refine bgo func64 ?_;simp only[go_sem,simprocAttr]);(repeat'(first|((first|refine Jqm ?_|(refine Jqa (Dy [] 5 s g e kids omg) ?_)|(refine Jqa (Dy [] 5 s' g' e' kids' omg) ?_)|refine Jqa hCF ?_);simp only[go_sem,simprocAttr,hg,hg'])|fail))
      all_goals first
       | (rw[Jsa,if_pos rfl,if_neg de,if_neg de,if_neg de,if_pos rfl,Juu];done)
     ·have h3':=eq_false h3;have h4':=eq_false h4;have h5':=eq_false h5;have h6':=eq_false h6;(refine bgo func64 ?_;simp only[go_sem,simprocAttr]);(repeat'(first|((refine Jqm ?_);simp only[go_sem,simprocAttr,hg,hg',h3',h4',h5',h6'])|fail))
      all_goals first
       | (rw[Jsa,if_pos rfl,if_neg h3,if_neg h4,if_neg h6,if_neg h5];done)
 ·have hkk':=eq_false hkk;(refine bgo func64 ?_;simp only[go_sem,simprocAttr]);(repeat'(first|((first|refine Jqm ?_|(refine Jqa (Jv9 _ _) ?_));simp only[go_sem,simprocAttr,hg,hg',hkk'])|fail))
  all_goals first
   | (rw[Jsa,if_neg hkk,Kbz,if_neg hkk];done)
def Jqd (l:List Tree):List (List PV):=l.map fun t=>[.sl (valL (t.enc []))]
@[simp] theorem Jqf (l:List Tree):(Jqd l).length=l.length:=by simp[Jqd]
theorem Jq5 {l:List Tree} {i:Nat} {t:Tree} (h:l[i]? = some t):(Jqd l)[i]? = some [.sl (valL (t.enc []))]:=by simp[Jqd,h]
def Kfp:List Tree->Bool
 | a :: b :: l=>decide (0<=cmpT b a) && Kfp (b :: l)
 | _=>true
end Go.LX
namespace Go.LX
open Go Go.RowKit Go.Proofs
attribute [local irreducible] Al SWP Bi
theorem Jv4 {f:Forest} (h:(f.len:Int)=0):f=.nil:=by
 cases f with
 | nil=>rfl
 | cons a t r=>rw[Forest.len] at h;omega
def nilT:Tree:=.mk 0 [] false 0 .nil
def Jq3 (ks:List Tree) (i:Nat):Tree:=ks.getD i nilT
def ltB (ks:List Tree) (i j:Nat):Bool:=decide (cmpT (Jq3 ks i) (Jq3 ks j)<0\/cmpT (Jq3 ks i) (Jq3 ks j)=0/\i<j)
def okK (ks:List Tree):Prop:=∀ t∈ks,okT t
def insI (ks:List Tree) (i:Nat):List Nat->List Nat
 | []=>[i]
 | j :: l=>if ltB ks j i=true then j :: insI ks i l else i :: j :: l
def Ju9 (ks:List Tree):Nat->List Nat
 | 0=>[]
 | n+1=>insI ks n (Ju9 ks n)
def Jra (ks:List Tree):List Nat:=Ju9 ks ks.length
def Jqo (l:List Tree) (S:List Nat):List Tree:=S.map fun i=>Jq3 l i
end Go.LX
namespace Go.LX
open Go
structure YRow where
 kind:Int
 many:Int
 name:List UInt8
 s:List UInt8
 n:Int
 c:Node
def YRow.cells (r:YRow):List PV:=[.int .i64 r.kind,.int .i64 r.many,.str r.name,.str r.s,.int .i64 r.n,.int .i64 r.c.kind,.int .i64 r.c.many,.str r.c.name,.str r.c.s,.bool r.c.neg,.int .i64 r.c.e]
def rowL (v:List YRow):List (List PV):=v.map YRow.cells
mutual
inductive RT where
 | mk (kind:Int) (s:List UInt8) (n:Int) (c:Node) (kids:RF)
inductive RF where
 | nil
 | cons (name:List UInt8) (t:RT) (rest:RF)
end
def RF.len:RF->Nat
 | .nil=>0
 | .cons _ _ r=>r.len+1
mutual
def RT.enc (name:List UInt8):RT->List YRow
 | .mk k s n c kids=>⟨k,kids.len,name,s,n,c⟩ :: kids.enc
def RF.enc:RF->List YRow
 | .nil=>[]
 | .cons nm t r=>t.enc nm ++ r.enc
end
def RF.app:RF->RF->RF
 | .nil,g=>g
 | .cons nm t r,g=>.cons nm t (r.app g)
theorem Jsr:∀ f g:RF,(f.app g).len=f.len+g.len
 | .nil,g=>by simp[RF.app,RF.len]
 | .cons nm t r,g=>by simp only[RF.app,RF.len,Jsr r g];omega
theorem Jq6:∀ f g:RF,(f.app g).enc=f.enc ++ g.enc
 | .nil,g=>by simp[RF.app,RF.enc]
 | .cons nm t r,g=>by simp only[RF.app,RF.enc,Jq6 r g,Ea2]
theorem Jqs {name:List UInt8} {k:Int} {s:List UInt8} {n:Int} {c:Node} {kids:RF}:(RT.mk k s n c kids).enc name=⟨k,kids.len,name,s,n,c⟩ :: kids.enc:=by rw[RT.enc]
theorem Jqv {nm:List UInt8} {t:RT} {r:RF}:(RF.cons nm t r).enc=t.enc nm ++ r.enc:=by rw[RF.enc]
theorem Jsd:RF.nil.enc=[]:=by rw[RF.enc]
theorem Jsi (t:RT) (nm:List UInt8):1<=(t.enc nm).length:=by
 cases t;rw[Jqs];simp
theorem Jq7:∀ f:RF,f.len<=f.enc.length
 | .nil=>by simp[RF.len]
 | .cons nm t r=>by
  have:=Jsi t nm;have:=Jq7 r;rw[Jqv,Eac,RF.len];omega
@[simp] theorem Jq0 (v:List YRow):(rowL v).length=v.length:=by simp[rowL]
theorem Jxf (n:YRow) (v:List YRow):rowL (n :: v)=n.cells :: rowL v:=rfl
theorem Kei (a b:List YRow):rowL (a ++ b)=rowL a ++ rowL b:=by simp[rowL]
theorem Jr5 {k m:Int} {nm s:List UInt8} {n:Int} {c:Node}:YRow.cells ⟨k,m,nm,s,n,c⟩=[.int .i64 k,.int .i64 m,.str nm,.str s,.int .i64 n,.int .i64 c.kind,.int .i64 c.many,.str c.name,.str c.s,.bool c.neg,.int .i64 c.e]:=rfl
theorem J1h (v:List YRow):∀ q∈rowL v,q.length=11:=by
 intro q hq;obtain ⟨n,_,rfl⟩:=Eav.1 hq;rfl
theorem J4p {v:List YRow} {i:Nat} {a b:List YRow} (h:v.drop i=a ++ b):((rowL v).drop i).take a.length=rowL a:=by
 have:(rowL v).drop i=rowL a ++ rowL b:=by rw[<- Kei,<- h];simp[rowL,Edh]
 rw[this];simp
theorem Js5 {v:List YRow} {i:Nat} {n:YRow} {b:List YRow} (h:v.drop i=n :: b):(rowL v)[i]? = some n.cells:=by
 have:v[i]? = some n:=by
  have:=congrArg (·[0]?) h;simpa using this
 simp[rowL,this]
theorem J4f {v:List YRow} {i:Nat} {a:List YRow} (h:v.drop i=a) (ha:a≠[]):i+a.length=v.length:=by
 have:=congrArg List.length h;simp at this;have:1<=a.length:=by cases a<;>simp_all
 omega
def RF.list:RF->List (List UInt8×RT)
 | .nil=>[]
 | .cons nm t r=>(nm,t) :: r.list
theorem Jq4:∀ f:RF,f.list.length=f.len
 | .nil=>rfl
 | .cons _ _ r=>by simp[RF.list,RF.len,Jq4 r]
def RT.kids:RT->RF
 | .mk _ _ _ _ k=>k
def RT.kind:RT->Int
 | .mk k _ _ _ _=>k
def RT.s:RT->List UInt8
 | .mk _ s _ _ _=>s
def RT.n:RT->Int
 | .mk _ _ n _ _=>n
def RT.c:RT->Node
 | .mk _ _ _ c _=>c
abbrev RKT:=List UInt8×RT
theorem Jve {nm:List UInt8} {t:RT} {r:RF}:(RF.cons nm t r).len=r.len+1:=rfl
theorem Jvw (t:RT) (nm:List UInt8):(t.enc nm).length=(t.enc []).length:=by
 cases t;rw[Jqs,Jqs];rfl
def rnxt (L:Nat):List YRow->Nat->Option Nat
 | _,0=>some 0
 | [],_+1=>none
 | n :: r,o+1=>if n.many<0\/(L:Int)<n.many then none else (rnxt L r (o+n.many.toNat)).map (· + 1)
theorem J5k:∀ (m:Nat) (F:RF),m<=F.len->∃ A B:RF,F=A.app B/\A.len=m
 | 0,F,_=>⟨.nil,F,rfl,rfl⟩
 | m+1,.nil,h=>by simp[RF.len] at h
 | m+1,.cons nm t r,h=>by
  obtain ⟨A,B,h1,h2⟩:=J5k m r (by simp only[RF.len] at h;omega);exact ⟨.cons nm t A,B,by rw[RF.app,<- h1],by simp only[RF.len,h2]⟩
theorem J0x {L:Nat}:∀ {v:List YRow} {o k:Nat},rnxt L v o=some k->∃ F:RF,F.len=o/\v=F.enc ++ v.drop k/\F.enc.length=k
 | v,0,k,h=>by
  simp[rnxt] at h;subst h;exact ⟨.nil,rfl,by simp[Jsd],by simp[Jsd]⟩
 | [],o+1,k,h=>by simp[rnxt] at h
 | n :: r,o+1,k,h=>by
  simp only[rnxt] at h;split at h
  ·cases h
  ·rename_i hn;obtain ⟨k',h',rfl⟩:=Eak.1 h;obtain ⟨F,h1,h2,h3⟩:=J0x h';obtain ⟨A,B,rfl,hA⟩:=J5k n.many.toNat F omg;rw[Jsr] at h1;rw[Jq6] at h2 h3;refine ⟨.cons n.name (.mk n.kind n.s n.n n.c A) B,by simp only[RF.len];omega,?_,?_⟩
   ·rw[Jqv,Jqs,Eb7];have e:(⟨n.kind,A.len,n.name,n.s,n.n,n.c⟩:YRow)=n:=by
     have:(A.len:Int)=n.many:=by omega
     rw[this]
    rw[e];simp only[Ea8,Ea2];congr 1;rw[<- Ea2];exact h2
   ·rw[Jqv,Jqs,Eac,Eaf];rw[Eac] at h3;omega
theorem Kfe {L:Nat}:∀ (n:Nat) (F:RF) (r:List YRow),F.enc.length<=n->F.enc.length<=L->rnxt L (F.enc ++ r) F.len=some F.enc.length
 | _,.nil,r,_,_=>by simp[RF.len,rnxt,Jsd]
 | 0,.cons nm t rest,r,h,_=>by
  have:=Jsi t nm;rw[Jqv,Eac] at h;omega
 | n+1,.cons nm (.mk k s g e kids) rest,r,h,hL=>by
  rw[Jqv,Jqs,Eac,Eaf] at h hL;have hk:=Jq7 kids;have ih:=Kfe (L:=L) n (kids.app rest) r (by rw[Jq6,Eac];omega) (by rw[Jq6,Eac];omega);rw[Jq6,Jsr,Ea2,Eac] at ih;simp only[Jqv,Jqs,Ea8,Ea2,RF.len,rnxt];rw[if_neg omg];simp only[Int.toNat_natCast];rw[Ecu rest.len,ih];simp only[Option.map_some,Eaf,Eac]
theorem J8d {v:List YRow}:rnxt v.length v 1=some v.length ↔ ∃ nm t,v=RT.enc nm t:=by
 constructor
 ·intro h;obtain ⟨F,h1,h2,h3⟩:=J0x h;rw[List.drop_length,Ea5] at h2
  match F,h1,h2 with
  | .cons nm t .nil,_,h2=>exact ⟨nm,t,by rw[h2,Jqv,Jsd,Ea5]⟩
 ·rintro ⟨nm,t,rfl⟩;have:=Kfe (L:=(t.enc nm).length) (t.enc nm).length (.cons nm t .nil) [] (by rw[Jqv,Jsd];simp) (by rw[Jqv,Jsd];simp);simpa[Jqv,Jsd,RF.len] using this
def Jtm (v:List YRow) (i o:Nat):Int:=match rnxt v.length (v.drop i) o with
 | some k=>((i+k:Nat):Int)
 | none=>-1
theorem J96 (v:List YRow) (i:Nat):Jtm v i 0=i:=by
 unfold Jtm;have:rnxt v.length (v.drop i) 0=some 0:=by cases v.drop i<;>rfl
 rw[this];rfl
theorem Kcj {v:List YRow} {i o:Nat} (h:v.length<=i) (ho:0<o):Jtm v i o = -1:=by
 unfold Jtm;rw[Ea0 h];cases o with
 | zero=>omega
 | succ o=>rfl
theorem Kb1 {v:List YRow} {i o:Nat} {n:YRow} (h:v[i]? = some n) (ho:0<o) (hb:n.many<0\/(v.length:Int)<n.many):Jtm v i o = -1:=by
 have hi:=(Eab.1 h).1;unfold Jtm;rw[Eax hi,(Eab.1 h).2];cases o with
 | zero=>omega
 | succ o=>simp only[rnxt];rw[if_pos hb]
theorem J99 {v:List YRow} {i o:Nat} {n:YRow} (h:v[i]? = some n) (hb:¬ (n.many<0\/(v.length:Int)<n.many)):Jtm v i (o+1)=Jtm v (i+1) (o+n.many.toNat):=by
 have hi:=(Eab.1 h).1;unfold Jtm;rw[Eax hi,(Eab.1 h).2];simp only[rnxt];rw[if_neg hb];cases rnxt v.length (v.drop (i+1)) (o+n.many.toNat) with
 | none=>rfl
 | some k=>simp only[Option.map_some];omega
theorem Jzc {v:List YRow} {i:Nat} {n:YRow} (h:v[i]? = some n):(rowL v)[i]? = some [.int .i64 n.kind,.int .i64 n.many,.str n.name,.str n.s,.int .i64 n.n,.int .i64 n.c.kind,.int .i64 n.c.many,.str n.c.name,.str n.c.s,.bool n.c.neg,.int .i64 n.c.e]:=by
 simp[rowL,h,YRow.cells]
theorem J2q:∀ {a b c d:RF},a.app b=c.app d->a.len=c.len->a=c/\b=d
 | .nil,b,.nil,d,h,_=>⟨rfl,h⟩
 | .nil,_,.cons _ _ _,_,_,h=>by simp[RF.len] at h
 | .cons _ _ _,_,.nil,_,_,h=>by simp[RF.len] at h
 | .cons nm t a,b,.cons nm' t' c,d,h,hl=>by
  rw[RF.app,RF.app] at h;injection h with h1 h2 h3
  obtain ⟨rfl,rfl⟩:=J2q (a:=a) (b:=b) (c:=c) (d:=d) h3 (by simpa[RF.len] using hl);exact ⟨by rw[h1,h2],rfl⟩
theorem Kfj:∀ (n:Nat) {F G:RF},F.enc.length<=n->F.len=G.len->F.enc=G.enc->F=G
 | _,.nil,.nil,_,_,_=>rfl
 | _,.nil,.cons _ _ _,_,h,_=>by simp[RF.len] at h
 | _,.cons _ _ _,.nil,_,h,_=>by simp[RF.len] at h
 | 0,.cons nm t r,.cons _ _ _,h,_,_=>by
  have:=Jsi t nm;rw[Jqv,Eac] at h;omega
 | n+1,.cons nm (.mk k s g e kids) r,.cons nm' (.mk k' s' g' e' kids') r',h,hl,he=>by
  rw[Jqv,Jqs,Eac,Eaf] at h;rw[Jqv,Jqv,Jqs,Jqs,Ea8,Ea8] at he;injection he with h1 h2
  injection h1 with g1 g2 g3 g4 g5 g6
  rw[<- Jq6,<- Jq6] at h2;simp only[RF.len] at hl;have hk:kids.len=kids'.len:=by omega
  have:=Kfj n (F:=kids.app r) (G:=kids'.app r') (by rw[Jq6,Eac];omega) (by rw[Jsr,Jsr];omega) h2;obtain ⟨rfl,rfl⟩:=J2q this hk;rw[g1,g3,g4,g5,g6]
theorem Kep {t u:RT} {a b:List UInt8} (h:t.enc a=u.enc b):a=b/\t=u:=by
 have:=Kfj (RF.cons a t .nil).enc.length (F:=.cons a t .nil) (G:=.cons b u .nil) (Eaj _) rfl (by rw[Jqv,Jqv,h]);injection this with h1 h2 _
 exact ⟨h1,h2⟩
theorem J9g {v:List YRow} (h:Jtm v 0 1=v.length):∃ nm t,v=RT.enc nm t:=by
 refine J8d.1 ?_;unfold Jtm at h;rw[Ebw] at h;cases hn:rnxt v.length v 1 with
 | none=>rw[hn] at h;simp at h
 | some k=>rw[hn] at h;simp at h;rw[show k=v.length by omega]
def Juf:Node:=⟨0,0,[],[],false,0⟩
def Js2 (c:Node):Prop:=c.kind<5/\c.name=[]/\G3 c.kind c.s c.neg c.e c.many
instance (c:Node):Decidable (Js2 c):=by unfold Js2;infer_instance
def J93 (n:Int) (c:Node):Prop:=0<=n/\n<=5/\Js2 c
instance (n:Int) (c:Node):Decidable (J93 n c):=by unfold J93;infer_instance
def fldS (s:List UInt8):Prop:=(Je s).2.2=0/\∀ x∈(Je s).1,x.part=false
instance (s:List UInt8):Decidable (fldS s):=by unfold fldS;infer_instance
def Kdt (k:Int) (s:List UInt8) (n:Int) (c:Node) (m:Int):Prop :=
 if k=0 then m=0/\s=[]/\n=0/\c=Juf
 else if k=1 then 0<=m/\1<=n/\n<=31/\s=[]/\c=Juf
 else if k=9 then m=0/\s=[]/\J93 n c
 else if k=2 then 0<=m/\(n=0\/n=1)/\s=[]/\c=Juf
 else if k=4 then 0<=m/\n=0/\s=[]/\c=Juf
 else if k=3\/k=5\/k=6 then m=1/\n=0/\s=[]/\c=Juf
 else if k=7\/k=8 then m=1/\n=0/\c=Juf/\fldS s
 else False
instance (k:Int) (s:List UInt8) (n:Int) (c:Node) (m:Int):Decidable (Kdt k s n c m):=by unfold Kdt;infer_instance
def RRise (l:List RKT):Prop:=l.Pairwise fun p q=>Op.bytesLess p.1 q.1=true
def rkidOK (k:Int) (p:RKT):Prop:=(p.2.kind=9 ↔ k=1)/\(k≠2->p.1=[])/\(k=2->valid p.1=true)
def Khk (k:Int) (l:List RKT):Prop:=(∀ p∈l,rkidOK k p)/\(k=2->RRise l)
def findR (name:List UInt8):List RKT->Option RT
 | []=>none
 | p :: l=>if p.1=name then some p.2 else findR name l
def leadR:RT->List Step->Option RT
 | t,[]=>some t
 | t,x :: p=>if t.kind=2/\x.part=false then (findR x.name t.kids.list).bind fun u=>leadR u p else none
def Kgk (t:RT) (p:List Step):Prop:=∃ u,leadR t p=some u/\u.kind=1
def leadOK (k:Int) (s:List UInt8) (l:List RKT):Prop:=(k=7\/k=8)->∀ p,l.head? = some p->Kgk p.2 (Je s).1
mutual
def okR:RT->Prop
 | .mk k s n c kids=>Kdt k s n c kids.len/\Khk k kids.list/\leadOK k s kids.list/\okRF kids
def okRF:RF->Prop
 | .nil=>True
 | .cons _ t r=>okR t/\okRF r
end
theorem okRF_nil:okRF .nil:=by rw[okRF];trivial
end Go.LX
namespace Go.LX
open Go Go.RowKit Go.Proofs
attribute [local irreducible] Al SWP Bi
def Kgi:Nat->RF->List (List PV)
 | _,.nil=>[]
 | i,.cons nm t r=>[.int .i64 i,.int .i64 (i+(t.enc nm).length:Nat)] :: Kgi (i+(t.enc nm).length) r
def Jrk (l:List RKT):List (List PV):=l.map fun p=>[.sl (rowL (p.2.enc []))]
@[simp] theorem tpartL_nil:Jrk []=[]:=rfl
theorem Jwq {l:List RKT} {k:Nat} {p:List UInt8×RT} (h:l[k]? = some p):Jrk (l.take (k+1))=Jrk (l.take k) ++ [[.sl (rowL (p.2.enc []))]]:=by
 rw[Ebh,h];simp[Jrk]
theorem Jrg (l:List RKT):(Jrk l).length=l.length:=by simp[Jrk]
theorem Jr8 {l:List RKT} {i:Nat} {p:RKT} (h:l[i]? = some p):(Jrk l)[i]? = some [.sl (rowL (p.2.enc []))]:=by simp[Jrk,h]
def atomL (l:List (Int×Node)):List (List PV):=l.map fun a=>[.int .i64 a.1,.int .i64 a.2.kind,.int .i64 a.2.many,.str a.2.name,.str a.2.s,.bool a.2.neg,.int .i64 a.2.e]
def Khe (l:List RKT):List (Int×Node):=l.map fun p=>(p.2.n,p.2.c)
end Go.LX
namespace Go.LX
open Go
def ndT (n:Node):Tree:=.mk n.kind n.s n.neg n.e .nil
def rootN:Tree->Node
 | .mk k s g e kids=>⟨k,kids.len,[],s,g,e⟩
def leafB:Tree->Bool
 | .mk _ _ _ _ .nil=>true
 | .mk _ _ _ _ (.cons _ _ _)=>false
def J0l (n c:Int):Bool :=
 if n=0 then decide (c=0) else if n=1 then decide (c≠0) else if n=2 then decide (c<0) else if n=3 then decide (c<=0) else if n=4 then decide (0<c) else decide (0<=c)
def holdsB (a:Int×Node) (x:Node):Bool:=J0l a.1 (cmpT (ndT x) (ndT a.2))
def letsB (mask kind:Int):Bool:=decide (mask.toNat / 2 ^ kind.toNat % 2=1)
def Kgr (mask:Int) (l:List (Int×Node)) (x:Node):Bool:=decide (Js2 x) && (letsB mask x.kind && l.all fun a=>holdsB a x)
def keyV (s:List UInt8) (v:Tree):List Node:=match getT (Je s).1 v with
 | .ok u=>u.enc []
 | .error _=>[]
def keyT (s:List UInt8) (v:Tree):Tree:=match getT (Je s).1 v with
 | .ok u=>u
 | .error _=>.mk 0 [] false 0 .nil
def J73 (ps:List (Tree->Bool)):Tree->Bool:=match ps with
 | []=>fun _=>true
 | p :: _=>p
def partP (kids:List KT) (nm:List UInt8) (p:Tree->Bool):Bool:=match Ch nm kids with
 | some u=>p u
 | none=>false
def objS (kids:List KT):List RKT->List (Tree->Bool)->Bool
 | r :: rows,p :: ps=>partP kids r.1 p && objS kids rows ps
 | _,_=>true
def tupS:List (Tree->Bool)->List KT->Bool
 | [],[]=>true
 | p :: ps,q :: l=>p q.2 && tupS ps l
 | [],_ :: _=>false
 | _ :: _,[]=>false
def sKey:List UInt8:=[107,101,121]
def sVal:List UInt8:=[118,97,108,117,101]
def entK:Tree->Option (List UInt8×Tree)
 | .mk k _ _ _ kids=>if k=6/\kids.len=2 then (match Ch sKey kids.list,Ch sVal kids.list with
  | some (.mk k' s' _ _ _),some x=>if k'=4 then some (s',x) else none
  | _,_=>none) else none
def ahead (last:Option (List UInt8)) (key:List UInt8):Bool:=match last with
 | none=>true
 | some l=>Op.bytesLess l key
def entS (P:Tree->Bool):Option (List UInt8)->List KT->Bool
 | _,[]=>true
 | last,q :: l=>match entK q.2 with
  | none=>false
  | some (key,x)=>ahead last key && (P x && entS P (some key) l)
def Kec (a b:Tree):Bool:=decide (a.enc []=b.enc [])
def aheadT (last:Option Tree) (key:Tree):Bool:=match last with
 | none=>true
 | some l=>decide (cmpT l key<0)
def Kdv (P:Tree->Bool) (q:KT):Bool:=decide (q.2.kind=5) && (decide (q.2.kids.len≠0) && q.2.kids.list.all fun x=>P x.2)
def J26 (s:List UInt8) (l:List KT):List Tree:=l.map fun q=>keyT s q.2
def Ket (l:List Tree):Tree:=l.headD (.mk 0 [] false 0 .nil)
def Kf2 (P:Tree->Bool) (s:List UInt8):Option Tree->List KT->Bool
 | _,[]=>true
 | last,q :: l=>Kdv P q && (((J26 s q.2.kids.list).all fun k=>Kec k (Ket (J26 s q.2.kids.list))) && (aheadT last (Ket (J26 s q.2.kids.list)) && Kf2 P s (some (Ket (J26 s q.2.kids.list))) l))
def allP (P:Tree->Bool) (l:List KT):Bool:=l.all fun q=>P q.2
def inK (k:Int) (s:List UInt8) (n:Int) (rows:List RKT) (ps:List (Tree->Bool)) (v:Tree):Bool :=
 if k=0 then true
 else if k=1 then leafB v && Kgr n (Khe rows) (rootN v)
 else if k=2 then decide (v.kind=6) && ((decide (n≠0) || decide (v.kids.len=rows.length)) && objS v.kids.list rows ps)
 else if k=3 then decide (v.kind=6) && allP (J73 ps) v.kids.list
 else decide (v.kind=5) && (
  if k=4 then tupS ps v.kids.list
  else if k=6 then entS (J73 ps) none v.kids.list
  else if k=8 then Kf2 (J73 ps) s none v.kids.list
  else if k=7 then allP (J73 ps) v.kids.list && Kfp (J26 s v.kids.list)
  else allP (J73 ps) v.kids.list)
end Go.LX
namespace Go.LX
open Go Go.Proofs
end Go.LX
namespace Go.LX
open Go Go.RowKit Go.Proofs
attribute [local irreducible] Al SWP Bi
theorem J2p {n:Node} (h:Js2 n):n.many=0:=by
 obtain ⟨hk,_,h⟩:=h;unfold G3 at h;split at h
 ·exact h.1
 ·split at h
  ·exact h.1
  ·split at h
   ·exact h.2.1
   ·split at h
    ·omega
    ·exact h.elim
theorem J9y {n:Node} (h:Js2 n):okT (ndT n):=by
 have hm:=J2p h;obtain ⟨hk,hn,ho⟩:=h;rw[hm] at ho;exact Lu.2 ⟨ho,Sb _,I6⟩
theorem Kho {n:Node} (h:Js2 n):(ndT n).enc []=[n]:=by
 have hm:=J2p h;obtain ⟨hk,hn,ho⟩:=h;rw[ndT,A6,Bl];cases n;simp only at hm hn;subst hm;subst hn;rfl
end Go.LX
namespace Go.LX
open Go Go.RowKit Go.Proofs Go.Proofs.Tryz
attribute [local irreducible] Al SWP Bi
theorem J81 {n:Node} (hk:n.kind<5):Jw [n]=decide (Js2 n):=by
 rw[Ea1,Iq,decide_eq_true_eq];constructor
 ·rintro ⟨t,ht,h⟩;cases t with
  | mk k s g e kids =>
   rw[A6] at h;have h1:=(List.cons.inj h).1;have h2:=(List.cons.inj h).2;cases kids with
   | nil =>
    subst h1;exact ⟨hk,rfl,(Lu.1 ht).1⟩
   | cons a b c =>
    rw[A0] at h2;have:=congrArg List.length h2;have hp:=Et b a;simp at this;omega
 ·intro h;exact ⟨ndT n,J9y h,(Kho h).symm⟩
theorem d_Says (n c:Int):Det cx 63 [.p (.int .i64 n),.p (.int .i64 c)] [] (.p (.bool (J0l n c))) []:=by
 (refine bgo func63 ?_;simp only[go_sem,simprocAttr]);(repeat'(apply iteI<;>intro h))
 all_goals((unfold J0l)<;>(simp only[*,if_true,if_false]))
 all_goals first
  | rfl
  | (by_cases hc:c=0<;>simp[hc])
end Go.LX
namespace Go.LX
open Go Go.RowKit Go.Proofs
attribute [local irreducible] Al SWP Bi
theorem Jvs (s:List UInt8):(Je s).1.length<=20/\∀ x∈(Je s).1,Bc x:=by
 by_cases h:(Je s).2.2=0
 ·obtain ⟨_,h2,_⟩:=Kb0 h;exact h2
 ·obtain ⟨_,h2,_⟩:=Kbt h;rw[h2];exact ⟨by simp,by simp⟩
def keysL (s:List UInt8) (l:List KT):List (List PV):=l.map fun q=>[.sl (valL (keyV s q.2))]
def Jyj (t:Tree) (name:List UInt8):Option Tree:=if t.kind=6 then Ch name t.kids.list else none
theorem Jzt {v:List YRow} {j:Nat} {nm:List UInt8} {t:RT} {b:List YRow} (h:v.drop j=t.enc nm ++ b):∃ (k n:Int) (s:List UInt8) (g:Int) (e:Node),(rowL v)[j]? = some [.int .i64 k,.int .i64 n,.str nm,.str s,.int .i64 g,.int .i64 e.kind,.int .i64 e.many,.str e.name,.str e.s,.bool e.neg,.int .i64 e.e]:=by
 cases t with
 | mk k s g e kids =>
  rw[Jqs] at h;exact ⟨k,kids.len,s,g,e,Js5 h⟩
def Jtl (l:List (List UInt8×RT)):List (List PV):=l.map fun p=>[.str p.1]
@[simp] theorem tnameL_nil:Jtl []=[]:=rfl
def placeR (rows:List RKT) (i:Nat):Nat:=1+((rows.take i).map fun p=>(p.2.enc p.1).length).sum
end Go.LX
namespace Go.LX
open Go Go.RowKit Go.Proofs Go.Proofs.Tryz
attribute [local irreducible] Al SWP Bi
def Jrc (x:Step) (t:Tree):Except Nat Tree :=
 if t.kind=0 then .ok nilT else if x.part=true then (if t.kind=5 then .ok ((t.kids.list[x.n.toNat]?.map (·.2)).getD nilT) else .error 5) else if t.kind=6 then .ok ((Ch x.name t.kids.list).getD nilT) else .error 5
def Jrd:List Step->Tree->Except Nat Tree
 | [],t=>.ok t
 | x :: p,t=>match Jrc x t with
  | .ok u=>Jrd p u
  | .error e=>.error e
theorem J7x:valL (nilT.enc [])=[[.int .i64 0,.int .i64 0,.str [],.str [],.bool false,.int .i64 0]]:=by unfold nilT;rw[A6,Bl];rfl
theorem Jt1:(nilT.enc []).length=1:=by unfold nilT;rw[A6,Bl];rfl
def resV:Except Nat Tree->PV
 | .ok t=>.sl (valL (t.enc []))
 | .error _=>.snil
def resE:Except Nat Tree->Int
 | .ok _=>0
 | .error e=>e
theorem Jqz (r:Except Nat Tree):getR r=.tup [resV r,.int .i64 (resE r)]:=by cases r<;>rfl
theorem Jut:Det cx 72 [] [] (.p (.sl (valL (nilT.enc [])))) []:=by
 rw[J7x];(refine bgo func72 ?_;simp only[go_sem,simprocAttr])
 skip
theorem Jvo {x:Step} {t u:Tree} (h:Jrc x t=.ok u):(u.enc []).length<=(t.enc []).length:=by
 have h1:=Et t [];have hn:(nilT.enc []).length<=(t.enc []).length:=by rw[Jt1];exact h1
 have hk:∀ p∈t.kids.list,(p.2.enc []).length<=(t.enc []).length:=by
  obtain ⟨k,s,g,e,kids⟩:=t;intro p hp;have:=Jd7 hp;rw[A6,Eaf];simp only[Tree.kids] at this;omega
 unfold Jrc at h;split at h
 ·cases h;exact hn
 ·split at h
  ·split at h
   ·cases h;cases hq:t.kids.list[x.n.toNat]? with
    | none=>exact hn
    | some p=>exact hk p (Eae hq)
   ·cases h
  ·split at h
   ·cases h;cases hq:Ch x.name t.kids.list with
    | none=>exact hn
    | some w =>
     obtain ⟨p,hp,rfl,_⟩:=Kj7 hq;exact hk p hp
   ·cases h
theorem Juj {x:Step} {t:Tree} {er:Nat} (h:Jrc x t=.error er):er=5:=by
 unfold Jrc at h
 repeat' split at h
 all_goals first
  | (cases h;rfl)
  | cases h
theorem Jxh:∀ {p:List Step} {t u:Tree},Jrd p t=.ok u->(u.enc []).length<=(t.enc []).length
 | [],t,u,h=>by rw[Jrd] at h;cases h;exact Eaj _
 | x :: p,t,u,h=>by
  rw[Jrd] at h;cases hs:Jrc x t with
  | ok w=>rw[hs] at h;exact Nat.le_trans (Jxh h) (Jvo hs)
  | error e=>rw[hs] at h;cases h
theorem Jsp:∀ {p:List Step} {t:Tree} {er:Nat},Jrd p t=.error er->er=5
 | [],t,er,h=>by rw[Jrd] at h;cases h
 | x :: p,t,er,h=>by
  rw[Jrd] at h;cases hs:Jrc x t with
  | ok w=>rw[hs] at h;exact Jsp h
  | error e=>rw[hs] at h;cases h;exact Juj hs
theorem J3f {nm:List UInt8} {n:Int} {s:List UInt8} {g:Bool} {e:Int} {kids:Forest} {b:Bool}:Jrc ⟨b,nm,n⟩ (.mk 0 s g e kids)=.ok nilT:=by unfold Jrc;exact if_pos rfl
theorem Jw4 {nm:List UInt8} {n:Int} {s:List UInt8} {g:Bool} {e:Int} {kids:Forest}:Jrc ⟨false,nm,n⟩ (.mk 6 s g e kids)=.ok ((Ch nm kids.list).getD nilT):=by unfold Jrc;simp[Tree.kind,Tree.kids]
theorem Jyn {nm:List UInt8} {n:Int} {k:Int} {s:List UInt8} {g:Bool} {e:Int} {kids:Forest} (h0:¬ k=0) (h6:¬ k=6):Jrc ⟨false,nm,n⟩ (.mk k s g e kids)=.error 5:=by unfold Jrc;simp[Tree.kind,h0,h6]
theorem Jza {nm:List UInt8} {n:Int} {s:List UInt8} {g:Bool} {e:Int} {kids:Forest}:Jrc ⟨true,nm,n⟩ (.mk 5 s g e kids)=.ok ((kids.list[n.toNat]?.map (·.2)).getD nilT):=by unfold Jrc;simp[Tree.kind,Tree.kids]
theorem J3l {nm:List UInt8} {n:Int} {k:Int} {s:List UInt8} {g:Bool} {e:Int} {kids:Forest} (h0:¬ k=0) (h6:¬ k=5):Jrc ⟨true,nm,n⟩ (.mk k s g e kids)=.error 5:=by unfold Jrc;simp[Tree.kind,h0,h6]
theorem J4l (t:Tree) (name:List UInt8) (n:Int) (hv:(t.enc []).length<=1500000000000):Det cx 46 [.p (.str name),.p (.sl (valL (t.enc [])))] [] (getR (Jrc ⟨false,name,n⟩ t)) []:=by
 cases t with
 | mk k s g e kids =>
 have hkv:kids.enc.length<=1499999999999:=by rw[A6] at hv;simp at hv;omega
 by_cases h0:k=0
 ·subst h0;rw[J3f,getR];(refine bgo func46 ?_;simp only[go_sem,simprocAttr,Cc]);(repeat'(first|((refine Jqa Jut ?_);simp only[go_sem,simprocAttr])|fail))
 ·by_cases h6:k=6
  ·subst h6;rw[Jw4];have hF:=Re [] s g e kids name hkv;cases hf:Ch name kids.list with
   | none =>
    rw[hf] at hF;unfold Oo at hF;rw[Option.getD_none,getR];(refine bgo func46 ?_;simp only[go_sem,simprocAttr,Cc]);(repeat'(first|((first|refine Jqa Jut ?_|refine Jqa hF ?_);simp only[go_sem,simprocAttr])|fail))
   | some t =>
    rw[hf] at hF;unfold Oo at hF;rw[Option.getD_some,getR];(refine bgo func46 ?_;simp only[go_sem,simprocAttr,Cc]);(repeat'(first|((refine Jqa hF ?_);simp only[go_sem,simprocAttr])|fail))
  ·rw[Jyn h0 h6,getR];have c0:=eq_false h0;have c6:=eq_false h6;(refine bgo func46 ?_;simp only[go_sem,simprocAttr,Cc,c0,c6])
   all_goals rfl
theorem J8l (t:Tree) (name:List UInt8) (n:Int) (hn:0<=n) (hv:(t.enc []).length<=1500000000000):Det cx 47 [.p (.int .i64 n),.p (.sl (valL (t.enc [])))] [] (getR (Jrc ⟨true,name,n⟩ t)) []:=by
 cases t with
 | mk k s g e kids =>
 have hkv:kids.enc.length<=1499999999999:=by rw[A6] at hv;simp at hv;omega
 have hll:=Jqi kids;have hkl:=Jqh kids;obtain ⟨m,rfl⟩:∃ m:Nat,n=m:=⟨n.toNat,omg⟩
 by_cases h0:k=0
 ·subst h0;rw[J3f,getR];(refine bgo func47 ?_;simp only[go_sem,simprocAttr,Cc]);(repeat'(first|((refine Jqa Jut ?_);simp only[go_sem,simprocAttr])|fail))
 ·by_cases h5:k=5
  ·subst h5;rw[Jza];have hP:=Dy [] 5 s g e kids hkv;rw[show (m:Int).toNat=m from rfl];by_cases hlt:m<kids.len
   ·obtain ⟨p,hpk⟩:∃ p,kids.list[m]? = some p:=⟨_,Eaa omg⟩
    have hpg:=Hx hpk;have c1:((kids.len:Int)<=(m:Int))=False:=eq_false omg;rw[hpk,Option.map_some,Option.getD_some,getR];(refine bgo func47 ?_;simp only[go_sem,simprocAttr,Cc]);(repeat'(first|((refine Jqa hP ?_);simp only[go_sem,simprocAttr,hpg,c1,A5,hkl])|fail))
   ·rw[Ece omg,Option.map_none,Option.getD_none,getR];have c1:((kids.len:Int)<=(m:Int))=True:=eq_true omg;(refine bgo func47 ?_;simp only[go_sem,simprocAttr,Cc]);(repeat'(first|((first|refine Jqa hP ?_|refine Jqa Jut ?_);simp only[go_sem,simprocAttr,c1,A5,hkl])|fail))
  ·rw[J3l h0 h5,getR];have c0:=eq_false h0;have c6:=eq_false h5;(refine bgo func47 ?_;simp only[go_sem,simprocAttr,Cc,c0,c6])
   all_goals rfl
theorem Jvv:∀ (p:List Step) (t:Tree),p.length<=1000000->(∀ x∈p,Bc x)->(t.enc []).length<=1500000000000->Det cx 21 [.p (.sl (Bb p)),.p (.sl (valL (t.enc [])))] [] (getR (Jrd p t)) []
 | [],t,_,_,hv=>by
  rw[Jrd,getR];(refine bgo func21 ?_;simp only[go_sem,simprocAttr,Aq])
  skip
 | x :: p,t,hp,hok,hv=>by
  have hgx:(Bb (x :: p))[0]? = some [.bool x.part,.str x.name,.int .i64 x.n]:=rfl;have hel3:∀ q∈Bb (x :: p),q.length=3:=by
   intro q hq;obtain ⟨y,_,rfl⟩:=Eav.1 hq;rfl
  have hdx:(Bb (x :: p)).drop 1=Bb p:=rfl;have hl1:(x :: p).length=p.length+1:=rfl;have htk:(Bb p).take p.length=Bb p:=Ead (by rw[Aq];exact Eaj _);have hlp:p.length<=1000000:=by rw[hl1] at hp;omega
  have hox:∀ y∈p,Bc y:=fun y hy=>hok y (Eah _ hy)
  have hxx:=hok x Eag;rw[Jrd];obtain ⟨b,nm,n⟩:=x;have hF:=J4l t nm 0 hv;cases b with
  | false =>
   have hn0:n=0:=hxx.1;subst hn0;cases hs:Jrc ⟨false,nm,0⟩ t with
   | ok u =>
    rw[hs,getR] at hF;have hR:=Jvv p u hlp hox (Nat.le_trans (Jvo hs) hv);rw[Jqz] at hR ⊢;(refine bgo func21 ?_;simp only[go_sem,simprocAttr,Aq,hgx,hl1]);(repeat'(first|refine And.intro hel3 ?_|(apply iteI<;>intro h)|refine Jqj ?_|((first|refine Jqa hF ?_|refine Jqa hR ?_);simp only[go_sem,simprocAttr,Aq,hgx,hdx,hl1])|(exfalso;omega)))
   | error er =>
    rw[hs,getR] at hF;have h5:=Juj hs;subst h5;rw[getR];(refine bgo func21 ?_;simp only[go_sem,simprocAttr,Aq,hgx,hl1]);(repeat'(first|(apply iteI<;>intro h)|((refine Jqa hF ?_);simp only[go_sem,simprocAttr,hgx])|(exfalso;omega)))
  | true =>
   have hn0:0<=n:=hxx.2.1;have hP:=J8l t nm n hn0 hv;cases hs:Jrc ⟨true,nm,n⟩ t with
   | ok u =>
    rw[hs,getR] at hP;have hR:=Jvv p u hlp hox (Nat.le_trans (Jvo hs) hv);rw[Jqz] at hR ⊢;cases hs2:Jrc ⟨false,nm,0⟩ t with
    | ok w =>
     rw[hs2,getR] at hF;(refine bgo func21 ?_;simp only[go_sem,simprocAttr,Aq,hgx,hl1]);(repeat'(first|refine And.intro hel3 ?_|(apply iteI<;>intro h)|refine Jqj ?_|((first|refine Jqa hF ?_|refine Jqa hP ?_|refine Jqa hR ?_);simp only[go_sem,simprocAttr,Aq,hgx,hdx,hl1])|(exfalso;omega)))
    | error er =>
     rw[hs2,getR] at hF;(refine bgo func21 ?_;simp only[go_sem,simprocAttr,Aq,hgx,hl1]);(repeat'(first|refine And.intro hel3 ?_|(apply iteI<;>intro h)|refine Jqj ?_|((first|refine Jqa hF ?_|refine Jqa hP ?_|refine Jqa hR ?_);simp only[go_sem,simprocAttr,Aq,hgx,hdx,hl1])|(exfalso;omega)))
   | error er =>
    rw[hs,getR] at hP;have h5:=Juj hs;subst h5;rw[getR];cases hs2:Jrc ⟨false,nm,0⟩ t with
    | ok w =>
     rw[hs2,getR] at hF;(refine bgo func21 ?_;simp only[go_sem,simprocAttr,Aq,hgx,hl1]);(repeat'(first|(apply iteI<;>intro h)|((first|refine Jqa hF ?_|refine Jqa hP ?_);simp only[go_sem,simprocAttr,hgx])|(exfalso;omega)))
    | error er =>
     rw[hs2,getR] at hF;(refine bgo func21 ?_;simp only[go_sem,simprocAttr,Aq,hgx,hl1]);(repeat'(first|(apply iteI<;>intro h)|((first|refine Jqa hF ?_|refine Jqa hP ?_);simp only[go_sem,simprocAttr,hgx])|(exfalso;omega)))
theorem J1r (s:List UInt8) (hs:s.length<=1000000):Det cx 56 [.p (.str s)] [] (.p (.sl (Bb (Je s).1))) []:=by
 have hR:=J4g s hs;(refine bgo func56 ?_;simp only[go_sem,simprocAttr]);(repeat'(first|((refine Jqa hR ?_);simp only[go_sem,simprocAttr])|fail))
end Go.LX
namespace Go.LX
open Go Go.RowKit Go.Proofs
attribute [local irreducible] Al SWP Bi
def Ju8 (ks:List Tree) (st:List (List Nat)×List Nat) (a:Nat):List (List Nat)×List Nat :=
 if st.2≠[]/\cmpT (Jq3 ks a) (Jq3 ks (st.2.headD 0))≠0 then (st.1 ++ [st.2],[a]) else (st.1,st.2 ++ [a])
def Jrj (ks:List Tree) (l:List Nat):List (List Nat)×List Nat:=l.foldl (Ju8 ks) ([],[])
def Jrp (st:List (List Nat)×List Nat):List (List Nat):=if st.2=[] then st.1 else st.1 ++ [st.2]
def Jri (ks:List Tree):List (List Nat):=Jrp (Jrj ks (Jra ks))
end Go.LX
namespace Go.LX
open Go Go.RowKit Go.Proofs Go.Proofs.Tryz
attribute [local irreducible] Al SWP Bi
theorem Jwc (k:Int) (s:List UInt8) (g:Bool) (e:Int) (kids:Forest) (hk:k≠6):Det cx 73 [.p (.sl (valL ((Tree.mk k s g e kids).enc [])))] [] (.p (.sl [])) []:=by
 have hg:=Cc [] k s g e kids;have c1:=eq_false hk;generalize hvv:(Tree.mk k s g e kids).enc []=v at hg ⊢;(refine bgo func73 ?_;simp only[go_sem,simprocAttr]);refine SWP.loop (fun _:Unit=>⟨Ba 34 [(0,.p (.sl (valL v))),(3,.own 6 0 0),(4,.p (.int .i64 1)),(5,.p (.int .i64 0))],[(6,.row 9 1 [])]⟩) (fun _=>True) (fun _=>0) () Jqc trivial ?_;rintro _ _;(refine lws ?_;simp only[go_sem,simprocAttr,hg,c1]);(repeat'(first|(apply iteI<;>intro h)|(exact True.intro)))
theorem Jxq (t:Tree) (name:List UInt8) (hv:(t.enc []).length<=1500000000000):Det cx 74 [.p (.sl (valL (t.enc []))),.p (.str name)] [] (Oo (Jyj t name)) []:=by
 cases t with
 | mk k s g e kids =>
 rw[A6,Eaf] at hv;by_cases hk:k=6
 ·subst hk;exact Re [] s g e kids name omg
 ·rw[show Jyj (.mk k s g e kids) name=none from if_neg hk,Oo];have hN:=Jwc k s g e kids hk;(refine bgo func74 ?_;simp only[go_sem,simprocAttr]);(repeat'(first|((refine Jqa hN ?_);simp only[go_sem,simprocAttr])|fail));refine SWP.loop (fun _:Unit=>⟨Ba 27 [(6,.p (.sl [])),(7,.p (.int .i64 0))],[]⟩) (fun _=>True) (fun _=>0) () Jqc trivial ?_;rintro _ _;have e0:((0:Int)<((0:Nat):Int))=False:=eq_false omg;(refine lws ?_;simp only[go_sem,simprocAttr])
  skip
end Go.LX
namespace Go.LX
open Go Go.RowKit Go.Proofs
attribute [local irreducible] Al SWP Bi
end Go.LX
namespace Go.LX
open Go Go.RowKit Go.Proofs Go.Proofs.Tryz
attribute [local irreducible] Al SWP Bi
structure NodeFitC (n:Node):Prop where
 s:n.s.length<=1000000
 e0:-9223372036854775808<=n.e
 e1:n.e<=9223372036854775807
theorem Jy2 (n:Node) (hnm:n.name≠[]):Det cx 24 [.p (.sl [[.int .i64 n.kind,.int .i64 n.many,.str n.name,.str n.s,.bool n.neg,.int .i64 n.e]])] [] (.p (.bool false)) []:=by
 have hg0:([[PV.int .i64 n.kind,PV.int .i64 n.many,PV.str n.name,PV.str n.s,PV.bool n.neg,PV.int .i64 n.e]]:List (List PV))[0]? = some [PV.int .i64 n.kind,PV.int .i64 n.many,PV.str n.name,PV.str n.s,PV.bool n.neg,PV.int .i64 n.e]:=rfl;have c2:(n.name=[])=False:=eq_false hnm;have hN:=Uv [n] sm;rw[show valL [n]=[[.int .i64 n.kind,.int .i64 n.many,.str n.name,.str n.s,.bool n.neg,.int .i64 n.e]] from rfl] at hN;(refine bgo func24 ?_;simp only[go_sem,simprocAttr,hg0,c2,Eaf,Ebe])
 skip
theorem Jre {c:Node}:c=Juf ↔ c.kind=0/\c.many=0/\c.name=[]/\c.s=[]/\c.neg=false/\c.e=0:=by
 rw[<- Qo];rfl
end Go.LX
namespace Go.LX
open Go Go.RowKit Go.Proofs
attribute [local irreducible] Al SWP Bi
structure RowFit (r:YRow):Prop where
 s:r.s.length<=1000000
 name:r.name.length<=1000000
 c:NodeFitC r.c
end Go.LX
namespace Go.LX
open Go
def incR:List UInt8->List UInt8
 | []=>[]
 | c :: r=>if c=57 then 48 :: incR r else (c+1) :: r
def decR:List UInt8->List UInt8
 | []=>[]
 | c :: r=>if c=48 then 57 :: decR r else (c - 1) :: r
def moreS (s:List UInt8):List UInt8:=(incR (48 :: s).reverse).reverse
def lessS (s:List UInt8):List UInt8:=(decR s.reverse).reverse
def Kbf (n:Node) (e:Int):List UInt8:=n.s ++ List.replicate (n.e - e).toNat 48
def topR (n:Node) (above:Bool):Int:=if (n.neg != above)=false/\n.s=[49] then (n.s.length:Int)+n.e - 1 else n.s.length+n.e
def J6g (n:Node) (above:Bool):Int:=max (topR n above - 100) (-1000)
def J60 (n:Node) (above:Bool):List UInt8:=if (n.neg != above)=true then moreS (Kbf n (J6g n above)) else lessS (Kbf n (J6g n above))
def Kbn (n:Node) (above:Bool):Option Node :=
 if n.s=[] then some ⟨3,0,[],[49],!above,-1000⟩
 else if (make n.neg (J60 n above) (J6g n above)).2=0 then some (make n.neg (J60 n above) (J6g n above)).1 else none
def numC (a:Int×Node):List Node:=if a.2.kind=3 then a.2 :: ((Kbn a.2 true).toList ++ (Kbn a.2 false).toList) else []
def strC (a:Int×Node):List Node:=if a.2.kind=4 then [a.2,⟨4,0,[],a.2.s ++ [0],false,0⟩] else []
def J7b (k:Int):Node:=⟨k,0,[],[],false,0⟩
def candA (l:List (Int×Node)):List Node:=[J7b 0,J7b 1,J7b 2,J7b 3] ++ l.flatMap numC
def candR (l:List (Int×Node)):List Node:=candA l ++ [J7b 4] ++ l.flatMap strC
theorem Kf8:∀ s,(incR s).length=s.length
 | []=>rfl
 | c :: r=>by unfold incR;split<;>simp[Kf8 r]
theorem Ked:∀ s,(decR s).length=s.length
 | []=>rfl
 | c :: r=>by unfold decR;split<;>simp[Ked r]
end Go.LX
namespace Go.LX
open Go Go.Proofs Go.RowKit
def stepAt (x y:UInt8) (pre:List UInt8) (c:UInt8) (j r:Nat):List UInt8:=pre ++ c :: (List.replicate (r - j) x ++ List.replicate j y)
end Go.LX
namespace Go.LX
open Go
end Go.LX
namespace Go.LX
open Go Go.RowKit Go.Proofs
attribute [local irreducible] Al SWP Bi
def Ke8 (l:List YRow):List (Int×Node):=l.map fun r=>(r.n,r.c)
def atomsIn (v:List YRow) (i m:Nat):List (Int×Node):=Ke8 ((v.drop (i+1)).take m)
def shortY (r:YRow):Bool:=decide (r.s.length<=100) && (decide (r.name.length<=100) && decide (r.c.s.length<=100))
def Jyz (v:List YRow) (m:Nat):Bool:=decide (v.length<=m) && v.all shortY
structure ERow (r:YRow):Prop where
 s:r.s.length<=9223372036854775807
 name:r.name.length<=9223372036854775807
 cs:r.c.s.length<=9223372036854775807
 e0:-9223372036854775808<=r.c.e
 e1:r.c.e<=9223372036854775807
def nameR (nm:List UInt8):List YRow->List YRow
 | []=>[]
 | r :: rs=>⟨r.kind,r.many,nm,r.s,r.n,r.c⟩ :: rs
def Kk6 (ls:List (List YRow)):List (List PV):=ls.map fun v=>[.sl (rowL v)]
def namesL (ns:List (List UInt8)):List (List PV):=ns.map fun s=>[.str s]
def rfL:List RKT->RF
 | []=>.nil
 | p :: l=>.cons p.1 p.2 (rfL l)
theorem Js7:∀ l:List RKT,(rfL l).enc=l.flatMap fun p=>p.2.enc p.1
 | []=>Jsd
 | p :: l=>by rw[rfL,Jqv,Js7 l];rfl
theorem nameR_enc (nm:List UInt8) (t:RT):nameR nm (t.enc [])=t.enc nm:=by
 cases t with
 | mk k s n c kids=>rw[Jqs,Jqs];rfl
def sameL (ns:List (List UInt8)) (t:RT):List RKT:=ns.map fun nm=>(nm,t)
theorem Kgq (P:Tree->Bool):∀ l:List KT,tupS (List.replicate l.length P) l=allP P l
 | []=>rfl
 | q :: l=>by
  rw[Eaf,List.replicate_succ,tupS,Kgq P l];rfl
def unT (l:List Tree):List KT:=l.map fun t=>([],t)
def Kj8 (l:List Tree):Tree:=.mk 5 [] false 0 (A1 (unT l))
def Jqe (t:Tree):List Tree:=t.kids.list.map (·.2)
theorem Kgc {l:List Tree} (h:okK l):okT (Kj8 l):=by
 unfold Kj8;rw[Lu,Ca,Hd,Jdo,Hd];have hn:∀ p∈unT l,p.1=[]:=fun p hp=>by obtain ⟨t,_,rfl⟩:=Eav.1 hp;rfl
 refine ⟨by simp[G3],⟨fun _=>hn,fun p hp=>?_,fun h=>by omega⟩,fun p hp=>?_⟩
 ·rw[hn p hp];rfl
 ·obtain ⟨t,ht,rfl⟩:=Eav.1 hp;exact h t ht
def Jru (p:List Step):List Tree->Except Nat (List Tree)
 | []=>.ok []
 | t :: l=>match Jrd p t with
  | .error e=>.error e
  | .ok u=>match Jru p l with
   | .error e=>.error e
   | .ok ks=>.ok (u :: ks)
def Jte (grp:Bool) (s:List UInt8) (v:Tree):Except Nat Tree :=
 if v.kind=5 then (match Jru (Je s).1 (Jqe v) with
  | .error e=>.error e
  | .ok ks=>.ok (if grp=true then Kj8 ((Jri ks).map fun g=>Kj8 (Jqo (Jqe v) g)) else Kj8 (Jqo (Jqe v) (Jra ks)))) else .error 5
theorem allP_kids {P:Tree->Bool} {l:List KT}:allP P l=true ↔ ∀ x∈l.map (·.2),P x=true:=by
 unfold allP;rw[Eby,List.forall_mem_map]
theorem keysT_map (s:List UInt8) (l:List KT):J26 s l=(l.map (·.2)).map (keyT s):=by
 unfold J26;rw[Eck];rfl
theorem sameT_iff {a b:Tree}:Kec a b=true ↔ a=b:=by
 unfold Kec;rw[decide_eq_true_eq];exact ⟨fun h=>(Jmz h).2,fun h=>by rw[h]⟩
instance (v:Tree):Decidable (v.kind=5/\∀ x∈Jqe v,x.kind=5):=inferInstance
def strT (s:List UInt8):Tree:=.mk 4 s false 0 .nil
def Jso (key x:Tree):Tree:=.mk 6 [] false 0 (.cons sKey key (.cons sVal x .nil))
def numV (n:Nat):Tree:=if n=0 then .mk 3 [] false 0 .nil else .mk 3 (Jqy (Lib.decDigits n)) false (((Lib.decDigits n).length - (Jqy (Lib.decDigits n)).length:Nat):Int) .nil
def Jr6 (l:List KT):List Tree:=l.map fun p=>Jso (strT p.1) p.2
def Jr3:Nat->List KT->List Tree
 | _,[]=>[]
 | i,p :: l=>Jso (numV i) p.2 :: Jr3 (i+1) l
def toE (v:Tree):Except Nat Tree:=if v.kind=6 then .ok (Kj8 (Jr6 v.kids.list)) else if v.kind=5 then .ok (Kj8 (Jr3 0 v.kids.list)) else .error 5
def entR:Tree->Option (List UInt8×Tree)
 | .mk k _ _ _ kids=>if k=6 then (match Ch sKey kids.list with
  | some (.mk k' s' _ _ _)=>if k'=4 then some (s',(Ch sVal kids.list).getD nilT) else none
  | none=>none) else none
def Jt2:List Tree->List KT->Option (List KT)
 | [],out=>some out
 | t :: l,out=>match entR t with
  | none=>none
  | some p=>Jt2 l (putL p.1 p.2 (A8 p.1 out))
def Jud (v:Tree):Except Nat Tree:=if v.kind=5 then (match Jt2 (Jqe v) [] with
 | some l=>.ok (nd 6 l)
 | none=>.error 5) else .error 5
end Go.LX
namespace Go.LX
open Go
def Jrm (op:Int):Prop:=16<=op/\op<=19
instance (op:Int):Decidable (Jrm op):=by unfold Jrm;infer_instance
def J14 (s:List UInt8):Prop:=(Je s).2.2=0
instance (s:List UInt8):Decidable (J14 s):=by unfold J14;infer_instance
instance (c:Node):Decidable (Js2 c):=by unfold Js2;infer_instance
def Jqq (op:Int) (s:List UInt8) (n:Int) (c:Node) (m:Int):Prop :=
 if op=0\/op=10\/op=11\/op=14 then s=[]/\n=0/\c=Juf/\m=0
 else if op=1 then n=0/\c=Juf/\m=0/\valid s=true
 else if op=2\/op=3 then s=[]/\c=Juf/\m=0/\0<=n/\n<=1000000
 else if op=4\/op=17\/op=18 then s=[]/\n=0/\c=Juf/\m=2
 else if op=5\/op=6\/op=7\/op=19 then s=[]/\n=0/\c=Juf/\m=1
 else if op=8\/op=9 then s=[]/\n=0/\c=Juf/\0<=m
 else if op=12\/op=13\/op=15 then n=0/\c=Juf/\m=0/\J14 s
 else if op=16 then m=0/\J14 s/\0<=n/\n<=5/\Js2 c
 else False
def Kft (op:Int) (p:RKT):Prop:=(Jrm p.2.kind ↔ Jrm op\/op=7)/\(op≠8->p.1=[])/\(op=8->valid p.1=true)
def Jsy (op:Int) (l:List RKT):Prop:=(∀ p∈l,Kft op p)/\(op=4->∀ p,l.head? = some p->p.2.kind≠4)/\(op=8->(l.map (·.1)).Nodup)
mutual
def okQ:RT->Prop
 | .mk op s n c kids=>Jqq op s n c kids.len/\Jsy op kids.list/\okQF kids
def okQF:RF->Prop
 | .nil=>True
 | .cons _ t r=>okQ t/\okQF r
end
theorem Jwl {k:Int} {s:List UInt8} {n:Int} {c:Node} {kids:RF}:okQ (.mk k s n c kids) ↔ Jqq k s n c kids.len/\Jsy k kids.list/\okQF kids:=by rw[okQ]
theorem Jvi {nm:List UInt8} {t:RT} {r:RF}:okQF (.cons nm t r) ↔ okQ t/\okQF r:=by rw[okQF]
theorem Jvm:okQF .nil:=by rw[okQF];trivial
theorem J8p:∀ {a b:RF},okQF (a.app b) ↔ okQF a/\okQF b
 | .nil,b=>by simp[RF.app,Jvm]
 | .cons nm t r,b=>by rw[RF.app,Jvi,Jvi,J8p (a:=r)];exact and_assoc.symm
theorem Kcy {nm:List UInt8} {k:Int} {s:List UInt8} {n:Int} {c:Node} {kids r:RF}:okQF (.cons nm (.mk k s n c kids) r) ↔ Jqq k s n c kids.len/\Jsy k kids.list/\okQF (kids.app r):=by
 rw[Jvi,Jwl,J8p];constructor
 ·rintro ⟨⟨h1,h2,h3⟩,h5⟩;exact ⟨h1,h2,h3,h5⟩
 ·rintro ⟨h1,h2,h3,h5⟩;exact ⟨⟨h1,h2,h3⟩,h5⟩
theorem Jsn:∀ {f:RF},okQF f ↔ ∀ p∈f.list,okQ p.2
 | .nil=>by simp[RF.list,Jvm]
 | .cons nm t r=>by rw[Jvi,Jsn (f:=r),RF.list,List.forall_mem_cons]
def J3b (v:List YRow):Prop:=∃ t,okQ t/\v=t.enc []
def J6t (v:List YRow):Prop:=∃ t,okQ t/\¬ Jrm t.kind/\v=t.enc []
open Classical in
noncomputable def Juz (v:List YRow):Bool:=decide (J3b v)
open Classical in
noncomputable def Jtz (v:List YRow):Bool:=decide (J6t v)
theorem Ju6 {v:List YRow}:Juz v=true ↔ J3b v:=by unfold Juz;exact @decide_eq_true_iff _ (Classical.propDecidable _)
theorem Jwr {v:List YRow}:Jtz v=true ↔ J6t v:=by unfold Jtz;exact @decide_eq_true_iff _ (Classical.propDecidable _)
theorem Jva {v:List YRow} (h:¬ J3b v):false=Juz v:=by
 cases hb:Juz v with
 | false=>rfl
 | true=>exact absurd (Ju6.1 hb) h
theorem Jxy {v:List YRow} (h:¬ J6t v):false=Jtz v:=by
 cases hb:Jtz v with
 | false=>rfl
 | true=>exact absurd (Jwr.1 hb) h
theorem J9l {t:RT}:J3b (t.enc []) ↔ okQ t:=by
 constructor
 ·rintro ⟨u,hu,h⟩;obtain ⟨_,rfl⟩:=Kep h;exact hu
 ·exact fun h=>⟨t,h,rfl⟩
theorem J3e {t:RT}:J6t (t.enc []) ↔ okQ t/\¬ Jrm t.kind:=by
 constructor
 ·rintro ⟨u,hu,hk,h⟩;obtain ⟨_,rfl⟩:=Kep h;exact ⟨hu,hk⟩
 ·exact fun h=>⟨t,h.1,h.2,rfl⟩
theorem J8s {v:List YRow} (h:J3b v):Jtm v 0 1=v.length:=by
 obtain ⟨t,_,rfl⟩:=h;have:=J8d.2 ⟨[],t,rfl⟩;unfold Jtm;rw[Ebw,this];simp
end Go.LX
namespace Go.LX
open Go Go.RowKit Go.Proofs
attribute [local irreducible] Al SWP Bi
def Jub (s:List UInt8):Nat->Nat->List (List UInt8)
 | 0,_=>[]
 | f+1,i=>if i<s.length then (s.drop i).take (max (rlen s i) 1) :: Jub s f (i+max (rlen s i) 1) else []
def Jrx (s:List UInt8):List (List UInt8):=Jub s (s.length+1) 0
def revE:Tree->Except Nat Tree
 | .mk k s _ _ kids=>if k=0 then .ok (Kj8 []) else if k=5 then .ok (Kj8 (kids.list.map (·.2)).reverse) else if k=4 then .ok (strT (Jrx s).reverse.flatten) else .error 5
def Jue (n:Nat):Tree->Except Nat Tree
 | .mk k s _ _ kids=>if k=0 then .ok nilT else if k=5 then .ok (Kj8 ((kids.list.map (·.2)).drop n)) else if k=4 then .ok (strT ((Jrx s).drop n).flatten) else .error 5
def J01:Tree->Step->Tree
 | .mk k _ _ _ kids,x=>if x.part=true then Kj8 ((kids.list.map (·.2)).eraseIdx x.n.toNat) else nd k (A8 x.name kids.list)
def delT:List Step->Tree->Except Nat Tree
 | [],_=>.ok nilT
 | x :: p,t=>if t.kind=0 then .ok t else match inT t x with
  | .error e=>if e=6 then .ok t else .error 5
  | .ok u=>if p=[] then .ok (J01 t x) else match delT p u with
   | .error e=>.error e
   | .ok w=>setT [x] t w
def mapE (f:Tree->Except Nat Tree):List Tree->Except Nat (List Tree)
 | []=>.ok []
 | t :: l=>match f t with
  | .error e=>if e=5 then .error 5 else mapE f l
  | .ok u=>match mapE f l with
   | .error e=>.error e
   | .ok us=>.ok (u :: us)
def mapN (f:Tree->Except Nat Tree):List KT->Except Nat (List KT)
 | []=>.ok []
 | q :: l=>match f q.2 with
  | .error e=>if e=5 then .error 5 else mapN f l
  | .ok u=>match mapN f l with
   | .error e=>.error e
   | .ok us=>.ok ((q.1,u) :: us)
def Jr7 (f:Tree->Except Nat Tree) (vals:Bool) (v:Tree):Except Nat Tree :=
 if v.kind=5\/v.kind=6 then (if vals=true/\v.kind=6 then (match mapN f v.kids.list with
  | .error e=>.error e
  | .ok l=>.ok (nd 6 l)) else match mapE f (Jqe v) with
  | .error e=>.error e
  | .ok l=>.ok (Kj8 l)) else .error 5
def Jrn (obj:Bool) (v:Tree):List (Tree->Except Nat Tree)->Except Nat (List Tree)
 | []=>.ok []
 | f :: fs=>match f v with
  | .error e=>if e=5\/obj=true then .error e else Jrn obj v fs
  | .ok u=>match Jrn obj v fs with
   | .error e=>.error e
   | .ok us=>.ok (u :: us)
def Jrr (obj:Bool) (ns:List (List UInt8)) (fs:List (Tree->Except Nat Tree)) (v:Tree):Except Nat Tree:=match Jrn obj v fs with
 | .error e=>.error e
 | .ok l=>.ok (if obj=true then nd 6 (Lp (ns.zip l)) else Kj8 l)
def J15 (op:Int) (s:List UInt8) (n:Int) (c:Node) (hs:List (Tree->Except Nat Bool)) (v:Tree):Except Nat Bool :=
 if op=16 then (match Jrd (Je s).1 v with
  | .error e=>.error e
  | .ok x=>.ok (J0l n (cmpT x (ndT c)))) else match hs with
  | []=>.ok false
  | h :: hs=>match h v with
   | .error e=>.error e
   | .ok a=>if op=19 then .ok (!a) else if a=decide (op=18) then .ok a else match hs with
    | []=>.ok false
    | h2 :: _=>h2 v
mutual
def Jrf:RT->Tree->Except Nat Bool
 | .mk op s n c kids=>fun v=>J15 op s n c (Jrb kids) v
def Jrb:RF->List (Tree->Except Nat Bool)
 | .nil=>[]
 | .cons _ t r=>Jrf t :: Jrb r
end
theorem Jwx {op:Int} {s:List UInt8} {n:Int} {c:Node} {kids:RF} {v:Tree}:Jrf (.mk op s n c kids) v=J15 op s n c (Jrb kids) v:=by rw[Jrf]
theorem Kce:Jrb .nil=[]:=by rw[Jrb]
theorem Kan {nm:List UInt8} {t:RT} {r:RF}:Jrb (.cons nm t r)=Jrf t :: Jrb r:=by rw[Jrb]
theorem Jtr:∀ f:RF,Jrb f=f.list.map fun p=>Jrf p.2
 | .nil=>by rw[Kce];rfl
 | .cons nm t r=>by rw[Kan,Jtr r];rfl
def Jrv (op:Int) (s:List UInt8) (n:Int) (ns:List (List UInt8)) (es:List (Tree->Except Nat Tree)) (hs:List (Tree->Except Nat Bool)) (v:Tree):Except Nat Tree :=
 if op=0 then .ok v
 else if op=1 then Jrc ⟨false,s,0⟩ v
 else if op=2 then Jrc ⟨true,[],n⟩ v
 else if op=3 then Jue n.toNat v
 else if op=5\/op=6 then Jr7 (es.headD fun _=>.error 5) (decide (op=6)) v
 else if op=8\/op=9 then Jrr (decide (op=8)) ns es v
 else if op=10 then toE v
 else if op=11 then Jud v
 else if op=12\/op=13 then Jte (decide (op=12)) s v
 else if op=14 then revE v
 else if op=15 then delT (Je s).1 v
 else if op=7 then (match (hs.headD fun _=>.error 5) v with
  | .error e=>.error e
  | .ok b=>if b=true then .ok v else .error 6)
 else match (es.headD fun _=>.error 5) v with
  | .error e=>.error e
  | .ok x=>(es.getD 1 fun _=>.error 5) x
mutual
def Jql:RT->Tree->Except Nat Tree
 | .mk op s n _ kids=>fun v=>Jrv op s n (kids.list.map (·.1)) (Jqp kids) (Jrb kids) v
def Jqp:RF->List (Tree->Except Nat Tree)
 | .nil=>[]
 | .cons _ t r=>Jql t :: Jqp r
end
theorem Jww {op:Int} {s:List UInt8} {n:Int} {c:Node} {kids:RF} {v:Tree}:Jql (.mk op s n c kids) v=Jrv op s n (kids.list.map (·.1)) (Jqp kids) (Jrb kids) v:=by rw[Jql]
def natL (S:List Nat):List (List PV):=S.map fun (i:Nat)=>[.int .i64 (i:Int)]
@[simp] theorem Jqx (S:List Nat):(natL S).length=S.length:=by simp[natL]
@[simp] theorem Kf4 (l:List Tree):Jqo l []=[]:=rfl
@[simp] theorem J0h:Jqd []=[]:=rfl
@[simp] theorem J28:natL []=[]:=rfl
theorem J3c (l:List Tree) (S:List Nat):(Jqo l S).length=S.length:=by simp[Jqo]
theorem Jvr (l:List Tree):∀ q∈Jqd l,q.length=1:=by
 intro q hq;obtain ⟨i,_,rfl⟩:=Eav.1 hq;rfl
def Jro (o:List (List Nat)):List (List PV):=o.map fun g=>[.sl (natL g)]
@[simp] theorem groupL_nil:Jro []=[]:=rfl
@[simp] theorem Js8 (o:List (List Nat)):(Jro o).length=o.length:=by simp[Jro]
def Jqn (l:List Tree):Nat:=(l.map fun t=>(t.enc []).length).sum
theorem J3y:Jqn []=0:=rfl
theorem Jq8 (t:Tree) (l:List Tree):Jqn (t :: l)=(t.enc []).length+Jqn l:=by simp[Jqn]
theorem Jtk (a b:List Tree):Jqn (a ++ b)=Jqn a+Jqn b:=by simp[Jqn]
theorem J1d:∀ l:List Tree,(A1 (unT l)).enc.length=Jqn l
 | []=>by
  rw[show A1 (unT [])=.nil from rfl,Bl];rfl
 | t :: l=>by
  rw[show A1 (unT (t :: l))=.cons [] t (A1 (unT l)) from rfl,A0,Eac,J1d l,Jq8]
theorem Jsb (l:List Tree):((Kj8 l).enc []).length=Jqn l+1:=by
 unfold Kj8;rw[A6,Eaf,J1d]
theorem J3z (l:List Tree):Jqd l=A4 (unT l):=by
 unfold Jqd A4 unT;rw[Eck];rfl
theorem Jst (l:List KT):A4 l=Jqd (l.map (·.2)):=by
 unfold Jqd A4;rw[Eck];rfl
theorem J1i (l:List Tree):unn (unT l)=unT l:=by
 unfold unn unT;rw[Eck];rfl
theorem Jq1 (t:Tree):Jqn (Jqe t)+1=(t.enc []).length:=by
 obtain ⟨k,s,g,e,kids⟩:=t;rw[A6,Eaf];have:∀ f:Forest,Jqn (f.list.map (·.2))=f.enc.length:=by
  intro f
  induction f using Forest.rec (motive_1:=fun _=>True) with
  | mk=>trivial
  | nil=>rw[Bl];rfl
  | cons nm t r _ ih=>rw[A0,Eac,Forest.list,Eay,Jq8,ih,G7 t nm]
 show Jqn (kids.list.map (·.2))+1=_;rw[this]
theorem Jrh:∀ l:List Tree,l.length<=Jqn l
 | []=>Eaj _
 | t :: l=>by
  have:=Jrh l;have:=Et t [];rw[Jq8,Eaf];omega
theorem Jr0:∀ {l:List Tree} {t:Tree},t∈l->(t.enc []).length<=Jqn l
 | u :: l,t,h=>by
  rw[Jq8];rcases Eam.1 h with rfl | h
  ·omega
  ·have:=Jr0 h;omega
theorem Js4 (l:List Tree) (h:Jqn l<=1499999999999):Det cx 30 [.p (.sl (Jqd l))] [] (.p (.sl (valL ((Kj8 l).enc [])))) []:=by
 have hL:=Tt (unT l) (by rw[J1i,J1d];exact h);rw[J1i,<- J3z] at hL;exact hL
theorem Jvp (v:Tree) (hv:(v.enc []).length<=1500000000000):Det cx 29 [.p (.sl (valL (v.enc [])))] [] (.p (.sl (Jqd (Jqe v)))) []:=by
 obtain ⟨k,s',g,e,kids⟩:=v;have hP:=Dy [] k s' g e kids (by rw[A6,Eaf] at hv;omega);rw[Jst] at hP;exact hP
theorem J6r:okT nilT:=by
 unfold nilT;rw[Lu];exact ⟨by decide,Sb 0,I6⟩
theorem J77 {x:Step} {t u:Tree} (ht:okT t) (h:Jrc x t=.ok u):okT u:=by
 have hk:∀ p∈t.kids.list,okT p.2:=by
  obtain ⟨k,s,g,e,kids⟩:=t;exact fun p hp=>Jvb ht hp
 unfold Jrc at h;split at h
 ·cases h;exact J6r
 ·split at h
  ·split at h
   ·cases h;cases hq:t.kids.list[x.n.toNat]? with
    | none=>exact J6r
    | some p=>exact hk p (Eae hq)
   ·cases h
  ·split at h
   ·cases h;cases hq:Ch x.name t.kids.list with
    | none=>exact J6r
    | some w =>
     obtain ⟨p,hp,rfl,_⟩:=Kj7 hq;exact hk p hp
   ·cases h
theorem Jxm:∀ {p:List Step} {t u:Tree},okT t->Jrd p t=.ok u->okT u
 | [],t,u,ht,h=>by rw[Jrd] at h;cases h;exact ht
 | x :: p,t,u,ht,h=>by
  rw[Jrd] at h;cases hs:Jrc x t with
  | ok w=>rw[hs] at h;exact Jxm (J77 ht hs) h
  | error e=>rw[hs] at h;cases h
def preK (us:List Tree):Except Nat (List Tree)->Except Nat (List Tree)
 | .ok ks=>.ok (us ++ ks)
 | .error e=>.error e
theorem Jy8 (s:List UInt8):((strT s).enc []).length=1:=by
 unfold strT;rw[A6,Bl];rfl
theorem Jto {name:List UInt8}:∀ {l:List KT} {p:KT},p∈A8 name l->p∈l/\p.1≠name
 | [],p,h=>by cases h
 | q :: l,p,h=>by
  rw[A8] at h;split at h
  ·have:=Jto h;exact ⟨Eah _ this.1,this.2⟩
  ·rename_i hq;rcases Eam.1 h with rfl | h
   ·exact ⟨Eag,hq⟩
   ·have:=Jto h;exact ⟨Eah _ this.1,this.2⟩
@[simp] theorem strL_nil:strL []=[]:=rfl
end Go.LX
namespace Go.LX
open Go Go.RowKit Go.Proofs Go.Proofs.Tryz
attribute [local irreducible] Al SWP Bi
theorem Kbh {k:Int} {s:List UInt8} {g:Bool} {e:Int} {kids:Forest} (h:okT (.mk k s g e kids)) (h0:k=0):Tree.mk k s g e kids=nilT:=by
 subst h0;obtain ⟨h1,_,_⟩:=Lu.1 h;unfold G3 at h1;rw[if_pos (.inl rfl)] at h1;obtain ⟨a,b,c,d⟩:=h1;subst b c d;rw[Jv4 a];rfl
theorem J1a:Det cx 65 [] [] (.p (.sl (valL (nilT.enc [])))) []:=by
 rw[J7x];(refine bgo func65 ?_;simp only[go_sem,simprocAttr])
 skip
theorem Jz1 (s:List UInt8) (hs:s.length<=1000000):Det cx 45 [.p (.str s)] [] (.p (.sl (Bb (Je s).1))) []:=by
 (refine bgo func45 ?_;simp only[go_sem,simprocAttr]);(repeat'(first|((refine Jqa (Jjx s hs) ?_);simp only[go_sem,simprocAttr])|fail))
@[go_sem] theorem sc_bool {b:Bool}:((PV.bool b).scalar=true)=True:=eq_true rfl
@[go_sem] theorem f_bb6 {parts:List (Nat×L)} {K:L->Prop}:Vf Tryz.prog 123 parts K=(Tryz.prog.cellsOf 4=1/\6=parts.length/\zok (Bu Tryz.prog 123) 6/\Bq (Jw8 0 parts) (kagg K)):=J62 f_u123
theorem Khn (n c:Int) (h0:0<=n) (h5:n<=5):Det cx 61 [.p (.int .i64 n),.p (.int .i64 c)] [] (.p (.bool (J0l n c))) []:=by
 have hn:n=0\/n=1\/n=2\/n=3\/n=4\/n=5:=by omega
 unfold J0l;rcases hn with rfl | rfl | rfl | rfl | rfl | rfl
 all_goals simp only[Int.reduceEq,if_true,if_false]
 ·(refine bgo func61 ?_;simp only[go_sem,simprocAttr])
  all_goals (rw[Ea1];simp)
 ·(refine bgo func61 ?_;simp only[go_sem,simprocAttr])
  all_goals (rw[Ea1];simp)
 ·(refine bgo func61 ?_;simp only[go_sem,simprocAttr])
  all_goals (rw[Ea1];simp)
 ·(refine bgo func61 ?_;simp only[go_sem,simprocAttr])
  all_goals (rw[Ea1];simp)
 ·(refine bgo func61 ?_;simp only[go_sem,simprocAttr])
  all_goals (rw[Ea1];simp)
 ·(refine bgo func61 ?_;simp only[go_sem,simprocAttr])
  all_goals (rw[Ea1];simp)
theorem J8w {x:Step} {t:Tree}:getT [x] t=inT t x:=by
 rw[getT];cases inT t x with
 | ok u=>rfl
 | error e=>rfl
theorem Kbd (x:Step) (v:Tree) (hx:Bc x) (ok:okT v) (hv:(v.enc []).length<=1500000000000):Det cx 36 [.p (.agg [.bool x.part,.str x.name,.int .i64 x.n]),.p (.sl (valL (v.enc [])))] [] (getR (Jrc x v)) []:=by
 obtain ⟨k,s,g,e,kids⟩:=v;have hG:=M1 [x] (.mk k s g e kids) sm (fun y hy=>by simp at hy;subst hy;exact hx) hv;rw[J8w] at hG;have hgv:=Cc [] k s g e kids;obtain ⟨b,nm,n⟩:=x;by_cases h0:k=0
 ·subst h0;rw[J3f,getR,<- Kbh ok rfl];generalize valL ((Tree.mk 0 s g e kids).enc [])=V at *
  cases b with
  | true =>
   (refine bgo func36 ?_;simp only[go_sem,simprocAttr,hgv])
   skip
  | false =>
   (refine bgo func36 ?_;simp only[go_sem,simprocAttr,hgv])
   skip
 ·have e0:=eq_false h0;cases b with
  | true =>
   by_cases h5:k=5
   ·subst h5;rw[Jza];rw[Tm rfl] at hG;simp only at hG;cases hq:kids.list[n.toNat]? with
    | none =>
     rw[hq,getR] at hG;simp only[Option.map_none,Option.getD_none,getR];generalize valL ((Tree.mk 5 s g e kids).enc [])=V at *
     (refine bgo func36 ?_;simp only[go_sem,simprocAttr,hgv]);(repeat'(first|((first|refine Jqa hG ?_|refine Jqa J1a ?_);simp only[go_sem,simprocAttr])|fail))
     all_goals rfl
    | some p =>
     rw[hq,getR] at hG;simp only[Option.map_some,Option.getD_some,getR];generalize valL ((Tree.mk 5 s g e kids).enc [])=V at *
     (refine bgo func36 ?_;simp only[go_sem,simprocAttr,hgv]);(repeat'(first|((refine Jqa hG ?_);simp only[go_sem,simprocAttr])|fail))
     all_goals rfl
   ·have e5:=eq_false h5;rw[J3l h0 h5,getR];generalize valL ((Tree.mk k s g e kids).enc [])=V at *
    (refine bgo func36 ?_;simp only[go_sem,simprocAttr,hgv,e0,e5])
    all_goals rfl
  | false =>
   by_cases h6:k=6
   ·subst h6;rw[Jw4];rw[Tp rfl] at hG;simp only at hG;cases hq:Ch nm kids.list with
    | none =>
     rw[hq,getR] at hG;simp only[Option.getD_none,getR];generalize valL ((Tree.mk 6 s g e kids).enc [])=V at *
     (refine bgo func36 ?_;simp only[go_sem,simprocAttr,hgv]);(repeat'(first|((first|refine Jqa hG ?_|refine Jqa J1a ?_);simp only[go_sem,simprocAttr])|fail))
     all_goals rfl
    | some p =>
     rw[hq,getR] at hG;simp only[Option.getD_some,getR];generalize valL ((Tree.mk 6 s g e kids).enc [])=V at *
     (refine bgo func36 ?_;simp only[go_sem,simprocAttr,hgv]);(repeat'(first|((refine Jqa hG ?_);simp only[go_sem,simprocAttr])|fail))
     all_goals rfl
   ·have e6:=eq_false h6;rw[Jyn h0 h6,getR];generalize valL ((Tree.mk k s g e kids).enc [])=V at *
    (refine bgo func36 ?_;simp only[go_sem,simprocAttr,hgv,e0,e6])
    all_goals rfl
theorem J40 (p:List Step) (v:Tree) (hp:p.length<=1000000) (hok:∀ x∈p,Bc x) (ok:okT v) (hv:(v.enc []).length<=1500000000000):Det cx 20 [.p (.sl (Bb p)),.p (.sl (valL (v.enc [])))] [] (getR (Jrd p v)) []:=by
 (refine bgo func20 ?_;simp only[go_sem,simprocAttr,Aq]);refine SWP.loop (fun x:Nat×Tree=>⟨Ba 28 [(0,.p (.sl (Bb p))),(1,.p (.sl (valL (x.2.enc [])))),(10,.p (.sl (Bb p))),(11,.p (.int .i64 p.length)),(12,.p (.int .i64 x.1))],[]⟩) (fun x=>x.1<=p.length/\okT x.2/\(x.2.enc []).length<=1500000000000/\Jrd (p.drop x.1) x.2=Jrd p v) (fun x=>p.length - x.1) (0,v) Jqc ⟨Eat _,ok,hv,rfl⟩ ?_;rintro ⟨i,u⟩ ⟨h1,hu0,h2,h3⟩;simp only at h1 hu0 h2 h3;by_cases hi:i<p.length
 ·obtain ⟨x,hx⟩:∃ x,p[i]? = some x:=⟨_,Eaa hi⟩
  have hgx:=Dk hx;have hdx:p.drop i=x :: p.drop (i+1):=by rw[Eax hi];congr 1;rw[Eaa hi] at hx;exact Ea9 hx
  have hok':=hok x (Eae hx);rw[hdx,Jrd] at h3;have hin:=Kbd x u hok' hu0 h2;have c1:((i:Int)<(p.length:Int))=True:=eq_true omg;cases hu:Jrc x u with
  | error er =>
   rw[hu,getR] at hin;rw[hu] at h3;have:=Juj hu;subst this;rw[<- h3];simp only[getR];(refine lws ?_;simp only[go_sem,simprocAttr,c1,hgx]);(repeat'(first|((refine Jqa hin ?_);simp only[go_sem,simprocAttr])|fail))
   all_goals rfl
  | ok w =>
   rw[hu,getR] at hin;rw[hu] at h3;have hle:=Jvo hu;have hwo:=J77 hu0 hu;(refine lws ?_;simp only[go_sem,simprocAttr,c1,hgx,wi1 (i:=i) omg]);(repeat'(first|((refine Jqa hin ?_);simp only[go_sem,simprocAttr,wi1 (i:=i) omg])|fail))
   all_goals exact ⟨(i+1,w),⟨by simp only;omega,hwo,by simp only;omega,h3⟩,by simp only;omega,Jqc⟩
 ·have c1:((i:Int)<(p.length:Int))=False:=eq_false omg;rw[show p.drop i=[] from Ea0 omg,Jrd] at h3;rw[<- h3,getR];(refine lws ?_;simp only[go_sem,simprocAttr,c1])
  all_goals rfl
end Go.LX
namespace Go.LX
open Go Go.RowKit Go.Proofs
abbrev V1:={ v:Value // v.oneCell'=true }
instance:Inhabited V1:=⟨⟨.bool false,rfl⟩⟩
def v1:V1->Value:=Subtype.val
theorem Kak:OneCell v1:=fun x=>x.2
theorem Jy9 {β:Env} {w:World} {Im:Nat->Prop} {T:TypeId} {es:List (List PV)} {n:Nat} {args:List L} {tmps:Array Value} {v:Value} (hf:Fit β w Im ⟨args,[(1000,.row T 1 es)]⟩ tmps) (hv:LRep β w Im v (.own 1000 0 n)) (hn:es.length=n) :
  (n=0/\v=.slice none 0 0)\/∃ loc cap,∃ d:List V1,β 1000=some loc/\v=.slice (some ⟨loc.blk,0,none⟩) n cap/\cap=loc.tot/\d.length=n/\n<=cap/\cap<=maxLen/\Sort.Holds v1 w loc.blk 0 d.toArray /\
   ∀ (i:Nat) (x:V1) (e:List PV),d[i]? = some x->es[i]? = some e->∃ p,e=[p]/\p.scalar=true/\PRep w Im x.1 p:=by
 rcases hv with ⟨loc,cap,o,hβ,h1,h2,h3,rfl⟩ | ⟨hβ,_,h0,rfl⟩
 ·refine .inr ?_;have ho:o=0:=by rw[h3 (.inr rfl),Ec1]
  subst ho;rcases hf.regs 1000 _ Eag with ⟨hb,_⟩ | ⟨loc',cur,hb,g1,g2,g3,g4,g5,g6,g7⟩
  ·rw[hβ] at hb;cases hb
  rw[hβ] at hb;cases hb;rw[Ebm] at h1;have hone:∀ i,i<n->∃ u:Value,∃ p,cur[i]? = some u/\es[i]? = some [p]/\p.scalar=true/\PRep w Im u p:=by
   intro i hi;obtain ⟨e,he⟩:∃ e,es[i]? = some e:=⟨_,Eaa omg⟩
   obtain ⟨q1,q2⟩:=g6 e (Eae he);obtain ⟨p,rfl⟩:∃ p,e=[p]:=by
    cases e with
    | nil=>simp at q1
    | cons p r=>cases r with
     | nil=>exact ⟨p,rfl⟩
     | cons=>simp at q1
   obtain ⟨u,q3,q4⟩:=g7 i _ 0 p he rfl;rw[Ecr,Nat.add_zero] at q3;exact ⟨u,p,q3,he,q2 p Eag,q4⟩
  have hcl:n<=cur.length:=by rw[g3];omega
  have hall:∀ x∈cur.take n,x.oneCell'=true:=by
   intro x hx;obtain ⟨i,hi⟩:=Ebr hx;rw[Eao] at hi;split at hi
   ·rename_i hlt;obtain ⟨u,p,q1,_,q3,q4⟩:=hone i hlt;rw[q1] at hi;cases hi;exact q4.one q3
   ·cases hi
  let d:List V1:=(cur.take n).attach.map fun x=>⟨x.1,hall x.1 x.2⟩
  have hdl:d.length=n:=by simp[d];omega
  have hdv:d.map v1=cur.take n:=by simp[d,v1,Function.comp_def]
  have hdg:∀ (i:Nat) (x:V1),d[i]? = some x->cur[i]? = some x.1:=by
   intro i x hx;have:(d.map v1)[i]? = some x.1:=by rw[Eal,hx];rfl
   rw[hdv,Eao] at this;split at this
   ·exact this
   ·cases this
  refine ⟨loc,cap,d,hβ,rfl,h1,hdl,h2,omg,fun j hj=>?_,fun i x e hx he=>?_⟩
  ·have hj':j<d.length:=by simpa using hj
   have hxj:d[j]? = some d[j]:=Eaa hj';have:=hdg j _ hxj;refine ⟨?_,?_⟩
   ·rw[Ebm];unfold World.cell?;simp only[g2];rw[show d.toArray[j]! = d[j] by simp[hj']];simpa[v1] using this
   ·unfold World.frozen?;simp only[g2];simp
  ·have hi:=(Eab.1 hx).1;obtain ⟨u,p,q1,q2,q3,q4⟩:=hone i omg;have:=hdg i x hx;rw[q1] at this;rw[q2] at he;cases this;cases he;exact ⟨p,rfl,q3,q4⟩
 ·exact .inl ⟨h0,rfl⟩
theorem Jy7 {α:Type} [Inhabited α] {enc:α->Value} {β:Env} {w w':World} {Im:Nat->Prop} {T:TypeId} {es es':List (List PV)} {args:List L} {tmps:Array Value} (hf:Fit β w Im ⟨args,[(1000,.row T 1 es)]⟩ tmps) {loc:Loc} (hβ:β 1000=some loc) {k:Nat} {os:Array Obj} {d:List α}
  (hw:w'=Sort.grow (Sort.putRow enc (Sort.ahead w k) loc.blk 0 d.toArray) os) (hd:d.length<=loc.tot) (hes:es'.length<=d.length)
  (hrep:∀ (i:Nat) (x:α) (e:List PV),d[i]? = some x->es'[i]? = some e->∃ p,e=[p]/\p.scalar=true/\PRep w Im (enc x) p):CallStep β w Im [(1000,.row T 1 es)] β w' Im [(1000,.row T 1 es')]:=by
 obtain ⟨hlt,him⟩:=hf.live 1000 _ loc Eag hβ;have hheap:w'.heap=(w.heap.modify loc.blk (Sort.onCells (Sort.putCells enc 0 d.toArray))) ++ os:=by subst hw;rfl
 have hsz:w'.heap.size=w.heap.size+os.size:=by rw[hheap];simp
 have hoth:∀ j,j<w.heap.size->loc.blk≠j->w'.heap[j]? = w.heap[j]?:=by
  intro j hj hne;rw[hheap,Ecy (by simpa using hj),Array.getElem?_modify,if_neg hne]
 have hK:Keeps w Im w' Im:=⟨fun _ h=>h,fun b hb=>hoth b (hf.im b hb) fun e=>him (e ▸ hb)⟩
 rcases hf.regs 1000 _ Eag with ⟨hb,_⟩ | ⟨loc',cur,hb,g1,g2,g3,g4,g5,g6,g7⟩
 ·rw[hβ] at hb;cases hb
 rw[hβ] at hb;cases hb;have hown:w'.heap[loc.blk]? = some (.cells ⟨(Sort.putCells enc 0 d.toArray ⟨cur⟩).toList⟩ T (0,0)):=by
  rw[hheap,Ecy (by simpa using hlt),Array.getElem?_modify,if_pos rfl,g2];rfl
 have hcl:(Sort.putCells enc 0 d.toArray ⟨cur⟩).toList.length=loc.tot * 1:=by
  rw[<- g3];simp[Sort.putCells]
 have hcg:∀ (i:Nat) (x:α),d[i]? = some x->(Sort.putCells enc 0 d.toArray ⟨cur⟩).toList[i]? = some (enc x):=by
  intro i x hx;have hi:=(Eab.1 hx).1;have hic:i<cur.length:=by rw[g3];omega
  rw[Ebu];unfold Sort.putCells;rw[Array.getElem?_mapIdx];have:(⟨cur⟩:Array Value)[i]? = some cur[i]:=by simp[hic]
  rw[this,Option.map_some,if_pos ⟨Eat _,by simpa using hi⟩];have h2:d[i]=x:=by
   have:=Eaa hi;rw[this] at hx;exact Ea9 hx
  simp[hi,h2]
 exact
  {
   os:=by subst hw;rfl
   tape:=by subst hw;rfl
   output:=by subst hw;rfl
   size:=by omega
   block:=fun j hj hno=>hoth j hj (hno 1000 _ loc Eag hβ)
   imin:=fun _ h=>h
   imnew:=fun _ h=>.inl h
   env:=fun _ _ _=>rfl
   keys:=fun d r hd=>by
    simp only[Eam,Ebt,or_false,Edb] at hd;exact .inr ⟨_,by rw[hd.1];exact Eag⟩
   regnew:=fun d r l hd hl=>by
    simp only[Eam,Ebt,or_false,Edb] at hd;rw[hd.1,hβ] at hl;cases hl;exact .inr ⟨1000,_,loc,Eag,hβ,rfl⟩
   fit :=
    {
     size:=rfl
     tmps:=fun i l h=>by simp at h
     regs:=fun d' r hd'=>by
      simp only[Eam,Ebt,or_false,Edb] at hd';obtain ⟨rfl,rfl⟩:=hd';refine .inr ⟨loc,_,hβ,g1,hown,hcl,omg,g5,fun e he=>?_,fun i e j p he hp=>?_⟩
      ·obtain ⟨i,hi⟩:=Ebr he;have hil:=(Eab.1 hi).1;obtain ⟨p,rfl,hp,_⟩:=hrep i _ e (Eaa omg) hi;exact ⟨rfl,fun q hq=>by simp only[Eam,Ebt,or_false] at hq;subst hq;exact hp⟩
      ·have hil:=(Eab.1 he).1;have hdi:d[i]? = some (d[i]'omg):=Eaa omg;obtain ⟨q,rfl,_,hq⟩:=hrep i _ e hdi he;have hj:j=0/\p=q:=by
        cases j with
        | zero=>simp at hp;exact ⟨rfl,hp.symm⟩
        | succ j=>simp at hp
       obtain ⟨rfl,rfl⟩:=hj;exact ⟨_,by rw[Ecr,Nat.add_zero];exact hcg i _ hdi,hq.mono hK⟩
     nodup:=by simp
     live:=fun d' r l hd' hl=>by
      simp only[Eam,Ebt,or_false,Edb] at hd';rw[hd'.1,hβ] at hl;cases hl;exact ⟨omg,him⟩
     apart:=fun d1 r1 d2 r2 l1 l2 h1 h2 hne=>by
      simp only[Eam,Ebt,or_false,Edb] at h1 h2;exact absurd (h1.1.trans h2.1.symm) hne
     im:=fun b hb=>Ea4 (hf.im b hb) omg } }
end Go.LX
namespace Go.Proofs
open Go.Shelf
def Tryz_laysE45v_renX:Go.Shelf.Ren:=⟨fun | 45=>70 | n=>n,fun | 22=>53 | 23=>25 | 3=>3 | 4=>4 | 0=>0 | n=>n,fun | n=>n⟩
theorem J27:Go.Proofs.SlLaysE.n45 Tryz.prog Tryz_laysE45v_renX:={
 mixed:=by kernel_rfl
 f45:=⟨Tryz.f70.name,by decide,Tryz.func70.trans (congrArg some (by kernel_rfl))⟩
 t0:=Tryz.underlying0
 a0:=Tryz.isAgg0
 z0:=Tryz.sizeOf0
 v0:=Tryz.zeroValue0
 t3:=Tryz.underlying3
 a3:=Tryz.isAgg3
 z3:=Tryz.sizeOf3
 v3:=Tryz.zeroValue3
 t4:=Tryz.underlying4
 a4:=Tryz.isAgg4
 z4:=Tryz.sizeOf4
 v4:=Tryz.zeroValue4
 t22:=Tryz.underlying53
 a22:=Tryz.isAgg53
 z22:=Tryz.sizeOf53
 v22:=Tryz.zeroValue53
 a23:=Tryz.isAgg25
 z23:=Tryz.sizeOf25 }
end Go.Proofs
set_option maxRecDepth 100000
set_option maxHeartbeats 2000000
namespace Go.LX
open Go Go.RowKit Go.Proofs Go.Proofs.Tryz
attribute [local irreducible] Al SWP Bi
theorem J6d (es:List (List PV)) (n j:Nat) (hn:es.length=n) (hj:j<n) (hb:n<=1500000000000):Det cx 70 [.own 1000 0 n,.p (.int .i64 j),.p (.int .i64 (j+1:Nat))] [(1000,.row 25 1 es)] (.own 1000 0 (n - 1)) [(1000,.row 25 1 (es.eraseIdx j))]:=by
 unfold Det Al;refine ⟨enters_of func70 kr rfl,fun β Im w vs hg hf=>?_⟩;obtain ⟨v,u,x,rfl,hv,hu,hx⟩:=fit3 hf;obtain rfl:=Mz hu;obtain rfl:=Mz hx;rcases Jy9 hf hv hn with ⟨h0,_⟩ | ⟨loc,cap,d,hβ,rfl,hc,hdl,hnc,hcm,hH,hd⟩
 ·omega
 ·subst hdl;have hm:maxLen=9223372036854775807:=rfl;obtain ⟨i0,hi0,hz1⟩:∃ i0,Tryz.prog.info? 25=some i0/\i0.size=1:=by
   have hc:Tryz.prog.cellsOf 25=1:=kr;cases h:Tryz.prog.info? 25 with
   | none=>simp[Program.cellsOf,h] at hc
   | some i=>exact ⟨i,rfl,by simpa[Program.cellsOf,h] using hc⟩
  have h:Calls Tryz.prog 70 #[.slice (some ⟨loc.blk,0,none⟩) d.toArray.size cap,.int .i64 j,.int .i64 (j+1:Nat)] w fun e w'=>e=.returned (.slice (some ⟨loc.blk,0,none⟩) (d.toArray.size - (j+1 - j)) cap)/\∃ q,w'=Sort.putRow v1 (Sort.ahead w q) loc.blk 0 (d.toArray.toList.take j ++ d.toArray.toList.drop (j+1) ++ List.replicate (j+1 - j) (⟨.slice none 0 0,rfl⟩:V1)).toArray :=
   AnyE.slices_Delete J27 v1 Kak ⟨.slice none 0 0,rfl⟩ zeroValue25 i0 hi0 hz1 loc.blk 0 cap j (j+1) d.toArray w hH (by simpa using hnc) omg omg (by simp;omega)
  refine h.mono ?_;rintro e w' ⟨rfl,q,rfl⟩;refine ⟨_,_,_,β,Im,rfl,⟨rfl,rfl⟩,.inl ⟨loc,cap,0,hβ,omg,omg,fun _=>(Ec1 _).symm,by simp⟩,Jy7 hf hβ (k:=q) (os:=#[]) (d:=d.take j ++ d.drop (j+1) ++ List.replicate (j+1 - j) (⟨.slice none 0 0,rfl⟩:V1)) (by rw[Sort.grow_empty]) (by simp;omega) (by rw[Ecs];simp;split<;>omega) fun i x e hx he=>?_⟩;have hl:(d.take j).length=j:=by rw[Eas];omega
  have hel:=(Eab.1 he).1;rw[Ecs] at hel;have hi:i<d.length - 1:=by split at hel<;>omega
  rw[Ear (by simp;omega)] at hx;rw[List.getElem?_eraseIdx] at he;split at he
  ·rw[Ear omg,Eao,if_pos omg] at hx;exact hd _ x e hx he
  ·rw[Eaq omg,Ecp,hl] at hx;exact hd (i+1) x e (by rw[<- hx];congr 1;omega) he
end Go.LX
namespace Go.LX
open Go Go.RowKit Go.Proofs Go.Proofs.Tryz
attribute [local irreducible] Al SWP Bi
theorem J1f (v:List YRow) (i:Nat) (nm:List UInt8) (t:RT) (rest:List YRow) (hv:v.length<=850000000000) (h:v.drop i=t.enc nm ++ rest):Det cx 102 [.p (.sl (rowL v)),.p (.int .i64 i)] [] (.p (.int .i64 (i+(t.enc nm).length:Nat))) []:=by
 (refine bgo func102 ?_;simp only[go_sem,simprocAttr]);have hp:=Jsi t nm;have hb:=J4f h (fun e=>by have e2:(t.enc nm ++ rest).length=0:=(by rw[e];rfl);rw[Eac] at e2;omega);rw[Eac] at hb;refine SWP.loop (fun x:Nat×Nat×RF=>⟨Ba 41 [(0,.p (.sl (rowL v))),(1,.p (.int .i64 x.1)),(5,.p (.int .i64 x.2.1))],[]⟩) (fun x=>x.2.1=x.2.2.len/\v.drop x.1=x.2.2.enc ++ rest/\x.1+x.2.2.enc.length=i+(t.enc nm).length) (fun x=>x.2.2.enc.length) (i,1,.cons nm t .nil) Jqc ⟨rfl,by simp[Jqv,Jsd,h],by simp[Jqv,Jsd]⟩ ?_;rintro ⟨j,left,F⟩ ⟨h0,h1,h2⟩;simp only at h0 h1 h2
 match F,h0,h1,h2 with
 | .nil,h0,h1,h2 =>
  rw[Jsd] at h2;simp only[RF.len] at h0;subst h0;have c0:((0:Int)<((0:Nat):Int))=False:=eq_false omg;(refine lws ?_;simp only[go_sem,simprocAttr]);simp only[Ebe] at h2;omega
 | .cons nm' (.mk k s g e kids) r,h0,h1,h2 =>
  rw[Jve] at h0;rw[Jqv,Jqs] at h1 h2;have hg:=Js5 h1;rw[Jr5] at hg;simp only[Eaf,Eac] at h2;have hl1:=Jq7 kids;have hl2:=Jq7 r;have w0:IntKind.i64.wrap ((left:Int) - 1)=(r.len:Int):=by rw[Aa omg omg];omega
  have w1:IntKind.i64.wrap ((r.len:Int)+(kids.len:Int))=((r.len+kids.len:Nat):Int):=by rw[Aa omg omg];omega
  (refine lws ?_;simp only[go_sem,simprocAttr,wj1 (i:=j) omg,hg,w0,w1,Jq0]);(repeat'(first|(apply iteI<;>intro h)|(exfalso;omega)))
  ·exact ⟨(j+1,r.len+kids.len,kids.app r),⟨by simp only[Jsr];omega,by
    simp only[Jq6];rw[<- Ea7,h1];simp,by simp only[Jq6,Eac];omega⟩,by simp only[Jq6,Jqv,Jqs,Eac,Eaf];omega,Jqc⟩
theorem J97 (v:List YRow) (hv:v.length<=10000):Det cx 102 [.p (.sl (rowL v)),.p (.int .i64 0)] [] (.p (.int .i64 (Jtm v 0 1))) []:=by
 (refine bgo func102 ?_;simp only[go_sem,simprocAttr]);refine SWP.loop (fun x:Nat×Nat=>⟨Ba 41 [(0,.p (.sl (rowL v))),(1,.p (.int .i64 x.1)),(5,.p (.int .i64 x.2))],[]⟩) (fun x=>x.1<=v.length/\x.2<=1+x.1 * 10000/\Jtm v x.1 x.2=Jtm v 0 1) (fun x=>v.length - x.1) (0,1) Jqc ⟨Eat _,by simp,rfl⟩ ?_;rintro ⟨i,o⟩ ⟨h1,h2,h3⟩;simp only at h1 h2 h3;by_cases ho:o=0
 ·subst ho;rw[J96] at h3;have c0:((0:Int)<((0:Nat):Int))=False:=eq_false omg;(refine lws ?_;simp only[go_sem,simprocAttr]);rw[h3]
 ·have c0:((0:Int)<(o:Int))=True:=eq_true omg;by_cases hi:¬ i<v.length
  ·have c1:((v.length:Int)<=(i:Int))=True:=eq_true omg;rw[Kcj omg omg] at h3;(refine lws ?_;simp only[go_sem,simprocAttr,Jq0,c0,c1]);rw[<- h3]
  ·have hi:=Eaw.1 hi;have c1:((v.length:Int)<=(i:Int))=False:=eq_false omg;obtain ⟨n,hn⟩:∃ n,v[i]? = some n:=⟨_,Eaa hi⟩
   have hg:=Jzc hn;by_cases hb:n.many<0\/(v.length:Int)<n.many
   ·rw[Kb1 hn omg hb] at h3;by_cases hb1:n.many<0
    ·have c2:(n.many<0)=True:=eq_true hb1;(refine lws ?_;simp only[go_sem,simprocAttr,Jq0,c0,c1,c2,hg]);rw[<- h3]
    ·have c2:(n.many<0)=False:=eq_false hb1;have c3:((v.length:Int)<n.many)=True:=eq_true omg;(refine lws ?_;simp only[go_sem,simprocAttr,Jq0,c0,c1,c2,c3,hg]);rw[<- h3]
   ·have c2:(n.many<0)=False:=eq_false omg;have c3:((v.length:Int)<n.many)=False:=eq_false omg;obtain ⟨o',rfl⟩:∃ o',o=o'+1:=⟨o - 1,omg⟩
    rw[J99 hn hb] at h3;have w1:IntKind.i64.wrap (((o'+1:Nat):Int) - 1)=(o':Int):=by rw[Aa omg omg];omega
    have w2:IntKind.i64.wrap ((o':Int)+n.many)=((o'+n.many.toNat:Nat):Int):=by rw[Aa omg omg];omega
    have w3:=wj1 (i:=i) omg;(refine lws ?_;simp only[go_sem,simprocAttr,Jq0,c0,c1,c2,c3,hg,w1,w2,w3]);exact ⟨(i+1,o'+n.many.toNat),⟨by simp only;omega,by simp only;omega,h3⟩,by simp only;omega,Jqc⟩
theorem J3g (nm:List UInt8) (kd:Int) (s:List UInt8) (g:Int) (e:Node) (kids:RF) (hv:kids.enc.length<=849999999999):Det cx 50 [.p (.sl (rowL ((RT.mk kd s g e kids).enc nm)))] [] (.p (.sl (Jrk kids.list))) []:=by
 have hl:=Jq7 kids;have hkl:=Jq4 kids;generalize hvv:(RT.mk kd s g e kids).enc nm=v;have h0:v.drop 0=⟨kd,kids.len,nm,s,g,e⟩ :: kids.enc:=by rw[<- hvv,Jqs];rfl
 have hg0:=Js5 h0;rw[Jr5] at hg0;have hvl:v.length=kids.enc.length+1:=by rw[<- hvv,Jqs];rfl
 (refine bgo func50 ?_;simp only[go_sem,simprocAttr]);refine Jqg (B1 [(9,37)] _ sm) ?_;simp only[go_sem,simprocAttr];refine SWP.loop (fun x:Nat×Nat×RF=>⟨Ba 40 [(0,.p (.sl (rowL v))),(3,.own 37 0 x.1),(4,.p (.int .i64 x.2.1)),(5,.p (.int .i64 x.1))],[(37,.row 23 1 (Jrk (kids.list.take x.1)))]⟩) (fun x=>x.1+x.2.2.len=kids.len/\v.drop x.2.1=x.2.2.enc/\x.2.1+x.2.2.enc.length=v.length/\kids.list.drop x.1=x.2.2.list) (fun x=>x.2.2.enc.length) (0,1,kids) Jqc ⟨by simp,by rw[<- hvv,Jqs];rfl,by simp only;omega,rfl⟩ ?_;rintro ⟨k,j,F⟩ ⟨h1,h2,h3,h4⟩;simp only at h1 h2 h3 h4 ⊢
 match F,h1,h2,h3,h4 with
 | .nil,h1,h2,h3,h4 =>
  simp only[RF.len] at h1;have hkk:k=kids.len:=by omega
  subst hkk;have c1:((kids.len:Int)<(kids.len:Int))=False:=eq_false omg;have hpl:(kids.len<=(Jrk (kids.list.take kids.len)).length)=True:=eq_true (by rw[Jrg,Eas];omega);have htk:(Jrk (kids.list.take kids.len)).take kids.len=Jrk kids.list:=by
   rw[Ead (by rw[Jrg,Eas];omega),Ead omg]
  (refine lws ?_;simp only[go_sem,simprocAttr,hg0,hpl,htk,c1])
  skip
 | .cons nm' (.mk k' s' g' e' kids') r,h1,h2,h3,h4 =>
  rw[Jve] at h1;rw[Jqv] at h2 h3;rw[Eac] at h3;have hkk:kids.list[k]? = some (nm',.mk k' s' g' e' kids'):=by
   have:=congrArg (·[0]?) h4;simpa[RF.list] using this
  have hpk:=Jwq hkk;have c1:((k:Int)<(kids.len:Int))=True:=eq_true omg;rw[Jqs,Jxf,Jr5] at hpk;have hpl:(Jrk (kids.list.take k)).length=k:=by rw[Jrg,Eas];omega
  have hs:=J4p h2;have hel:((RT.mk k' s' g' e' kids').enc nm').length=kids'.enc.length+1:=by rw[Jqs];rfl
  have hs':((rowL v).drop j).take (j+((RT.mk k' s' g' e' kids').enc nm').length - j)=[.int .i64 k',.int .i64 kids'.len,.str nm',.str s',.int .i64 g',.int .i64 e'.kind,.int .i64 e'.many,.str e'.name,.str e'.s,.bool e'.neg,.int .i64 e'.e] :: rowL kids'.enc:=by
   rw[Ecg,hs,Jqs,Jxf,Jr5]
  have h6:∀ q∈[.int .i64 k',.int .i64 kids'.len,.str nm',.str s',.int .i64 g',.int .i64 e'.kind,.int .i64 e'.many,.str e'.name,.str e'.s,.bool e'.neg,.int .i64 e'.e] :: rowL kids'.enc,q.length=11:=fun q hq=>J1h ((RT.mk k' s' g' e' kids').enc nm') q (by rw[Jqs];exact hq)
  have htk:(rowL kids'.enc).take kids'.enc.length=rowL kids'.enc:=Ead sm;(refine lws ?_;simp only[go_sem,simprocAttr,hg0,c1,wj1 (i:=k) omg]);(repeat'(first|(refine And.intro (J1h _) ?_)|refine Jqj ?_|((refine Jqa (J1f v j nm' (.mk k' s' g' e' kids') r.enc omg h2) ?_);simp only[go_sem,simprocAttr,wj1 (i:=k) omg,hs',htk,hpl,Jq0,Eaj])|fail));refine ⟨by simp,omg,omg,(k+1,j+((RT.mk k' s' g' e' kids').enc nm').length,r),⟨by simp only;omega,by simp only;rw[<- Ea7,h2,Ecm],by simp only;omega,by simp only;rw[<- Ea7,h4];rfl⟩,by have:=Jsi (.mk k' s' g' e' kids') nm';simp only[Jqv,Eac];omega,?_⟩;simp only;rw[hpk];exact Jqc
end Go.LX
namespace Go.LX
open Go Go.RowKit Go.Proofs
attribute [local irreducible] Al SWP Bi
def preP (us:List (Nat×Tree)):Except Nat (List (Nat×Tree))->Except Nat (List (Nat×Tree))
 | .ok l=>.ok (us ++ l)
 | .error e=>.error e
def J29:Except Nat (List (Nat×Tree))->L
 | .ok us=>.tup [.sl (Jqd (us.map (·.2))),.sl (natL (us.map (·.1))),.int .i64 0]
 | .error e=>.tup [.snil,.snil,.int .i64 e]
theorem Kcu {t:Tree} (h:FitT t) {nm:List UInt8} (hn:nm.length<=1000000):∀ n∈t.enc nm,NodeFit n:=by
 obtain ⟨k,s,g,e,kids⟩:=t;intro n hn';unfold FitT at h;rw[A6] at h hn';rcases Eam.1 hn' with rfl | h'
 ·have:=h _ Eag;exact ⟨this.s,hn,this.e0,this.e1⟩
 ·exact h n (Eah _ h')
theorem J3m:∀ l:List KT,(∀ p∈l,FitT p.2/\p.1.length<=1000000)->∀ n∈(A1 l).enc,NodeFit n
 | [],_,n,hn=>by rw[show A1 []=.nil from rfl,Bl] at hn;cases hn
 | p :: l,hl,n,hn=>by
  rw[show A1 (p :: l)=.cons p.1 p.2 (A1 l) from rfl,A0] at hn;obtain ⟨h1,h2⟩:=hl p Eag;rcases Eau.1 hn with hn | hn
  ·exact Kcu h1 h2 n hn
  ·exact J3m l (fun x hx=>hl x (Eah _ hx)) n hn
end Go.LX
namespace Go.LX
open Go Go.RowKit Go.Proofs Go.Proofs.Tryz
attribute [local irreducible] Al SWP Bi
theorem Jvy (s:List UInt8) (hs:s.length<=1000000):Det cx 162 [.p (.str s)] [] (.p (.bool (decide (J14 s)))) []:=by
 have hR:=J4g s hs;by_cases h0:(Je s).2.2=0
 ·have c1:(((Je s).2.2:Int)=0)=True:=eq_true omg;rw[show decide (J14 s)=true from decide_eq_true h0];(refine bgo func162 ?_;simp only[go_sem,simprocAttr]);(repeat'(first|((refine Jqa hR ?_);simp only[go_sem,simprocAttr,c1])|fail))
 ·have c1:(((Je s).2.2:Int)=0)=False:=eq_false omg;rw[show decide (J14 s)=false from decide_eq_false h0];(refine bgo func162 ?_;simp only[go_sem,simprocAttr]);(repeat'(first|((refine Jqa hR ?_);simp only[go_sem,simprocAttr,c1])|fail))
theorem Kf6 (n:Node) (hf:NodeFitC n) (hk:n.kind<5):Det cx 24 [.p (.sl [[.int .i64 n.kind,.int .i64 n.many,.str n.name,.str n.s,.bool n.neg,.int .i64 n.e]])] [] (.p (.bool (decide (Js2 n)))) []:=by
 by_cases hnm:n.name=[]
 ·have hR:=Jp [n] sm (by intro x hx;simp at hx;subst hx;exact ⟨hf.s,by rw[hnm];simp,hf.e0,hf.e1⟩);rw[J81 hk,show valL [n]=[[.int .i64 n.kind,.int .i64 n.many,.str n.name,.str n.s,.bool n.neg,.int .i64 n.e]] from rfl] at hR;exact hR
 ·rw[decide_eq_false (fun h=>hnm h.2.1)];exact Jy2 n hnm
instance (op:Int) (s:List UInt8) (n:Int) (c:Node) (m:Int):Decidable (Jqq op s n c m):=by unfold Jqq;infer_instance
theorem Kdh (k m:Int) (nm s:List UInt8) (n:Int) (c:Node) (hs:s.length<=1000000) (hf:NodeFitC c):Det cx 130 [.p (.agg [.int .i64 k,.int .i64 m,.str nm,.str s,.int .i64 n,.int .i64 c.kind,.int .i64 c.many,.str c.name,.str c.s,.bool c.neg,.int .i64 c.e])] [] (.p (.bool (decide (Jqq k s n c m)))) []:=by
 by_cases k0:k=0
 ·subst k0;(refine bgo func130 ?_;simp only[go_sem,simprocAttr]);(repeat'(apply iteI<;>intro h))
  all_goals((clear hf hs)<;>(rw[Ea1])<;>(simp only[Jqq,Jre,decide_eq_true_eq,Int.reduceEq,if_true,if_false,true_or,or_true,or_false,false_or,or_self,ite_true,ite_false,reduceIte])<;>(try simp_all)<;>(try omega))
 by_cases k1:k=1
 ·subst k1;have hU:=Cn s hs;(refine bgo func130 ?_;simp only[go_sem,simprocAttr]);(repeat'(first|(apply iteI<;>intro h)|((refine Jqa hU ?_);simp only[go_sem,simprocAttr])|fail))
  all_goals((try clear hU)<;>(clear hf hs)<;>(rw[Ea1])<;>(simp only[Jqq,Jre,decide_eq_true_eq,Int.reduceEq,if_true,if_false,true_or,or_true,or_false,false_or,or_self,ite_true,ite_false,reduceIte])<;>(try simp_all)<;>(try omega))
 by_cases k2:k=2
 ·subst k2;(refine bgo func130 ?_;simp only[go_sem,simprocAttr]);(repeat'(apply iteI<;>intro h))
  all_goals((clear hf hs)<;>(rw[Ea1])<;>(simp only[Jqq,Jre,decide_eq_true_eq,Int.reduceEq,if_true,if_false,true_or,or_true,or_false,false_or,or_self,ite_true,ite_false,reduceIte])<;>(try simp_all)<;>(try omega))
 by_cases k3:k=3
 ·subst k3;(refine bgo func130 ?_;simp only[go_sem,simprocAttr]);(repeat'(apply iteI<;>intro h))
  all_goals((clear hf hs)<;>(rw[Ea1])<;>(simp only[Jqq,Jre,decide_eq_true_eq,Int.reduceEq,if_true,if_false,true_or,or_true,or_false,false_or,or_self,ite_true,ite_false,reduceIte])<;>(try simp_all)<;>(try omega))
 by_cases k4:k=4
 ·subst k4;(refine bgo func130 ?_;simp only[go_sem,simprocAttr]);(repeat'(apply iteI<;>intro h))
  all_goals((clear hf hs)<;>(rw[Ea1])<;>(simp only[Jqq,Jre,decide_eq_true_eq,Int.reduceEq,if_true,if_false,true_or,or_true,or_false,false_or,or_self,ite_true,ite_false,reduceIte])<;>(try simp_all)<;>(try omega))
 by_cases k5:k=5
 ·subst k5;(refine bgo func130 ?_;simp only[go_sem,simprocAttr]);(repeat'(apply iteI<;>intro h))
  all_goals((clear hf hs)<;>(rw[Ea1])<;>(simp only[Jqq,Jre,decide_eq_true_eq,Int.reduceEq,if_true,if_false,true_or,or_true,or_false,false_or,or_self,ite_true,ite_false,reduceIte])<;>(try simp_all)<;>(try omega))
 by_cases k6:k=6
 ·subst k6;(refine bgo func130 ?_;simp only[go_sem,simprocAttr]);(repeat'(apply iteI<;>intro h))
  all_goals((clear hf hs)<;>(rw[Ea1])<;>(simp only[Jqq,Jre,decide_eq_true_eq,Int.reduceEq,if_true,if_false,true_or,or_true,or_false,false_or,or_self,ite_true,ite_false,reduceIte])<;>(try simp_all)<;>(try omega))
 by_cases k7:k=7
 ·subst k7;(refine bgo func130 ?_;simp only[go_sem,simprocAttr]);(repeat'(apply iteI<;>intro h))
  all_goals((clear hf hs)<;>(rw[Ea1])<;>(simp only[Jqq,Jre,decide_eq_true_eq,Int.reduceEq,if_true,if_false,true_or,or_true,or_false,false_or,or_self,ite_true,ite_false,reduceIte])<;>(try simp_all)<;>(try omega))
 by_cases k8:k=8
 ·subst k8;(refine bgo func130 ?_;simp only[go_sem,simprocAttr]);(repeat'(apply iteI<;>intro h))
  all_goals((clear hf hs)<;>(rw[Ea1])<;>(simp only[Jqq,Jre,decide_eq_true_eq,Int.reduceEq,if_true,if_false,true_or,or_true,or_false,false_or,or_self,ite_true,ite_false,reduceIte])<;>(try simp_all)<;>(try omega))
 by_cases k9:k=9
 ·subst k9;(refine bgo func130 ?_;simp only[go_sem,simprocAttr]);(repeat'(apply iteI<;>intro h))
  all_goals((clear hf hs)<;>(rw[Ea1])<;>(simp only[Jqq,Jre,decide_eq_true_eq,Int.reduceEq,if_true,if_false,true_or,or_true,or_false,false_or,or_self,ite_true,ite_false,reduceIte])<;>(try simp_all)<;>(try omega))
 by_cases k10:k=10
 ·subst k10;(refine bgo func130 ?_;simp only[go_sem,simprocAttr]);(repeat'(apply iteI<;>intro h))
  all_goals((clear hf hs)<;>(rw[Ea1])<;>(simp only[Jqq,Jre,decide_eq_true_eq,Int.reduceEq,if_true,if_false,true_or,or_true,or_false,false_or,or_self,ite_true,ite_false,reduceIte])<;>(try simp_all)<;>(try omega))
 by_cases k11:k=11
 ·subst k11;(refine bgo func130 ?_;simp only[go_sem,simprocAttr]);(repeat'(apply iteI<;>intro h))
  all_goals((clear hf hs)<;>(rw[Ea1])<;>(simp only[Jqq,Jre,decide_eq_true_eq,Int.reduceEq,if_true,if_false,true_or,or_true,or_false,false_or,or_self,ite_true,ite_false,reduceIte])<;>(try simp_all)<;>(try omega))
 by_cases k12:k=12
 ·subst k12;have hP:=Jvy s hs;(refine bgo func130 ?_;simp only[go_sem,simprocAttr]);(repeat'(first|(apply iteI<;>intro h)|((refine Jqa hP ?_);simp only[go_sem,simprocAttr])|fail))
  all_goals((try clear hP)<;>(clear hf hs)<;>(rw[Ea1])<;>(simp only[Jqq,Jre,decide_eq_true_eq,Int.reduceEq,if_true,if_false,true_or,or_true,or_false,false_or,or_self,ite_true,ite_false,reduceIte])<;>(try simp_all)<;>(try omega))
 by_cases k13:k=13
 ·subst k13;have hP:=Jvy s hs;(refine bgo func130 ?_;simp only[go_sem,simprocAttr]);(repeat'(first|(apply iteI<;>intro h)|((refine Jqa hP ?_);simp only[go_sem,simprocAttr])|fail))
  all_goals((try clear hP)<;>(clear hf hs)<;>(rw[Ea1])<;>(simp only[Jqq,Jre,decide_eq_true_eq,Int.reduceEq,if_true,if_false,true_or,or_true,or_false,false_or,or_self,ite_true,ite_false,reduceIte])<;>(try simp_all)<;>(try omega))
 by_cases k14:k=14
 ·subst k14;(refine bgo func130 ?_;simp only[go_sem,simprocAttr]);(repeat'(apply iteI<;>intro h))
  all_goals((clear hf hs)<;>(rw[Ea1])<;>(simp only[Jqq,Jre,decide_eq_true_eq,Int.reduceEq,if_true,if_false,true_or,or_true,or_false,false_or,or_self,ite_true,ite_false,reduceIte])<;>(try simp_all)<;>(try omega))
 by_cases k15:k=15
 ·subst k15;have hP:=Jvy s hs;(refine bgo func130 ?_;simp only[go_sem,simprocAttr]);(repeat'(first|(apply iteI<;>intro h)|((refine Jqa hP ?_);simp only[go_sem,simprocAttr])|fail))
  all_goals((try clear hP)<;>(clear hf hs)<;>(rw[Ea1])<;>(simp only[Jqq,Jre,decide_eq_true_eq,Int.reduceEq,if_true,if_false,true_or,or_true,or_false,false_or,or_self,ite_true,ite_false,reduceIte])<;>(try simp_all)<;>(try omega))
 by_cases k17:k=17
 ·subst k17;(refine bgo func130 ?_;simp only[go_sem,simprocAttr]);(repeat'(apply iteI<;>intro h))
  all_goals((clear hf hs)<;>(rw[Ea1])<;>(simp only[Jqq,Jre,decide_eq_true_eq,Int.reduceEq,if_true,if_false,true_or,or_true,or_false,false_or,or_self,ite_true,ite_false,reduceIte])<;>(try simp_all)<;>(try omega))
 by_cases k18:k=18
 ·subst k18;(refine bgo func130 ?_;simp only[go_sem,simprocAttr]);(repeat'(apply iteI<;>intro h))
  all_goals((clear hf hs)<;>(rw[Ea1])<;>(simp only[Jqq,Jre,decide_eq_true_eq,Int.reduceEq,if_true,if_false,true_or,or_true,or_false,false_or,or_self,ite_true,ite_false,reduceIte])<;>(try simp_all)<;>(try omega))
 by_cases k19:k=19
 ·subst k19;(refine bgo func130 ?_;simp only[go_sem,simprocAttr]);(repeat'(apply iteI<;>intro h))
  all_goals((clear hf hs)<;>(rw[Ea1])<;>(simp only[Jqq,Jre,decide_eq_true_eq,Int.reduceEq,if_true,if_false,true_or,or_true,or_false,false_or,or_self,ite_true,ite_false,reduceIte])<;>(try simp_all)<;>(try omega))
 by_cases k16:k=16
 ·subst k16;have hP:=Jvy s hs;by_cases hk:c.kind<5
  ·have hR:=Kf6 c hf hk;have ck:=eq_true hk;(refine bgo func130 ?_;simp only[go_sem,simprocAttr]);(repeat'(first|(apply iteI<;>intro h)|((first|refine Jqa hP ?_|refine Jqa hR ?_);simp only[go_sem,simprocAttr,ck,decide_true])|fail))
   all_goals (try clear hP)
   all_goals((try clear hR)<;>(clear hf hs)<;>(rw[Ea1])<;>(simp only[Jqq,Jre,decide_eq_true_eq,Int.reduceEq,if_true,if_false,true_or,or_true,or_false,false_or,or_self,ite_true,ite_false,reduceIte])<;>(try simp_all)<;>(try omega))
  ·have ck:=eq_false hk;have hnp:¬ Js2 c:=fun h=>hk h.1
   (refine bgo func130 ?_;simp only[go_sem,simprocAttr]);(repeat'(first|(apply iteI<;>intro h)|((refine Jqa hP ?_);simp only[go_sem,simprocAttr,ck,decide_false])|fail))
   all_goals (try clear hP)
   all_goals((try clear hR)<;>(clear hf hs)<;>(rw[Ea1])<;>(simp only[Jqq,Jre,decide_eq_true_eq,Int.reduceEq,if_true,if_false,true_or,or_true,or_false,false_or,or_self,ite_true,ite_false,reduceIte])<;>(try simp_all)<;>(try omega))
 have e0:=eq_false k0;have e1:=eq_false k1;have e2:=eq_false k2;have e3:=eq_false k3;have e4:=eq_false k4;have e5:=eq_false k5;have e6:=eq_false k6;have e7:=eq_false k7;have e8:=eq_false k8;have e9:=eq_false k9;have e10:=eq_false k10;have e11:=eq_false k11;have e12:=eq_false k12;have e13:=eq_false k13;have e14:=eq_false k14;have e15:=eq_false k15;have e17:=eq_false k17;have e18:=eq_false k18;have e19:=eq_false k19;have e16:=eq_false k16;rw[show decide (Jqq k s n c m)=false by simp[Jqq,k0,k1,k2,k3,k4,k5,k6,k7,k8,k9,k10,k11,k12,k13,k14,k15,k16,k17,k18,k19]];(refine bgo func130 ?_;simp only[go_sem,simprocAttr,e0,e1,e2,e3,e4,e5,e6,e7,e8,e9,e10,e11,e12,e13,e14,e15,e16,e17,e18,e19])
 skip
end Go.LX
