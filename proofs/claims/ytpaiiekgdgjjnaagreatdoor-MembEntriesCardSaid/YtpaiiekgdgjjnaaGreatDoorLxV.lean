/- The order of values: both sides. -/
import Derived.Test.YtpaiiekgdgjjnaaGreatDoorLxU
import Derived.Test.YtpaiiekgdgjjnaaGreatDoorLxS
import Derived.Test.YtpaiiekgdgjjnaaGreatDoorLxT
import Derived.Test.YtpaiiekgdgjjnaaGreatDoorLxL
import Derived.Test.YtpaiiekgdgjjnaaGreatDoorProg
import Derived.Test.YtpaiiekgdgjjnaaGreatDoorLxQ
import Derived.Test.YtpaiiekgdgjjnaaGreatDoorLxO
set_option linter.unusedSimpArgs false
set_option linter.unusedVariables false
set_option linter.unusedSectionVars false
set_option linter.unnecessarySimpa false
set_option maxRecDepth 100000
set_option maxHeartbeats 2000000
namespace Go.LX
open Go Go.RowKit Go.Proofs
attribute [local irreducible] Al SWP Bi
theorem nc_num (m m':Int) (nm nm' s s':List UInt8) (g g':Bool) (e e':Int) (h:Yz s g e) (h':Yz s' g' e'):Det cx 184 [.p (.agg [.int .i64 3,.int .i64 m,.str nm,.str s,.bool g,.int .i64 e]),.p (.agg [.int .i64 3,.int .i64 m',.str nm',.str s',.bool g',.int .i64 e'])] [] (.p (.int .i64 (Juo (ndN s g e) (ndN s' g' e')))) []:=by
 have:=J9o ⟨3,m,nm,s,g,e⟩ ⟨3,m',nm',s',g',e'⟩ (Jw6 h) (Jw6 h');exact this
theorem Kb7 (s s':List UInt8) (g g':Bool) (e e':Int) (h:Yz s g e) (h':Yz s' g' e'):Det cx 189 [.p (.agg [.int .i64 3,.int .i64 0,.str [],.str s,.bool g,.int .i64 e]),.p (.agg [.int .i64 3,.int .i64 0,.str [],.str s',.bool g',.int .i64 e'])] [] (.p (.int .i64 (Juo (ndN s g e) (ndN s' g' e')))) []:=by
 have:=Kb0 ⟨3,0,[],s,g,e⟩ ⟨3,0,[],s',g',e'⟩ (Jw6 h) (Jw6 h');rw [← J6t h h'];exact this
theorem J23 {a b:Int} (h:¬ a=b):¬ cmpI a b=0:=by
 unfold cmpI;split
 ·decide
 ·split
  ·decide
  ·omega
theorem Jut {k:Int} {s:List UInt8} {g:Bool} {e:Int} {kids:Forest} (h:okT (.mk k s g e kids)) {p:KT} (hp:p∈kids.list):okT p.2:=Jdo.1 (Lu.1 h).2.2 p hp
theorem Kbd (n:Nat) (t u:Tree) (hn:(t.enc []).length≤n) (ht:okT t) (hu:okT u) (hs:(t.enc []).length≤1000000) (hs':(u.enc []).length≤1000000):Det cx 105 [.p (.sl (valL (t.enc []))),.p (.sl (valL (u.enc [])))] [] (.p (.int .i64 (cmpT t u))) []:=by
 induction n generalizing t u with
 | zero=>have:=Et t [];omega
 | succ n ih =>
 cases t with
 | mk k s g e kids =>
 cases u with
 | mk k' s' g' e' kids' =>
 have hok:=Lu.1 ht;have hok':=Lu.1 hu;rw [A6,List.length_cons] at hn hs hs';have hg:=Cc [] k s g e kids;have hg':=Cc [] k' s' g' e' kids';have hll:=Jqh kids;have hll':=Jqh kids';have hkl:=Jqf kids;have hkl':=Jqf kids';have hc:∀ p∈kids.list,∀ q∈kids'.list,Det cx 105 [.p (.sl (valL (p.2.enc []))),.p (.sl (valL (q.2.enc [])))] [] (.p (.int .i64 (cmp2 p q))) []:=fun p hp q hq=>ih p.2 q.2 (by have:=Jd7 hp;omega) (Jut ht hp) (Jut hu hq) (by have:=Jd7 hp;omega) (by have:=Jd7 hq;omega)
 have hCF:=J1g kids.list kids'.list omg omg hc;by_cases hkk:k=k'
 ·subst hkk;by_cases h3:k=3
  ·subst h3;(refine bgo Tryz.func105 ?_;simp only [go_sem,simprocAttr]);(repeat' (first | (apply iteI <;> intro h)|((first | (refine Jqk ?_)|(refine Jqd (Jwa _ _) ?_)|(refine Jqd (nc_num _ _ _ _ _ _ _ _ _ _ (Jtc hok.1 rfl) (Jtc hok'.1 rfl)) ?_));simp only [go_sem,simprocAttr,hg,hg']) | fail))
   all_goals first
    | exact absurd (Jr2 _) (by assumption)
    | (rw [Jrq,if_pos rfl,if_pos rfl];done)
  ·by_cases h4:k=4
   ·subst h4;(refine bgo Tryz.func105 ?_;simp only [go_sem,simprocAttr]);(repeat' (first | (apply iteI <;> intro h)|((first | (refine Jqk ?_)|(refine Jqd (Jwa _ _) ?_)|(refine Jqd (J6j _ _) ?_));simp only [go_sem,simprocAttr,hg,hg']) | fail))
    all_goals first
     | exact absurd (Jr2 _) (by assumption)
     | (rw [Jrq,if_pos rfl,if_neg de,if_pos rfl];done)
   ·by_cases h6:k=6
    ·subst h6;(refine bgo Tryz.func105 ?_;simp only [go_sem,simprocAttr]);(repeat' (first | (apply iteI <;> intro h)|((first | (refine Jqk ?_)|(refine Jqd (Jwa _ _) ?_)|(refine Jqa (J62 [] s g e kids omg) ?_)|(refine Jqa (J62 [] s' g' e' kids' omg) ?_)|(refine Jqa (Jzm _ _ omg omg) ?_)|(refine Jqa (Px [] 6 s g e kids omg) ?_)|(refine Jqa (Px [] 6 s' g' e' kids' omg) ?_)|(refine Jqa (hCF) ?_));simp only [go_sem,simprocAttr,hg,hg']) | fail))
     all_goals first
      | exact absurd (Jr2 _) (by assumption)
      | (rw [Jrq,if_pos rfl,if_neg de,if_neg de,if_pos rfl,if_neg (by assumption)];done)
      | (rw [Jrq,if_pos rfl,if_neg de,if_neg de,if_pos rfl,if_pos (Decidable.not_not.1 (by assumption)),Jtp];done)
    ·by_cases h5:k=5
     ·subst h5;(refine bgo Tryz.func105 ?_;simp only [go_sem,simprocAttr]);(repeat' (first | (apply iteI <;> intro h)|((first | (refine Jqk ?_)|(refine Jqd (Jwa _ _) ?_)|(refine Jqa (Px [] 5 s g e kids omg) ?_)|(refine Jqa (Px [] 5 s' g' e' kids' omg) ?_)|(refine Jqa (hCF) ?_));simp only [go_sem,simprocAttr,hg,hg']) | fail))
      all_goals first
       | exact absurd (Jr2 _) (by assumption)
       | (rw [Jrq,if_pos rfl,if_neg de,if_neg de,if_neg de,if_pos rfl,Jtp];done)
     ·(refine bgo Tryz.func105 ?_;simp only [go_sem,simprocAttr]);(repeat' (first | (apply iteI <;> intro h)|((first | (refine Jqk ?_)|(refine Jqd (Jwa _ _) ?_));simp only [go_sem,simprocAttr,hg,hg'])|(exfalso;omega)))
      all_goals first
       | exact absurd (Jr2 _) (by assumption)
       | (rw [Jrq,if_pos rfl,if_neg h3,if_neg h4,if_neg h6,if_neg h5];done)
 ·(refine bgo Tryz.func105 ?_;simp only [go_sem,simprocAttr]);(repeat' (first | (apply iteI <;> intro h)|((first | (refine Jqk ?_)|(refine Jqd (Jwa _ _) ?_));simp only [go_sem,simprocAttr,hg,hg']) | fail))
  all_goals first
   | (rw [Jrq,if_neg hkk];done)
   | exact absurd (Decidable.not_not.1 (by assumption)) (J23 hkk)
   | exact absurd (by assumption) (J23 hkk)
theorem J7t {a b:Int}:cmpI a b=if a=b then 0 else if a<b then -1 else 1:=by
 unfold cmpI;split
 ·rw [if_neg omg]
 ·split
  ·rw [if_neg omg]
  ·rw [if_pos omg]
theorem Jvg {a b:List UInt8}:cmpS a b=if a=b then 0 else if Op.bytesLess a b=true then -1 else 1:=by
 by_cases h:a=b
 ·subst h;rw [if_pos rfl,Js6]
 ·rw [if_neg h,J6y h]
theorem Jx5 (n:Nat) (t u:Tree) (hn:(t.enc []).length≤n) (ht:okT t) (hu:okT u) (hs:(t.enc []).length≤1000000) (hs':(u.enc []).length≤1000000):Det cx 107 [.p (.sl (valL (t.enc []))),.p (.sl (valL (u.enc [])))] [] (.p (.int .i64 (cmpT t u))) []:=by
 induction n generalizing t u with
 | zero=>have:=Et t [];omega
 | succ n ih =>
 cases t with
 | mk k s g e kids =>
 cases u with
 | mk k' s' g' e' kids' =>
 have hok:=Lu.1 ht;have hok':=Lu.1 hu;rw [A6,List.length_cons] at hn hs hs';have hg:=Cc [] k s g e kids;have hg':=Cc [] k' s' g' e' kids';have hll:=Jqh kids;have hll':=Jqh kids';have hkl:=Jqf kids;have hkl':=Jqf kids';have hc:∀ p∈kids.list,∀ q∈kids'.list,Det cx 107 [.p (.sl (valL (p.2.enc []))),.p (.sl (valL (q.2.enc [])))] [] (.p (.int .i64 (cmp2 p q))) []:=fun p hp q hq=>ih p.2 q.2 (by have:=Jd7 hp;omega) (Jut ht hp) (Jut hu hq) (by have:=Jd7 hp;omega) (by have:=Jd7 hq;omega)
 have hCF:=J6m kids.list kids'.list omg omg hc;by_cases hkk:k=k'
 ·subst hkk;by_cases h3:k=3
  ·subst h3;have hm0:(kids.len:Int)=0:=by have:=hok.1;simp [G3] at this;omega
   have hm1:(kids'.len:Int)=0:=by have:=hok'.1;simp [G3] at this;omega
   rw [hm0] at hg;rw [hm1] at hg';(refine bgo Tryz.func107 ?_;simp only [go_sem,simprocAttr]);(repeat' (first | ((refine Jqk ?_);simp only [go_sem,simprocAttr,hg,hg',hg,hg']) | fail));refine Ju2 6 [0,1,2,3,4,5] (.node 6 (.node 7 (.node 8 (.node 9 .leaf .nil) .nil) .nil) (.node 7 (.node 6 (.node 8 (.node 9 .leaf .nil) .nil) .nil) .nil)) 4 hm rfl krf krf ?_;simp only [go_sem,simprocAttr,hg,hg',hg,hg'];refine ⟨?_,?_⟩
   ·(repeat' (first | ((refine Jqa (Kb7 _ _ _ _ _ _ (Jtc hok.1 rfl) (Jtc hok'.1 rfl)) ?_);simp only [go_sem,simprocAttr]) | fail));rw [Jrq,if_pos rfl,if_pos rfl]
   ·(repeat' (first | ((refine Jqa (Kb7 _ _ _ _ _ _ (Jtc hok.1 rfl) (Jtc hok'.1 rfl)) ?_);simp only [go_sem,simprocAttr]) | fail));rw [Jrq,if_pos rfl,if_pos rfl]
  ·by_cases h4:k=4
   ·subst h4;(refine bgo Tryz.func107 ?_;simp only [go_sem,simprocAttr]);(repeat' (first | ((first | (refine Jqk ?_)|(refine Jqd (Jup _ _) ?_));simp only [go_sem,simprocAttr,hg,hg']) | fail))
    all_goals first
     | exact (by rw [Jrq,if_pos rfl,if_neg de,if_pos rfl,Jvg]:cmpT _ _=_).symm
   ·by_cases h6:k=6
    ·subst h6;(refine bgo Tryz.func107 ?_;simp only [go_sem,simprocAttr]);(repeat' (first | (apply iteI <;> intro h)|((first | (refine Jqk ?_)|(refine Jqa (Ir [] s g e kids omg) ?_)|(refine Jqa (Ir [] s' g' e' kids' omg) ?_)|(refine Jqa (J4s _ _ omg omg) ?_)|(refine Jqa (Dy [] 6 s g e kids omg) ?_)|(refine Jqa (Dy [] 6 s' g' e' kids' omg) ?_)|(refine Jqa (hCF) ?_));simp only [go_sem,simprocAttr,hg,hg']) | fail))
     all_goals first
      | (rw [Jrq,if_pos rfl,if_neg de,if_neg de,if_pos rfl,if_neg (by assumption)];done)
      | (rw [Jrq,if_pos rfl,if_neg de,if_neg de,if_pos rfl,if_pos (Decidable.not_not.1 (by assumption)),Jtp];done)
    ·by_cases h5:k=5
     ·subst h5;(refine bgo Tryz.func107 ?_;simp only [go_sem,simprocAttr]);(repeat' (first | ((first | (refine Jqk ?_)|(refine Jqa (Dy [] 5 s g e kids omg) ?_)|(refine Jqa (Dy [] 5 s' g' e' kids' omg) ?_)|(refine Jqa (hCF) ?_));simp only [go_sem,simprocAttr,hg,hg']) | fail))
      all_goals first
       | (rw [Jrq,if_pos rfl,if_neg de,if_neg de,if_neg de,if_pos rfl,Jtp];done)
     ·have h3':=eq_false h3;have h4':=eq_false h4;have h5':=eq_false h5;have h6':=eq_false h6;(refine bgo Tryz.func107 ?_;simp only [go_sem,simprocAttr]);(repeat' (first | ((refine Jqk ?_);simp only [go_sem,simprocAttr,hg,hg',h3',h4',h5',h6']) | fail))
      all_goals first
       | (rw [Jrq,if_pos rfl,if_neg h3,if_neg h4,if_neg h6,if_neg h5];done)
 ·have hkk':=eq_false hkk;(refine bgo Tryz.func107 ?_;simp only [go_sem,simprocAttr]);(repeat' (first | ((first | (refine Jqk ?_)|(refine Jqa (Jup _ _) ?_));simp only [go_sem,simprocAttr,hg,hg',hkk']) | fail))
  all_goals first
   | (rw [Jrq,if_neg hkk,J7t,if_neg hkk];done)
def Jqm (l:List Tree):List (List PV):=l.map fun t=>[.sl (valL (t.enc []))]
@[simp] theorem Jqq (l:List Tree):(Jqm l).length=l.length:=by simp [Jqm]
theorem Jr4 {l:List Tree} {i:Nat} {t:Tree} (h:l[i]? = some t):(Jqm l)[i]? = some [.sl (valL (t.enc []))]:=by simp [Jqm,h]
def Jr5:List Tree→Bool
 | a :: b :: l=>decide (0≤cmpT b a) && Jr5 (b :: l)
 | _=>true
theorem Jul:∀ {l:List Tree},Jr5 l=true ↔ ∀ (i:Nat) (a b:Tree),l[i]? = some a→l[i+1]? = some b→0≤cmpT b a
 | []=>by simp [Jr5]
 | [a]=>by
  simp only [Jr5,true_iff];intro i x y hx hy;simp at hy
 | a :: b :: l=>by
  rw [Jr5,Bool.and_eq_true,decide_eq_true_eq,Jul (l:=b :: l)];constructor
  ·rintro ⟨h1,h2⟩ i x y hx hy;cases i with
   | zero=>simp at hx hy;subst hx;subst hy;exact h1
   | succ i=>exact h2 i x y (by simpa using hx) (by simpa using hy)
  ·intro h;exact ⟨h 0 a b rfl rfl,fun i x y hx hy=>h (i+1) x y (by simpa using hx) (by simpa using hy)⟩
theorem J85 {l:List Tree} {i:Nat} {a b:Tree} (ha:l[i]? = some a) (hb:l[i+1]? = some b) (h:cmpT b a<0):false=Jr5 l:=by
 cases hr:Jr5 l with
 | false=>rfl
 | true=>have:=Jul.1 hr i a b ha hb;omega
def okTs (l:List Tree):Prop:=l.length≤1000000∧∀ t∈l,okT t∧(t.enc []).length≤1000000
theorem J53 (l:List Tree) (hl:okTs l):Det cx 141 [.p (.sl (Jqm l)),.fn 105 []] [] (.p (.bool (Jr5 l))) []:=by
 obtain ⟨hll,ho⟩:=hl;have w0:IntKind.i64.wrap ((l.length:Int) - 1)=(l.length:Int) - 1:=Aa omg omg;(refine bgo Tryz.func141 ?_;simp only [go_sem,simprocAttr,Jqq,w0]);refine SWP.loop (fun k:Nat=>⟨Ba 25 [(0,.p (.sl (Jqm l))),(1,.fn 105 []),(5,.p (.int .i64 ((l.length:Int) - 1 - k)))],[]⟩) (fun k=>k≤l.length∧∀ (i:Nat) (a b:Tree),l.length≤i+1+k→l[i]? = some a→l[i+1]? = some b→0≤cmpT b a) (fun k=>l.length - k) 0 (by rw [show ((0:Nat):Int)=0 from rfl,Int.sub_zero];exact Jqb) ⟨Nat.zero_le _,fun i a b h1 h2 h3=>by have:=(List.getElem?_eq_some_iff.1 h3).1;omega⟩ ?_;rintro k ⟨h1,h2⟩;by_cases hk:k+1<l.length
 ·have c1:((0:Int)<(l.length:Int) - 1 - (k:Int))=True:=eq_true omg;obtain ⟨i,hi⟩:∃ i,l.length=i+1+1+k:=⟨l.length - 2 - k,by omega⟩
  have hi1:(l.length:Int) - 1 - (k:Int)=((i+1:Nat):Int):=by omega
  have w1:IntKind.i64.wrap (((i+1:Nat):Int) - 1)=(i:Int):=by rw [Aa omg omg];omega
  obtain ⟨a,ha⟩:∃ a,l[i]? = some a:=⟨_,List.getElem?_eq_getElem omg⟩
  obtain ⟨b,hb⟩:∃ b,l[i+1]? = some b:=⟨_,List.getElem?_eq_getElem omg⟩
  have hga:=Jr4 ha;have hgb:=Jr4 hb;have c2:((0:Int)<((i+1:Nat):Int))=True:=eq_true omg;obtain ⟨oa,sa⟩:=ho a (List.mem_of_getElem? ha);obtain ⟨ob,sb⟩:=ho b (List.mem_of_getElem? hb);have hC:=Kbd (b.enc []).length b a (Nat.le_refl _) ob oa sb sa;rw [hi1];(refine lws ?_;simp only [go_sem,simprocAttr,c2]);(repeat' (first | (apply iteI <;> intro h)|((first | (refine Jqk ?_)|(refine Jqd (hC) ?_));simp only [go_sem,simprocAttr,w1,hga,hgb]) | fail))
  ·exact J85 ha hb (by assumption)
  ·refine ⟨k+1,⟨by omega,fun i' a' b' q1 q2 q3=>?_⟩,by omega,?_⟩
   ·by_cases hii:i'=i
    ·subst hii;rw [ha] at q2;rw [hb] at q3;cases q2;cases q3;omega
    ·exact h2 i' a' b' omg q2 q3
   ·rw [show (l.length:Int) - 1 - ((k+1:Nat):Int)=(i:Int) by omega];exact Jqb
 ·have c1:((0:Int)<(l.length:Int) - 1 - (k:Int))=False:=eq_false omg;(refine lws ?_;simp only [go_sem,simprocAttr,c1]);exact (Jul.2 fun i a b q1 q2=>h2 i a b omg q1 q2).symm
theorem d_Rises (l:List Tree) (hl:okTs l):Det cx 59 [.p (.sl (Jqm l))] [] (.p (.bool (Jr5 l))) []:=by
 (refine bgo Tryz.func59 ?_;simp only [go_sem,simprocAttr]);(repeat' (first | ((refine Jqa (J53 l hl) ?_);simp only [go_sem,simprocAttr]) | fail))
end Go.LX
namespace Go.LX
open Go
def ndT (n:Node):Tree:=.mk n.kind n.s n.neg n.e .nil
def J9l:Tree→Node
 | .mk k s g e kids=>⟨k,kids.len,[],s,g,e⟩
def J14:Tree→Bool
 | .mk _ _ _ _ .nil=>true
 | .mk _ _ _ _ (.cons _ _ _)=>false
def J18 (n c:Int):Bool :=
 if n=0 then decide (c=0) else if n=1 then decide (c≠0) else if n=2 then decide (c<0) else if n=3 then decide (c≤0) else if n=4 then decide (0<c) else decide (0≤c)
def Js2 (a:Int×Node) (x:Node):Bool:=J18 a.1 (cmpT (ndT x) (ndT a.2))
def Jv1 (mask kind:Int):Bool:=decide (mask.toNat / 2 ^ kind.toNat % 2=1)
def Jq1 (mask:Int) (l:List (Int×Node)) (x:Node):Bool:=decide (Jrb x) && (Jv1 mask x.kind && l.all fun a=>Js2 a x)
def keyV (s:List UInt8) (v:Tree):List Node:=match getT (Je s).1 v with
 | .ok u=>u.enc []
 | .error _=>[]
def keyT (s:List UInt8) (v:Tree):Tree:=match getT (Je s).1 v with
 | .ok u=>u
 | .error _=>.mk 0 [] false 0 .nil
def Jt2 (ps:List (Tree→Bool)):Tree→Bool:=match ps with
 | []=>fun _=>true
 | p :: _=>p
def Jw2 (kids:List KT) (nm:List UInt8) (p:Tree→Bool):Bool:=match Ch nm kids with
 | some u=>p u
 | none=>false
def objS (kids:List KT):List RKT→List (Tree→Bool)→Bool
 | r :: rows,p :: ps=>Jw2 kids r.1 p && objS kids rows ps
 | _,_=>true
def tupS:List (Tree→Bool)→List KT→Bool
 | [],[]=>true
 | p :: ps,q :: l=>p q.2 && tupS ps l
 | [],_ :: _=>false
 | _ :: _,[]=>false
def sKey:List UInt8:=[107,101,121]
def sVal:List UInt8:=[118,97,108,117,101]
def entK:Tree→Option (List UInt8×Tree)
 | .mk k _ _ _ kids=>if k=6∧kids.len=2 then (match Ch sKey kids.list,Ch sVal kids.list with
  | some (.mk k' s' _ _ _),some x=>if k'=4 then some (s',x) else none
  | _,_=>none) else none
def Jtg (last:Option (List UInt8)) (key:List UInt8):Bool:=match last with
 | none=>true
 | some l=>Op.bytesLess l key
def entS (P:Tree→Bool):Option (List UInt8)→List KT→Bool
 | _,[]=>true
 | last,q :: l=>match entK q.2 with
  | none=>false
  | some (key,x)=>Jtg last key && (P x && entS P (some key) l)
def Jv4 (a b:Tree):Bool:=decide (a.enc []=b.enc [])
def Jy9 (last:Option Tree) (key:Tree):Bool:=match last with
 | none=>true
 | some l=>decide (cmpT l key<0)
def Jsd (P:Tree→Bool) (q:KT):Bool:=decide (q.2.kind=5) && (decide (q.2.kids.len≠0) && q.2.kids.list.all fun x=>P x.2)
def Jrt (s:List UInt8) (l:List KT):List Tree:=l.map fun q=>keyT s q.2
def Jv2 (l:List Tree):Tree:=l.headD (.mk 0 [] false 0 .nil)
def Jtv (P:Tree→Bool) (s:List UInt8):Option Tree→List KT→Bool
 | _,[]=>true
 | last,q :: l=>Jsd P q && (((Jrt s q.2.kids.list).all fun k=>Jv4 k (Jv2 (Jrt s q.2.kids.list))) && (Jy9 last (Jv2 (Jrt s q.2.kids.list)) && Jtv P s (some (Jv2 (Jrt s q.2.kids.list))) l))
def allP (P:Tree→Bool) (l:List KT):Bool:=l.all fun q=>P q.2
def inK (k:Int) (s:List UInt8) (n:Int) (rows:List RKT) (ps:List (Tree→Bool)) (v:Tree):Bool :=
 if k=0 then true
 else if k=1 then J14 v && Jq1 n (Jq8 rows) (J9l v)
 else if k=2 then decide (v.kind=6) && ((decide (n≠0) || decide (v.kids.len=rows.length)) && objS v.kids.list rows ps)
 else if k=3 then decide (v.kind=6) && allP (Jt2 ps) v.kids.list
 else decide (v.kind=5) && (
  if k=4 then tupS ps v.kids.list
  else if k=6 then entS (Jt2 ps) none v.kids.list
  else if k=8 then Jtv (Jt2 ps) s none v.kids.list
  else if k=7 then allP (Jt2 ps) v.kids.list && Jr5 (Jrt s v.kids.list)
  else allP (Jt2 ps) v.kids.list)
mutual
def inTy:RT→Tree→Bool
 | .mk k s n _ kids=>fun v=>inK k s n kids.list (inL kids) v
def inL:RF→List (Tree→Bool)
 | .nil=>[]
 | .cons _ t r=>inTy t :: inL r
end
theorem Jvo {k:Int} {s:List UInt8} {n:Int} {c:Node} {kids:RF} {v:Tree}:inTy (.mk k s n c kids) v=inK k s n kids.list (inL kids) v:=by rw [inTy]
theorem Jy1:inL .nil=[]:=by rw [inL]
theorem Ju0 {nm:List UInt8} {t:RT} {r:RF}:inL (.cons nm t r)=inTy t :: inL r:=by rw [inL]
theorem Jyw:∀ (f:RF),inL f=f.list.map fun p=>inTy p.2
 | .nil=>by rw [Jy1];rfl
 | .cons nm t r=>by rw [Ju0,Jyw r];rfl
theorem J12 {kids:List KT} {name:List UInt8} {u:RT}:∀ {rows:List RKT},objS kids rows (rows.map fun p=>inTy p.2)=true→Jxb name rows=some u→∃ w,Ch name kids=some w∧inTy u w=true
 | [],_,h=>by cases h
 | r :: rows,ho,h=>by
  rw [List.map_cons,objS,Bool.and_eq_true] at ho;rw [Jxb] at h;split at h
  ·rename_i hn;cases h;have:=ho.1;unfold Jw2 at this;rw [hn] at this;cases hf:Ch name kids with
   | none=>rw [hf] at this;cases this
   | some w=>rw [hf] at this;exact ⟨w,rfl,this⟩
  ·exact J12 ho.2 h
theorem J7a:∀ {p:List Step} {t u:RT} {v:Tree},Jvy t p=some u→inTy t v=true→∃ w,getT p v=.ok w∧inTy u w=true
 | [],t,u,v,h,hi=>by
  rw [Jxz] at h;cases h;exact ⟨v,rfl,hi⟩
 | x :: p,.mk k s n c kids,u,.mk vk vs vg ve vkids,h,hi=>by
  rw [Jzi] at h;split at h
  ·rename_i hk;obtain ⟨hk,hx⟩:=hk;have hk:k=2:=hk;subst hk;cases hf:Jxb x.name (RT.mk 2 s n c kids).kids.list with
   | none=>rw [hf] at h;cases h
   | some t' =>
    rw [hf] at h;have h:Jvy t' p=some u:=h;rw [Jvo] at hi;simp only [inK,if_neg (show ¬ (2:Int)=0 by decide),if_neg (show ¬ (2:Int)=1 by decide),if_true,Bool.and_eq_true,decide_eq_true_eq] at hi;obtain ⟨hv6,_,ho⟩:=hi;have hv6:vk=6:=hv6;subst hv6;rw [Jyw] at ho;obtain ⟨w,hw,hiw⟩:=J12 ho hf;obtain ⟨w2,h1,h2⟩:=J7a h hiw;refine ⟨w2,?_,h2⟩;have hw:Ch x.name vkids.list=some w:=hw;rw [getT,Tp hx,hw];exact h1
  ·cases h
theorem leaf_of {u:RT} {w:Tree} (hk:u.kind=1) (h:inTy u w=true):J14 w=true∧Jrb (J9l w):=by
 cases u with
 | mk k s n c kids =>
  have hk:k=1:=hk;subst hk;rw [Jvo] at h;simp only [inK,if_neg (show ¬ (1:Int)=0 by decide),if_true,Bool.and_eq_true,Jq1,decide_eq_true_eq] at h;exact ⟨h.1,h.2.1⟩
def idxF (b:Nat→Bool):Nat→Nat→Int
 | 0,_=>-1
 | k+1,i=>if b i=true then idxF b k (i+1) else i
def allF (b:Nat→Bool):Nat→Nat→Bool
 | 0,_=>true
 | k+1,i=>b i && allF b k (i+1)
theorem Jux {b:Nat→Bool}:∀ {k i:Nat},decide (0≤idxF b k i) = !allF b k i
 | 0,i=>rfl
 | k+1,i=>by
  rw [idxF,allF];cases b i
  ·simp
  ·simp only [if_true,Bool.true_and];exact Jux
theorem Jxs {α:Type} {P:α→Bool} {d:α}:∀ {l m:List α} {i:Nat},l.drop i=m→allF (fun j=>P (l.getD j d)) m.length i=m.all P
 | l,[],i,_=>rfl
 | l,x :: m,i,h=>by
  have hx:l.getD i d=x:=by
   have:=congrArg (·[0]?) h;simp only [List.getElem?_drop,Nat.add_zero,List.getElem?_cons_zero] at this;rw [List.getD_eq_getElem?_getD,this];rfl
  rw [List.length_cons,allF,List.all_cons,hx,Jxs (l:=l) (m:=m) (i:=i+1) (by rw [← List.drop_drop,h];rfl)]
def keyK (t:Tree):List UInt8:=match entK t with
 | some p=>p.1
 | none=>[]
def kd0:KT:=([],.mk 0 [] false 0 .nil)
def entB (P:Tree→Bool) (l:List KT) (i:Nat):Bool:=match entK (l.getD i kd0).2 with
 | none=>false
 | some (key,x)=>(if i=0 then true else Op.bytesLess (keyK (l.getD (i - 1) kd0).2) key) && P x
theorem Jui {α:Type} {l:List α} {i:Nat} {x d:α} (h:l[i]? = some x):l.getD i d=x:=by rw [List.getD_eq_getElem?_getD,h];rfl
theorem J4y {P:Tree→Bool} {l:List KT}:∀ {m:List KT} {i:Nat} {last:Option (List UInt8)},l.drop i=m→last=(if i=0 then none else some (keyK (l.getD (i - 1) kd0).2))→allF (entB P l) m.length i=entS P last m
 | [],i,last,_,_=>by rw [entS];rfl
 | q :: m,i,last,h,hl=>by
  have hq:l.getD i kd0=q:=Jui (by have:=congrArg (·[0]?) h;simpa using this);rw [List.length_cons,allF,entS,entB,hq];cases hk:entK q.2 with
  | none=>rfl
  | some p =>
   obtain ⟨key,x⟩:=p;simp only;have ih:=J4y (P:=P) (l:=l) (m:=m) (i:=i+1) (last:=some key) (by rw [← List.drop_drop,h];rfl) (by simp only [Nat.add_one_ne_zero,if_false,Nat.add_sub_cancel];rw [hq,keyK,hk]);rw [ih,Bool.and_assoc];congr 1;subst hl;unfold Jtg;by_cases h0:i=0
   ·rw [if_pos h0,if_pos h0]
   ·rw [if_neg h0,if_neg h0]
def grpH (s:List UInt8) (q:KT):Tree:=Jv2 (Jrt s q.2.kids.list)
def grpB (P:Tree→Bool) (s:List UInt8) (l:List KT) (i:Nat):Bool :=
 Jsd P (l.getD i kd0) && (((Jrt s (l.getD i kd0).2.kids.list).all fun k=>Jv4 k (grpH s (l.getD i kd0))) && (if i=0 then true else decide (cmpT (grpH s (l.getD (i - 1) kd0)) (grpH s (l.getD i kd0))<0)))
theorem J04 {P:Tree→Bool} {s:List UInt8} {l:List KT}:∀ {m:List KT} {i:Nat} {last:Option Tree},l.drop i=m→last=(if i=0 then none else some (grpH s (l.getD (i - 1) kd0)))→allF (grpB P s l) m.length i=Jtv P s last m
 | [],i,last,_,_=>by rw [Jtv];rfl
 | q :: m,i,last,h,hl=>by
  have hq:l.getD i kd0=q:=Jui (by have:=congrArg (·[0]?) h;simpa using this);rw [List.length_cons,allF,Jtv,grpB,hq];have ih:=J04 (P:=P) (s:=s) (l:=l) (m:=m) (i:=i+1) (last:=some (grpH s q)) (by rw [← List.drop_drop,h];rfl) (by simp only [Nat.add_one_ne_zero,if_false,Nat.add_sub_cancel];rw [hq]);rw [ih,Bool.and_assoc,Bool.and_assoc];congr 3;subst hl;unfold Jy9;by_cases h0:i=0
  ·rw [if_pos h0,if_pos h0]
  ·rw [if_neg h0,if_neg h0];rfl
def objB (kids:List KT) (rows:List RKT) (i:Nat):Bool:=match rows[i]? with
 | some r=>Jw2 kids r.1 (inTy r.2)
 | none=>true
theorem J36 {kids:List KT} {rows:List RKT}:∀ {m:List RKT} {i:Nat},rows.drop i=m→allF (objB kids rows) m.length i=objS kids m (m.map fun p=>inTy p.2)
 | [],i,_=>by rw [List.map_nil,objS];rfl;simp
 | r :: m,i,h=>by
  have hr:rows[i]? = some r:=by have:=congrArg (·[0]?) h;simpa using this
  rw [List.length_cons,allF,List.map_cons,objS,objB,hr,J36 (m:=m) (i:=i+1) (by rw [← List.drop_drop,h];rfl)]
end Go.LX
namespace Go.LX
open Go Go.Proofs
@[go_sem] theorem f_a60:B2 Tryz.prog 60=some false:=krf
@[go_sem] theorem f_c60:Tryz.prog.cellsOf 60=1:=krf
@[go_sem] theorem f_a111:B2 Tryz.prog 111=some false:=krf
@[go_sem] theorem f_c111:Tryz.prog.cellsOf 111=1:=krf
end Go.LX
namespace Go.LX
open Go Go.RowKit Go.Proofs
attribute [local irreducible] Al SWP Bi
theorem J50 (g:FuncId) (hk:cx.kind g=0) (T0:TypeId) (x:PV) (c0 d0:PV) (b:Bool) (h:Det cx g [.p x,.ptr 1000 0 0] [(1000,.var T0 [.p c0])] (.p (.bool b)) [(1000,.var T0 [.p d0])]) :
  Det cx 140 [.p x,.ptr 1000 0 0] [(1000,.var 60 [.fn g [1001]]),(1001,.var T0 [.p c0])] (.p (.bool (!b))) [(1000,.var 60 [.fn g [1001]]),(1001,.var T0 [.p d0])]:=by
 (refine bgo Tryz.func140 ?_;simp only [go_sem,simprocAttr,hk]);(repeat' (first | ((refine Jqa (h) ?_);simp only [go_sem,simprocAttr]) | fail))
theorem J52 (g:FuncId) (hk:cx.kind g=0) (T0 T1 T2:TypeId) (x:PV) (c0 c1 c2 d0 d1 d2:PV) (b:Bool) (h:Det cx g [.p x,.ptr 1000 0 0,.ptr 1001 0 0,.ptr 1002 0 0] [(1000,.var T0 [.p c0]),(1001,.var T1 [.p c1]),(1002,.var T2 [.p c2])] (.p (.bool b)) [(1000,.var T0 [.p d0]),(1001,.var T1 [.p d1]),(1002,.var T2 [.p d2])]) :
  Det cx 140 [.p x,.ptr 1000 0 0] [(1000,.var 60 [.fn g [1001,1002,1003]]),(1001,.var T0 [.p c0]),(1002,.var T1 [.p c1]),(1003,.var T2 [.p c2])] (.p (.bool (!b))) [(1000,.var 60 [.fn g [1001,1002,1003]]),(1001,.var T0 [.p d0]),(1002,.var T1 [.p d1]),(1003,.var T2 [.p d2])]:=by
 (refine bgo Tryz.func140 ?_;simp only [go_sem,simprocAttr,hk]);(repeat' (first | ((refine Jqa (h) ?_);simp only [go_sem,simprocAttr]) | fail))
theorem Jyr (g:FuncId) (hk:cx.kind g=0) (T0 T1 T2:TypeId) (es:List (List PV)) (h1:∀ q∈es,∃ x,q=[x]) (hl:es.length≤1000000) (c0:Nat→PV) (c1:Nat→PV) (c2:Nat→PV) (b:Nat→Bool) (Pre:Nat→Prop) (h0:Pre 0) (hc:∀ (i:Nat) (x:PV),es[i]? = some [x]→Pre i→∃ d0 d1 d2,Det cx g [.p x,.ptr 1000 0 0,.ptr 1001 0 0,.ptr 1002 0 0] [(1000,.var T0 [.p (c0 i)]),(1001,.var T1 [.p (c1 i)]),(1002,.var T2 [.p (c2 i)])] (.p (.bool (b i))) [(1000,.var T0 [.p d0]),(1001,.var T1 [.p d1]),(1002,.var T2 [.p d2])]∧(b i=true→d0=c0 (i+1)∧d1=c1 (i+1)∧d2=c2 (i+1)∧Pre (i+1))) :
  Det cx 209 [.p (.sl es),.fn 140 [1000]] [(1000,.var 60 [.fn g [1001,1002,1003]]),(1001,.var T0 [.p (c0 0)]),(1002,.var T1 [.p (c1 0)]),(1003,.var T2 [.p (c2 0)])] (.p (.int .i64 (idxF b es.length 0))) []:=by
 refine Al.sub (Post:=fun m _=>m=.p (.int .i64 (idxF b es.length 0))) ?_ (fun m q hm=>⟨[],List.nil_sublist _,hm,rfl⟩);(refine bgo Tryz.func209 ?_;simp only [go_sem,simprocAttr]);refine SWP.loop (fun i:Nat=>⟨Ba 19 [(0,.p (.sl es)),(1,.fn 140 [1000]),(7,.p (.int .i64 es.length)),(8,.p (.int .i64 i))],[(1000,.var 60 [.fn g [1001,1002,1003]]),(1001,.var T0 [.p (c0 i)]),(1002,.var T1 [.p (c1 i)]),(1003,.var T2 [.p (c2 i)])]⟩) (fun i=>i≤es.length∧Pre i∧idxF b es.length 0=idxF b (es.length - i) i) (fun i=>es.length - i) 0 Jqb ⟨Nat.zero_le _,h0,rfl⟩ ?_;rintro i ⟨h2,h3,h4⟩;by_cases hi:¬ i<es.length
 ·have c9:((i:Int)<(es.length:Int))=False:=eq_false omg;rw [show es.length - i=0 by omega,idxF] at h4;(refine lws ?_;simp only [go_sem,simprocAttr,c9]);rw [h4]
 ·have hi:=Decidable.not_not.1 hi;have c9:((i:Int)<(es.length:Int))=True:=eq_true omg;obtain ⟨q,hq⟩:∃ q,es[i]? = some q:=⟨_,List.getElem?_eq_getElem hi⟩
  obtain ⟨x,rfl⟩:=h1 q (List.mem_of_getElem? hq);obtain ⟨d0,d1,d2,hd,hb⟩:=hc i x hq h3;obtain ⟨k,hk1⟩:∃ k,es.length - i=k+1:=⟨es.length - i - 1,by omega⟩
  rw [hk1,idxF] at h4;have hA:=J52 g hk T0 T1 T2 x (c0 i) (c1 i) (c2 i) d0 d1 d2 (b i) hd;cases hbi:b i with
  | false =>
   rw [hbi] at hA h4;(refine lws ?_;simp only [go_sem,simprocAttr,c9,hq]);(repeat' (first | ((refine Jqa (hA) ?_);simp only [go_sem,simprocAttr,Bool.not_false]) | fail));rw [h4];rfl
  | true =>
   obtain ⟨rfl,rfl,rfl,hp⟩:=hb hbi;rw [hbi,if_pos rfl] at h4;rw [hbi] at hA;(refine lws ?_;simp only [go_sem,simprocAttr,c9,hq,wj1 (i:=i) omg]);(repeat' (first | ((refine Jqa (hA) ?_);simp only [go_sem,simprocAttr,wj1 (i:=i) omg,Bool.not_true]) | fail));exact ⟨i+1,⟨by omega,hp,by rw [h4,show es.length - (i+1)=k by omega]⟩,by omega,Jqb⟩
theorem Jwd (g:FuncId) (hk:cx.kind g=0) (T0 T1 T2:TypeId) (es:List (List PV)) (h1:∀ q∈es,∃ x,q=[x]) (hl:es.length≤1000000) (c0:Nat→PV) (c1:Nat→PV) (c2:Nat→PV) (b:Nat→Bool) (Pre:Nat→Prop) (h0:Pre 0) (hc:∀ (i:Nat) (x:PV),es[i]? = some [x]→Pre i→∃ d0 d1 d2,Det cx g [.p x,.ptr 1000 0 0,.ptr 1001 0 0,.ptr 1002 0 0] [(1000,.var T0 [.p (c0 i)]),(1001,.var T1 [.p (c1 i)]),(1002,.var T2 [.p (c2 i)])] (.p (.bool (b i))) [(1000,.var T0 [.p d0]),(1001,.var T1 [.p d1]),(1002,.var T2 [.p d2])]∧(b i=true→d0=c0 (i+1)∧d1=c1 (i+1)∧d2=c2 (i+1)∧Pre (i+1))) :
  Det cx 139 [.p (.sl es),.fn 140 [1000]] [(1000,.var 60 [.fn g [1001,1002,1003]]),(1001,.var T0 [.p (c0 0)]),(1002,.var T1 [.p (c1 0)]),(1003,.var T2 [.p (c2 0)])] (.p (.bool (!allF b es.length 0))) []:=by
 refine Al.sub (Post:=fun m _=>m=.p (.bool (!allF b es.length 0))) ?_ (fun m q hm=>⟨[],List.nil_sublist _,hm,rfl⟩);have hI:=Jyr g hk T0 T1 T2 es h1 hl c0 c1 c2 b Pre h0 hc;(refine bgo Tryz.func139 ?_;simp only [go_sem,simprocAttr]);(repeat' (first | ((refine Jqa (hI) ?_);simp only [go_sem,simprocAttr]) | fail));rw [← Jux]
theorem J1q (g:FuncId) (hk:cx.kind g=0) (T0 T1 T2:TypeId) (es:List (List PV)) (h1:∀ q∈es,∃ x,q=[x]) (hl:es.length≤1000000) (c0:Nat→PV) (c1:Nat→PV) (c2:Nat→PV) (b:Nat→Bool) (Pre:Nat→Prop) (h0:Pre 0) (hc:∀ (i:Nat) (x:PV),es[i]? = some [x]→Pre i→∃ d0 d1 d2,Det cx g [.p x,.ptr 1000 0 0,.ptr 1001 0 0,.ptr 1002 0 0] [(1000,.var T0 [.p (c0 i)]),(1001,.var T1 [.p (c1 i)]),(1002,.var T2 [.p (c2 i)])] (.p (.bool (b i))) [(1000,.var T0 [.p d0]),(1001,.var T1 [.p d1]),(1002,.var T2 [.p d2])]∧(b i=true→d0=c0 (i+1)∧d1=c1 (i+1)∧d2=c2 (i+1)∧Pre (i+1))) :
  Det cx 58 [.p (.sl es),.fn g [1000,1001,1002]] [(1000,.var T0 [.p (c0 0)]),(1001,.var T1 [.p (c1 0)]),(1002,.var T2 [.p (c2 0)])] (.p (.bool (allF b es.length 0))) []:=by
 refine Al.sub (Post:=fun m _=>m=.p (.bool (allF b es.length 0))) ?_ (fun m q hm=>⟨[],List.nil_sublist _,hm,rfl⟩);have hI:=Jwd g hk T0 T1 T2 es h1 hl c0 c1 c2 b Pre h0 hc;(refine bgo Tryz.func58 ?_;simp only [go_sem,simprocAttr]);(repeat' (first | ((refine Jqa (hI) ?_);simp only [go_sem,simprocAttr]) | fail))
 all_goals (cases allF b es.length 0 <;> rfl)
theorem J35 (g:FuncId) (hk:cx.kind g=0) (T0 T1 T2:TypeId) (x:PV) (c0 c1 c2 d0 d1 d2:PV) (b:Bool) (h:Det cx g [.p x,.ptr 1000 0 0,.ptr 1001 0 0,.ptr 1002 0 0] [(1000,.var T0 [.p c0]),(1001,.var T1 [.p c1]),(1002,.var T2 [.p c2])] (.p (.bool b)) [(1000,.var T0 [.p d0]),(1001,.var T1 [.p d1]),(1002,.var T2 [.p d2])]) :
  Det cx 207 [.p x,.ptr 1000 0 0] [(1000,.var 111 [.fn g [1001,1002,1003]]),(1001,.var T0 [.p c0]),(1002,.var T1 [.p c1]),(1003,.var T2 [.p c2])] (.p (.bool (!b))) [(1000,.var 111 [.fn g [1001,1002,1003]]),(1001,.var T0 [.p d0]),(1002,.var T1 [.p d1]),(1003,.var T2 [.p d2])]:=by
 (refine bgo Tryz.func207 ?_;simp only [go_sem,simprocAttr,hk]);(repeat' (first | ((refine Jqa (h) ?_);simp only [go_sem,simprocAttr]) | fail))
theorem Jxk (g:FuncId) (hk:cx.kind g=0) (T0 T1 T2:TypeId) (es:List (List PV)) (h1:∀ q∈es,∃ x,q=[x]) (hl:es.length≤1000000) (c0:Nat→PV) (c1:Nat→PV) (c2:Nat→PV) (b:Nat→Bool) (Pre:Nat→Prop) (h0:Pre 0) (hc:∀ (i:Nat) (x:PV),es[i]? = some [x]→Pre i→∃ d0 d1 d2,Det cx g [.p x,.ptr 1000 0 0,.ptr 1001 0 0,.ptr 1002 0 0] [(1000,.var T0 [.p (c0 i)]),(1001,.var T1 [.p (c1 i)]),(1002,.var T2 [.p (c2 i)])] (.p (.bool (b i))) [(1000,.var T0 [.p d0]),(1001,.var T1 [.p d1]),(1002,.var T2 [.p d2])]∧(b i=true→d0=c0 (i+1)∧d1=c1 (i+1)∧d2=c2 (i+1)∧Pre (i+1))) :
  Det cx 250 [.p (.sl es),.fn 207 [1000]] [(1000,.var 111 [.fn g [1001,1002,1003]]),(1001,.var T0 [.p (c0 0)]),(1002,.var T1 [.p (c1 0)]),(1003,.var T2 [.p (c2 0)])] (.p (.int .i64 (idxF b es.length 0))) []:=by
 refine Al.sub (Post:=fun m _=>m=.p (.int .i64 (idxF b es.length 0))) ?_ (fun m q hm=>⟨[],List.nil_sublist _,hm,rfl⟩);(refine bgo Tryz.func250 ?_;simp only [go_sem,simprocAttr]);refine SWP.loop (fun i:Nat=>⟨Ba 19 [(0,.p (.sl es)),(1,.fn 207 [1000]),(7,.p (.int .i64 es.length)),(8,.p (.int .i64 i))],[(1000,.var 111 [.fn g [1001,1002,1003]]),(1001,.var T0 [.p (c0 i)]),(1002,.var T1 [.p (c1 i)]),(1003,.var T2 [.p (c2 i)])]⟩) (fun i=>i≤es.length∧Pre i∧idxF b es.length 0=idxF b (es.length - i) i) (fun i=>es.length - i) 0 Jqb ⟨Nat.zero_le _,h0,rfl⟩ ?_;rintro i ⟨h2,h3,h4⟩;by_cases hi:¬ i<es.length
 ·have c9:((i:Int)<(es.length:Int))=False:=eq_false omg;rw [show es.length - i=0 by omega,idxF] at h4;(refine lws ?_;simp only [go_sem,simprocAttr,c9]);rw [h4]
 ·have hi:=Decidable.not_not.1 hi;have c9:((i:Int)<(es.length:Int))=True:=eq_true omg;obtain ⟨q,hq⟩:∃ q,es[i]? = some q:=⟨_,List.getElem?_eq_getElem hi⟩
  obtain ⟨x,rfl⟩:=h1 q (List.mem_of_getElem? hq);obtain ⟨d0,d1,d2,hd,hb⟩:=hc i x hq h3;obtain ⟨k,hk1⟩:∃ k,es.length - i=k+1:=⟨es.length - i - 1,by omega⟩
  rw [hk1,idxF] at h4;have hA:=J35 g hk T0 T1 T2 x (c0 i) (c1 i) (c2 i) d0 d1 d2 (b i) hd;cases hbi:b i with
  | false =>
   rw [hbi] at hA h4;(refine lws ?_;simp only [go_sem,simprocAttr,c9,hq]);(repeat' (first | ((refine Jqa (hA) ?_);simp only [go_sem,simprocAttr,Bool.not_false]) | fail));rw [h4];rfl
  | true =>
   obtain ⟨rfl,rfl,rfl,hp⟩:=hb hbi;rw [hbi,if_pos rfl] at h4;rw [hbi] at hA;(refine lws ?_;simp only [go_sem,simprocAttr,c9,hq,wj1 (i:=i) omg]);(repeat' (first | ((refine Jqa (hA) ?_);simp only [go_sem,simprocAttr,wj1 (i:=i) omg,Bool.not_true]) | fail));exact ⟨i+1,⟨by omega,hp,by rw [h4,show es.length - (i+1)=k by omega]⟩,by omega,Jqb⟩
theorem Jvw (g:FuncId) (hk:cx.kind g=0) (T0 T1 T2:TypeId) (es:List (List PV)) (h1:∀ q∈es,∃ x,q=[x]) (hl:es.length≤1000000) (c0:Nat→PV) (c1:Nat→PV) (c2:Nat→PV) (b:Nat→Bool) (Pre:Nat→Prop) (h0:Pre 0) (hc:∀ (i:Nat) (x:PV),es[i]? = some [x]→Pre i→∃ d0 d1 d2,Det cx g [.p x,.ptr 1000 0 0,.ptr 1001 0 0,.ptr 1002 0 0] [(1000,.var T0 [.p (c0 i)]),(1001,.var T1 [.p (c1 i)]),(1002,.var T2 [.p (c2 i)])] (.p (.bool (b i))) [(1000,.var T0 [.p d0]),(1001,.var T1 [.p d1]),(1002,.var T2 [.p d2])]∧(b i=true→d0=c0 (i+1)∧d1=c1 (i+1)∧d2=c2 (i+1)∧Pre (i+1))) :
  Det cx 206 [.p (.sl es),.fn 207 [1000]] [(1000,.var 111 [.fn g [1001,1002,1003]]),(1001,.var T0 [.p (c0 0)]),(1002,.var T1 [.p (c1 0)]),(1003,.var T2 [.p (c2 0)])] (.p (.bool (!allF b es.length 0))) []:=by
 refine Al.sub (Post:=fun m _=>m=.p (.bool (!allF b es.length 0))) ?_ (fun m q hm=>⟨[],List.nil_sublist _,hm,rfl⟩);have hI:=Jxk g hk T0 T1 T2 es h1 hl c0 c1 c2 b Pre h0 hc;(refine bgo Tryz.func206 ?_;simp only [go_sem,simprocAttr]);(repeat' (first | ((refine Jqa (hI) ?_);simp only [go_sem,simprocAttr]) | fail));rw [← Jux]
theorem J6r (g:FuncId) (hk:cx.kind g=0) (T0 T1 T2:TypeId) (es:List (List PV)) (h1:∀ q∈es,∃ x,q=[x]) (hl:es.length≤1000000) (c0:Nat→PV) (c1:Nat→PV) (c2:Nat→PV) (b:Nat→Bool) (Pre:Nat→Prop) (h0:Pre 0) (hc:∀ (i:Nat) (x:PV),es[i]? = some [x]→Pre i→∃ d0 d1 d2,Det cx g [.p x,.ptr 1000 0 0,.ptr 1001 0 0,.ptr 1002 0 0] [(1000,.var T0 [.p (c0 i)]),(1001,.var T1 [.p (c1 i)]),(1002,.var T2 [.p (c2 i)])] (.p (.bool (b i))) [(1000,.var T0 [.p d0]),(1001,.var T1 [.p d1]),(1002,.var T2 [.p d2])]∧(b i=true→d0=c0 (i+1)∧d1=c1 (i+1)∧d2=c2 (i+1)∧Pre (i+1))) :
  Det cx 131 [.p (.sl es),.fn g [1000,1001,1002]] [(1000,.var T0 [.p (c0 0)]),(1001,.var T1 [.p (c1 0)]),(1002,.var T2 [.p (c2 0)])] (.p (.bool (allF b es.length 0))) []:=by
 refine Al.sub (Post:=fun m _=>m=.p (.bool (allF b es.length 0))) ?_ (fun m q hm=>⟨[],List.nil_sublist _,hm,rfl⟩);have hI:=Jvw g hk T0 T1 T2 es h1 hl c0 c1 c2 b Pre h0 hc;(refine bgo Tryz.func131 ?_;simp only [go_sem,simprocAttr]);(repeat' (first | ((refine Jqa (hI) ?_);simp only [go_sem,simprocAttr]) | fail))
 all_goals (cases allF b es.length 0 <;> rfl)
theorem Jyt (g:FuncId) (hk:cx.kind g=0) (T0:TypeId) (c:PV) (es:List (List PV)) (h1:∀ q∈es,∃ x,q=[x]) (hl:es.length≤1000000) (b:Nat→Bool) (hc:∀ (i:Nat) (x:PV),es[i]? = some [x]→Det cx g [.p x,.ptr 1000 0 0] [(1000,.var T0 [.p c])] (.p (.bool (b i))) [(1000,.var T0 [.p c])]) :
  Det cx 209 [.p (.sl es),.fn 140 [1000]] [(1000,.var 60 [.fn g [1001]]),(1001,.var T0 [.p c])] (.p (.int .i64 (idxF b es.length 0))) [(1000,.var 60 [.fn g [1001]]),(1001,.var T0 [.p c])]:=by
 (refine bgo Tryz.func209 ?_;simp only [go_sem,simprocAttr]);refine SWP.loop (fun i:Nat=>⟨Ba 19 [(0,.p (.sl es)),(1,.fn 140 [1000]),(7,.p (.int .i64 es.length)),(8,.p (.int .i64 i))],[(1000,.var 60 [.fn g [1001]]),(1001,.var T0 [.p c])]⟩) (fun i=>i≤es.length∧idxF b es.length 0=idxF b (es.length - i) i) (fun i=>es.length - i) 0 Jqb ⟨Nat.zero_le _,rfl⟩ ?_;rintro i ⟨h2,h4⟩;by_cases hi:¬ i<es.length
 ·have c9:((i:Int)<(es.length:Int))=False:=eq_false omg;rw [show es.length - i=0 by omega,idxF] at h4;(refine lws ?_;simp only [go_sem,simprocAttr,c9]);rw [h4]
 ·have hi:=Decidable.not_not.1 hi;have c9:((i:Int)<(es.length:Int))=True:=eq_true omg;obtain ⟨q,hq⟩:∃ q,es[i]? = some q:=⟨_,List.getElem?_eq_getElem hi⟩
  obtain ⟨x,rfl⟩:=h1 q (List.mem_of_getElem? hq);have hd:=hc i x hq;obtain ⟨k,hk1⟩:∃ k,es.length - i=k+1:=⟨es.length - i - 1,by omega⟩
  rw [hk1,idxF] at h4;have hA:=J50 g hk T0 x c c (b i) hd;cases hbi:b i with
  | false =>
   rw [hbi] at hA h4;(refine lws ?_;simp only [go_sem,simprocAttr,c9,hq]);(repeat' (first | ((refine Jqa (hA) ?_);simp only [go_sem,simprocAttr,Bool.not_false]) | fail));rw [h4];rfl
  | true =>
   rw [hbi,if_pos rfl] at h4;rw [hbi] at hA;(refine lws ?_;simp only [go_sem,simprocAttr,c9,hq,wj1 (i:=i) omg]);(repeat' (first | ((refine Jqa (hA) ?_);simp only [go_sem,simprocAttr,wj1 (i:=i) omg,Bool.not_true]) | fail));exact ⟨i+1,⟨by omega,by rw [h4,show es.length - (i+1)=k by omega]⟩,by omega,Jqb⟩
theorem Jwc (g:FuncId) (hk:cx.kind g=0) (T0:TypeId) (c:PV) (es:List (List PV)) (h1:∀ q∈es,∃ x,q=[x]) (hl:es.length≤1000000) (b:Nat→Bool) (hc:∀ (i:Nat) (x:PV),es[i]? = some [x]→Det cx g [.p x,.ptr 1000 0 0] [(1000,.var T0 [.p c])] (.p (.bool (b i))) [(1000,.var T0 [.p c])]) :
  Det cx 139 [.p (.sl es),.fn 140 [1000]] [(1000,.var 60 [.fn g [1001]]),(1001,.var T0 [.p c])] (.p (.bool (!allF b es.length 0))) [(1000,.var 60 [.fn g [1001]]),(1001,.var T0 [.p c])]:=by
 have hI:=Jyt g hk T0 c es h1 hl b hc;(refine bgo Tryz.func139 ?_;simp only [go_sem,simprocAttr]);(repeat' (first | ((refine Jqa (hI) ?_);simp only [go_sem,simprocAttr]) | fail));rw [← Jux]
theorem Jxt (g:FuncId) (hk:cx.kind g=0) (T0:TypeId) (c:PV) (es:List (List PV)) (h1:∀ q∈es,∃ x,q=[x]) (hl:es.length≤1000000) (b:Nat→Bool) (hc:∀ (i:Nat) (x:PV),es[i]? = some [x]→Det cx g [.p x,.ptr 1000 0 0] [(1000,.var T0 [.p c])] (.p (.bool (b i))) [(1000,.var T0 [.p c])]) :
  Det cx 58 [.p (.sl es),.fn g [1000]] [(1000,.var T0 [.p c])] (.p (.bool (allF b es.length 0))) [(1000,.var T0 [.p c])]:=by
 have hI:=Jwc g hk T0 c es h1 hl b hc;(refine bgo Tryz.func58 ?_;simp only [go_sem,simprocAttr]);(repeat' (first | ((refine Jqa (hI) ?_);simp only [go_sem,simprocAttr]) | fail))
 all_goals (cases allF b es.length 0 <;> rfl)
theorem Jz8 {k:Int} {s:List UInt8} {g:Bool} {e m:Int} (h:G3 k s g e m) (hk:k<5):k=0∨k=1∨k=2∨k=3∨k=4:=by
 unfold G3 at h;split at h
 ·omega
 ·split at h
  ·omega
  ·split at h
   ·omega
   ·split at h
    ·omega
    ·exact h.elim
theorem J4r {s:List UInt8} {g:Bool} {e:Int} (h:Yz s g e):Jrk ⟨3,0,[],s,g,e⟩=true:=(J56 _).2 (Jsi h)
theorem J9h (k:Int) (s:List UInt8) (g:Bool) (e:Int) (h:G3 k s g e 0) (hk:k<5) (hs:s.length≤1000000):Det cx 247 [.p (.agg [.int .i64 k,.int .i64 0,.str [],.str s,.bool g,.int .i64 e])] [] (.p (.bool true)) []:=by
 rcases Jz8 h hk with rfl | rfl | rfl | rfl | rfl
 ·obtain ⟨rfl,rfl,rfl⟩:s=[]∧g=false∧e=0:=by simpa [G3] using h
  (refine bgo Tryz.func247 ?_;simp only [go_sem,simprocAttr])
  all_goals (first | rfl | simp)
 ·obtain ⟨rfl,rfl,rfl⟩:s=[]∧g=false∧e=0:=by simpa [G3] using h
  (refine bgo Tryz.func247 ?_;simp only [go_sem,simprocAttr])
  all_goals (first | rfl | simp)
 ·obtain ⟨rfl,rfl,rfl⟩:s=[]∧g=false∧e=0:=by simpa [G3] using h
  (refine bgo Tryz.func247 ?_;simp only [go_sem,simprocAttr])
  all_goals (first | rfl | simp)
 ·have hn:=Jtc h rfl;have hR:=J5t ⟨3,0,[],s,g,e⟩ hs;rw [J4r hn,Js3] at hR;(refine bgo Tryz.func247 ?_;simp only [go_sem,simprocAttr]);(repeat' (first | ((refine Jqa (hR) ?_);simp only [go_sem,simprocAttr]) | fail))
  all_goals (first | rfl | simp)
 ·obtain ⟨hv,rfl,rfl⟩:valid s=true∧g=false∧e=0:=by simpa [G3] using h
  have hV:=Fi s omg;rw [hv] at hV;(refine bgo Tryz.func247 ?_;simp only [go_sem,simprocAttr]);(repeat' (first | ((refine Jqa (hV) ?_);simp only [go_sem,simprocAttr]) | fail))
  all_goals (first | rfl | simp)
def stk2 (k:Int):List (List PV):=[[.int .i64 5,.int .i64 0,.bool false,.str []],[.int .i64 k,.int .i64 0,.bool true,.str []]]
theorem J0u (a:Int) (b:Bool) (c:List UInt8):Det cx 249 [.p (.agg [.int .i64 a,.int .i64 0,.bool b,.str c])] [] (.p (.bool false)) []:=by
 (refine bgo Tryz.func249 ?_;simp only [go_sem,simprocAttr])
 skip
theorem J4o (k:Int):Det cx 289 [.p (.sl (stk2 k)),.fn 249 []] [] (.p (.int .i64 (-1))) []:=by
 have hl2:(stk2 k).length=2:=rfl;(refine bgo Tryz.func289 ?_;simp only [go_sem,simprocAttr,hl2]);refine SWP.loop (fun i:Nat=>⟨Ba 19 [(0,.p (.sl (stk2 k))),(1,.fn 249 []),(7,.p (.int .i64 2)),(8,.p (.int .i64 i))],[]⟩) (fun i=>i≤2) (fun i=>2 - i) 0 Jqb (Nat.zero_le _) ?_;rintro i hi;have hcase:i=0∨i=1∨i=2:=by omega
 rcases hcase with rfl | rfl | rfl
 ·have h0:(stk2 k)[0]? = some [.int .i64 5,.int .i64 0,.bool false,.str []]:=rfl;have w0:IntKind.i64.wrap 1=1:=by decide
  (refine lws ?_;simp only [go_sem,simprocAttr,h0]);(repeat' (first | ((refine Jqa (J0u _ _ _) ?_);simp only [go_sem,simprocAttr,w0]) | fail));exact ⟨1,by omega,by omega,Jqb⟩
 ·have h0:(stk2 k)[1]? = some [.int .i64 k,.int .i64 0,.bool true,.str []]:=rfl;have w0:IntKind.i64.wrap (1+1)=2:=by decide
  have w1:IntKind.i64.wrap 2=2:=by decide
  (refine lws ?_;simp only [go_sem,simprocAttr,h0]);(repeat' (first | ((refine Jqa (J0u _ _ _) ?_);simp only [go_sem,simprocAttr,w1]) | fail));exact ⟨2,by omega,by omega,Jqb⟩
 ·(refine lws ?_;simp only [go_sem,simprocAttr])
  skip
theorem Jz1 (k:Int):Det cx 248 [.p (.sl (stk2 k)),.fn 249 []] [] (.p (.bool false)) []:=by
 (refine bgo Tryz.func248 ?_;simp only [go_sem,simprocAttr]);(repeat' (first | ((refine Jqa (J4o k) ?_);simp only [go_sem,simprocAttr]) | fail))
theorem J76 (k:Int) (s:List UInt8) (g:Bool) (e:Int) (h:G3 k s g e 0) (hk:k<5) (hs:s.length≤1000000):Det cx 201 [.p (.sl [[.int .i64 k,.int .i64 0,.str [],.str s,.bool g,.int .i64 e]])] [] (.p (.bool true)) []:=by
 have hP:=J9h k s g e h hk hs;have hC:=Jz1 k;(refine bgo Tryz.func201 ?_;simp only [go_sem,simprocAttr]);refine SWP.loop (fun i:Nat=>if i=0 then ⟨Ba 123 [(0,.p (.sl [[.int .i64 k,.int .i64 0,.str [],.str s,.bool g,.int .i64 e]])),(3,.own 9 0 1),(10,.p (.sl [[.int .i64 k,.int .i64 0,.str [],.str s,.bool g,.int .i64 e]])),(11,.p (.int .i64 1)),(12,.p (.int .i64 0))],[(9,.row 212 4 [[.int .i64 5,.int .i64 1,.bool false,.str []]])]⟩ else ⟨Ba 123 [(0,.p (.sl [[.int .i64 k,.int .i64 0,.str [],.str s,.bool g,.int .i64 e]])),(3,.own 113 0 2),(11,.p (.int .i64 1)),(12,.p (.int .i64 1))],[(113,.row 212 4 (stk2 k))]⟩) (fun i=>i≤1) (fun i=>1 - i) 0 (by rw [if_pos rfl];exact Jqb) (Nat.zero_le _) ?_;rintro i hi;have hcase:i=0∨i=1:=by omega
 rcases hcase with rfl | rfl
 ·rw [if_pos rfl];(refine lws ?_;simp only [go_sem,simprocAttr]);refine SWP.loop (fun _:Unit=>⟨Ba 123 [(0,.p (.sl [[.int .i64 k,.int .i64 0,.str [],.str s,.bool g,.int .i64 e]])),(3,.own 9 0 1),(5,.ptr 5 0 0),(10,.p (.sl [[.int .i64 k,.int .i64 0,.str [],.str s,.bool g,.int .i64 e]])),(11,.p (.int .i64 1)),(12,.p (.int .i64 0))],[(5,.var 29 [.p (.int .i64 k),.p (.int .i64 0),.p (.str []),.p (.str s),.p (.bool g),.p (.int .i64 e)]),(9,.row 212 4 [[.int .i64 5,.int .i64 1,.bool false,.str []]])]⟩) (fun _=>True) (fun _=>0) () Jqb trivial ?_;rintro _ _;have e1:((1:Nat):Int)=1:=rfl;have e2:((2:Nat):Int)=2:=rfl;have w0:IntKind.i64.wrap 0=0:=by decide
  have w1:IntKind.i64.wrap 1=1:=by decide
  have hk6:(k=6)=False:=eq_false omg;(refine lws ?_;simp only [go_sem,simprocAttr,e1,w0]);(repeat' (first | ((first | (refine Jqk ?_)|(refine Jqa (hP) ?_));simp only [go_sem,simprocAttr,e1,w0,decide_false,Bool.not_false,Bool.not_true]) | fail));refine J4m 6 [0,4,5] (.node 1 (.node 2 (.node 3 (.node 6 (.node 7 (.node 8 (.node 9 .leaf .nil) .nil) .nil) .nil) (.node 6 (.node 3 (.node 7 (.node 8 (.node 9 .leaf .nil) .nil) .nil) .nil) .nil)) (.node 6 (.node 2 (.node 3 (.node 7 (.node 8 (.node 9 .leaf .nil) .nil) .nil) .nil) .nil) .nil)) (.node 2 (.node 1 (.node 3 (.node 6 (.node 7 (.node 8 (.node 9 .leaf .nil) .nil) .nil) .nil) (.node 6 (.node 3 (.node 7 (.node 8 (.node 9 .leaf .nil) .nil) .nil) .nil) .nil)) (.node 3 (.node 1 (.node 6 (.node 7 (.node 8 (.node 9 .leaf .nil) .nil) .nil) .nil) (.node 6 (.node 1 (.node 7 (.node 8 (.node 9 .leaf .nil) .nil) .nil) .nil) .nil)) (.node 6 (.node 1 (.node 3 (.node 7 (.node 8 (.node 9 .leaf .nil) .nil) .nil) .nil) (.node 3 (.node 1 (.node 7 (.node 8 (.node 9 .leaf .nil) .nil) .nil) .nil) .nil)) .nil))) (.node 6 (.node 1 (.node 2 (.node 3 (.node 7 (.node 8 (.node 9 .leaf .nil) .nil) .nil) .nil) .nil) (.node 2 (.node 1 (.node 3 (.node 7 (.node 8 (.node 9 .leaf .nil) .nil) .nil) .nil) (.node 3 (.node 1 (.node 7 (.node 8 (.node 9 .leaf .nil) .nil) .nil) .nil) .nil)) .nil)) .nil))) 7 hm rfl krf krf ?_;simp only [go_sem,simprocAttr,w1];(repeat' (refine And.intro ?_ ?_))
  all_goals first
   | (intro q hq;simp at hq;rw [hq];rfl)
   | (
    refine ⟨1,by omega,by omega,?_⟩;rw [if_neg de];unfold stk2;exact Jqb)
 ·rw [if_neg de];have hl2:(stk2 k).length=2:=rfl;have ht2:(stk2 k).take 2=stk2 k:=rfl;have hle:(2≤2)=True:=eq_true (Nat.le_refl 2);(refine lws ?_;simp only [go_sem,simprocAttr,hl2,ht2,hle]);(repeat' (first | ((refine Jqa (hC) ?_);simp only [go_sem,simprocAttr]) | fail))
theorem Jwn {n:Node} (h:Jrb n):n.many=0:=by
 obtain ⟨hk,_,h⟩:=h;unfold G3 at h;split at h
 ·exact h.1
 ·split at h
  ·exact h.1
  ·split at h
   ·exact h.2.1
   ·split at h
    ·omega
    ·exact h.elim
theorem J82 (n:Node) (h:n.kind<5→Jrb n) (hs:n.s.length≤1000000):Det cx 125 [.p (.agg [.int .i64 n.kind,.int .i64 n.many,.str n.name,.str n.s,.bool n.neg,.int .i64 n.e])] [] (.p (.bool (decide (n.kind<5)))) []:=by
 by_cases hk:n.kind<5
 ·have hp:=h hk;have hmz:=Jwn hp;obtain ⟨_,hn,ho⟩:=hp;rw [hmz] at ho;have hR:=J76 n.kind n.s n.neg n.e ho hk hs;have c1:(n.kind<5)=True:=eq_true hk;rw [hmz,hn];(refine bgo Tryz.func125 ?_;simp only [go_sem,simprocAttr,c1,decide_true]);(repeat' (first | ((refine Jqa (hR) ?_);simp only [go_sem,simprocAttr]) | fail))
  all_goals (first | rfl | simp [hk])
 ·have c1:(n.kind<5)=False:=eq_false hk;(refine bgo Tryz.func125 ?_;simp only [go_sem,simprocAttr,c1,decide_false])
  all_goals (first | rfl | simp [hk])
theorem Jzc {n:Node} (h:Jrb n):okT (ndT n):=by
 have hm:=Jwn h;obtain ⟨hk,hn,ho⟩:=h;rw [hm] at ho;exact Lu.2 ⟨ho,Sb _,I6⟩
theorem Jt7 {n:Node} (h:Jrb n):(ndT n).enc []=[n]:=by
 have hm:=Jwn h;obtain ⟨hk,hn,ho⟩:=h;rw [ndT,A6,Bl];cases n;simp only at hm hn;subst hm;subst hn;rfl
theorem Jy2 {n:Node} (h:Jrb n):valL ((ndT n).enc [])=[[.int .i64 n.kind,.int .i64 n.many,.str n.name,.str n.s,.bool n.neg,.int .i64 n.e]]:=by rw [Jt7 h];rfl
theorem d_Holds (a n:Int×Node) (ha:Jrn a.1 a.2) (hn:Jrb n.2):Det cx 128 [.p (.agg [.int .i64 a.1,.int .i64 a.2.kind,.int .i64 a.2.many,.str a.2.name,.str a.2.s,.bool a.2.neg,.int .i64 a.2.e]),.p (.agg [.int .i64 n.2.kind,.int .i64 n.2.many,.str n.2.name,.str n.2.s,.bool n.2.neg,.int .i64 n.2.e])] [] (.p (.bool (Js2 a n.2))) []:=by
 obtain ⟨a0,a5,hap⟩:=ha;have hC:=Kbd 1 (ndT n.2) (ndT a.2) (by rw [Jt7 hn];simp) (Jzc hn) (Jzc hap) (by rw [Jt7 hn];simp) (by rw [Jt7 hap];simp);rw [Jy2 hn,Jy2 hap] at hC;have hcase:a.1=0∨a.1=1∨a.1=2∨a.1=3∨a.1=4∨a.1=5:=by omega
 rw [show Js2 a n.2=J18 a.1 (cmpT (ndT n.2) (ndT a.2)) from rfl];generalize cmpT (ndT n.2) (ndT a.2)=c at hC ⊢;rcases hcase with h | h | h | h | h | h <;> rw [h]
 all_goals
  (refine bgo Tryz.func128 ?_;simp only [go_sem,simprocAttr]);(repeat' (first | ((refine Jqa (hC) ?_);simp only [go_sem,simprocAttr]) | fail))
  all_goals first
   | rfl
   | (simp [J18];done)
   | (by_cases hc:c=0 <;> simp [J18,hc])
theorem J77 (a:Int×Node) (n:Node) (ha:Jrn a.1 a.2) (hn:Jrb n):Det cx 127 [.p (.agg [.int .i64 a.1,.int .i64 a.2.kind,.int .i64 a.2.many,.str a.2.name,.str a.2.s,.bool a.2.neg,.int .i64 a.2.e]),.ptr 1000 0 0] [(1000,.var 29 [.p (.int .i64 n.kind),.p (.int .i64 n.many),.p (.str n.name),.p (.str n.s),.p (.bool n.neg),.p (.int .i64 n.e)])] (.p (.bool (!Js2 a n))) [(1000,.var 29 [.p (.int .i64 n.kind),.p (.int .i64 n.many),.p (.str n.name),.p (.str n.s),.p (.bool n.neg),.p (.int .i64 n.e)])]:=by
 have hH:=d_Holds a (0,n) ha hn;(refine bgo Tryz.func127 ?_;simp only [go_sem,simprocAttr]);(repeat' (first | ((refine Jqa (hH) ?_);simp only [go_sem,simprocAttr]) | fail))
def memF (l:List (Int×Node)) (n:Node) (i:Nat):Bool:=match l[i]? with
 | some a=>Js2 a n
 | none=>true
theorem Jz3 {l:List (Int×Node)} {n:Node}:∀ {m:List (Int×Node)} {i:Nat},l.drop i=m→allF (memF l n) m.length i=m.all fun a=>Js2 a n
 | [],i,_=>rfl
 | a :: m,i,h=>by
  have ha:l[i]? = some a:=by have:=congrArg (·[0]?) h;simpa using this
  rw [List.length_cons,allF,List.all_cons,memF,ha,Jz3 (m:=m) (i:=i+1) (by rw [← List.drop_drop,h];rfl)]
theorem J5g (l:List (Int×Node)) (n:Node) (hl:l.length≤1000000) (ha:∀ a∈l,Jrn a.1 a.2) (hn:Jrb n):Det cx 202 [.p (.sl (Jrg l)),.fn 127 [1000]] [(1000,.var 29 [.p (.int .i64 n.kind),.p (.int .i64 n.many),.p (.str n.name),.p (.str n.s),.p (.bool n.neg),.p (.int .i64 n.e)])] (.p (.int .i64 (idxF (memF l n) l.length 0))) [(1000,.var 29 [.p (.int .i64 n.kind),.p (.int .i64 n.many),.p (.str n.name),.p (.str n.s),.p (.bool n.neg),.p (.int .i64 n.e)])]:=by
 (refine bgo Tryz.func202 ?_;simp only [go_sem,simprocAttr,Jqx]);refine SWP.loop (fun i:Nat=>⟨Ba 19 [(0,.p (.sl (Jrg l))),(1,.fn 127 [1000]),(7,.p (.int .i64 l.length)),(8,.p (.int .i64 i))],[(1000,.var 29 [.p (.int .i64 n.kind),.p (.int .i64 n.many),.p (.str n.name),.p (.str n.s),.p (.bool n.neg),.p (.int .i64 n.e)])]⟩) (fun i=>i≤l.length∧idxF (memF l n) l.length 0=idxF (memF l n) (l.length - i) i) (fun i=>l.length - i) 0 Jqb ⟨Nat.zero_le _,rfl⟩ ?_;rintro i ⟨h2,h4⟩;by_cases hi:¬ i<l.length
 ·have c9:((i:Int)<(l.length:Int))=False:=eq_false omg;rw [show l.length - i=0 by omega,idxF] at h4;(refine lws ?_;simp only [go_sem,simprocAttr,c9]);rw [h4]
 ·have hi:=Decidable.not_not.1 hi;have c9:((i:Int)<(l.length:Int))=True:=eq_true omg;obtain ⟨a,hq⟩:∃ a,l[i]? = some a:=⟨_,List.getElem?_eq_getElem hi⟩
  obtain ⟨k,hk1⟩:∃ k,l.length - i=k+1:=⟨l.length - i - 1,by omega⟩
  have hg:=Jvq hq;have hA:=J77 a n (ha a (List.mem_of_getElem? hq)) hn;rw [hk1,idxF,show memF l n i=Js2 a n by rw [memF,hq]] at h4;cases hb:Js2 a n with
  | false =>
   rw [hb] at hA h4;(refine lws ?_;simp only [go_sem,simprocAttr,c9,hg]);(repeat' (first | ((refine Jqa (hA) ?_);simp only [go_sem,simprocAttr,Bool.not_false]) | fail));rw [h4];rfl
  | true =>
   rw [hb,if_pos rfl] at h4;rw [hb] at hA;(refine lws ?_;simp only [go_sem,simprocAttr,c9,hg,wj1 (i:=i) omg]);(repeat' (first | ((refine Jqa (hA) ?_);simp only [go_sem,simprocAttr,wj1 (i:=i) omg,Bool.not_true]) | fail));exact ⟨i+1,⟨by omega,by rw [h4,show l.length - (i+1)=k by omega]⟩,by omega,Jqb⟩
theorem Jza (l:List (Int×Node)) (n:Node) (hl:l.length≤1000000) (ha:∀ a∈l,Jrn a.1 a.2) (hn:Jrb n):Det cx 126 [.p (.sl (Jrg l)),.fn 127 [1000]] [(1000,.var 29 [.p (.int .i64 n.kind),.p (.int .i64 n.many),.p (.str n.name),.p (.str n.s),.p (.bool n.neg),.p (.int .i64 n.e)])] (.p (.bool (!l.all fun a=>Js2 a n))) [(1000,.var 29 [.p (.int .i64 n.kind),.p (.int .i64 n.many),.p (.str n.name),.p (.str n.s),.p (.bool n.neg),.p (.int .i64 n.e)])]:=by
 have hI:=J5g l n hl ha hn;(refine bgo Tryz.func126 ?_;simp only [go_sem,simprocAttr]);(repeat' (first | ((refine Jqa (hI) ?_);simp only [go_sem,simprocAttr]) | fail));rw [← Jz3 (l:=l) (m:=l) (i:=0) rfl,← Jux]
theorem shr_fin:∀ (m:Fin 32) (k:Fin 5),decide (IntKind.i64.wrap ((BitVec.ofInt (B0 .i64) (((m.val:Int)).fdiv (2 ^ min k.val (B0 .i64))) &&& BitVec.ofInt (B0 .i64) 1).toNat:Int)=0) = !Jv1 m.val k.val:=by decide +kernel
theorem shr_bit {m k:Int} (h0:0≤m) (hm':m≤31) (k0:0≤k) (k5:k<5):(IntKind.i64.wrap ((BitVec.ofInt (B0 .i64) (m.fdiv (2 ^ min k.toNat (B0 .i64))) &&& BitVec.ofInt (B0 .i64) 1).toNat:Int)=0) ↔ Jv1 m k=false:=by
 obtain ⟨a,rfl⟩:∃ a:Nat,m=a:=⟨m.toNat,by omega⟩
 obtain ⟨b,rfl⟩:∃ b:Nat,k=b:=⟨k.toNat,by omega⟩
 have:=shr_fin ⟨a,by omega⟩ ⟨b,by omega⟩;simp only [Int.toNat_natCast] at this ⊢;cases hl:Jv1 (a:Int) (b:Int) <;> rw [hl] at this <;> simpa using this
theorem J9p (mask:Int) (l:List (Int×Node)) (n:Node) (h0:0≤mask) (hmk:mask≤31) (hl:l.length≤1000000) (ha:∀ a∈l,Jrn a.1 a.2) (hn:n.kind<5→Jrb n) (hs:n.s.length≤1000000) (hk0:0≤n.kind):Det cx 50 [.p (.int .i64 mask),.p (.sl (Jrg l)),.p (.agg [.int .i64 n.kind,.int .i64 n.many,.str n.name,.str n.s,.bool n.neg,.int .i64 n.e])] [] (.p (.bool (Jq1 mask l n))) []:=by
 have hP:=J82 n hn hs;by_cases hk:n.kind<5
 ·have hC:=Jza l n hl ha (hn hk);have hb:=shr_bit h0 hmk hk0 hk;rw [decide_eq_true hk] at hP;have hmm:Jq1 mask l n=(Jv1 mask n.kind && l.all fun a=>Js2 a n):=by
   unfold Jq1;rw [decide_eq_true (hn hk),Bool.true_and]
  rw [hmm];(refine bgo Tryz.func50 ?_;simp only [go_sem,simprocAttr]);(repeat' (first | (apply iteI <;> intro h)|(refine Jqe ?_)|((first | (refine Jqa (hP) ?_)|(refine Jqa (hC) ?_));simp only [go_sem,simprocAttr]) | fail))
  ·rw [hb.1 h];rfl
  ·have:Jv1 mask n.kind=true:=by
    cases hl2:Jv1 mask n.kind with
    | true=>rfl
    | false=>exact absurd (hb.2 hl2) h
   rw [this,Bool.true_and,Bool.not_not]
 ·rw [decide_eq_false hk] at hP;have hno:Jq1 mask l n=false:=by
   unfold Jq1;rw [decide_eq_false (fun h=>hk h.1)];rfl
  rw [hno];(refine bgo Tryz.func50 ?_;simp only [go_sem,simprocAttr]);(repeat' (first | ((refine Jqa (hP) ?_);simp only [go_sem,simprocAttr]) | fail))
end Go.LX
