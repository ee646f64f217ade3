/- The order of values: what it is. -/
import Derived.Test.YtpaiiekgdgjjnaaGreatDoorLxT
import Derived.Test.YtpaiiekgdgjjnaaGreatDoorLxR
import Derived.Test.YtpaiiekgdgjjnaaGreatDoorLxQ
import Derived.Test.YtpaiiekgdgjjnaaGreatDoorLxL
import Derived.Test.YtpaiiekgdgjjnaaGreatDoorLxS
set_option linter.unusedSimpArgs false
set_option linter.unusedVariables false
set_option linter.unusedSectionVars false
set_option linter.unnecessarySimpa false
set_option maxRecDepth 100000
set_option maxHeartbeats 2000000
namespace Go.LX
open Go Go.RowKit Go.Proofs
attribute [local irreducible] Al SWP Bi
def lexI {α β:Type} (c:α→β→Int):List α→List β→Int
 | [],[]=>0
 | [],_ :: _=>-1
 | _ :: _,[]=>1
 | x :: l,y :: m=>if c x y=0 then lexI c l m else c x y
theorem J25 {α β:Type} {c:α→β→Int} {l:List α} {m:List β} {i:Nat} {x:α} {y:β} (hx:l[i]? = some x) (hy:m[i]? = some y) :
  lexI c (l.drop i) (m.drop i)=if c x y=0 then lexI c (l.drop (i+1)) (m.drop (i+1)) else c x y:=by
 obtain ⟨h1,rfl⟩:=List.getElem?_eq_some_iff.1 hx;obtain ⟨h2,rfl⟩:=List.getElem?_eq_some_iff.1 hy;rw [List.drop_eq_getElem_cons h1,List.drop_eq_getElem_cons h2,lexI]
theorem Jw5 {α β:Type} {c:α→β→Int} {l:List α} {m:List β} {i:Nat} (h:l.length≤i) (hm:i<m.length):lexI c (l.drop i) (m.drop i) = -1:=by
 rw [List.drop_eq_nil_of_le h,List.drop_eq_getElem_cons hm,lexI]
theorem Jxa {α β:Type} {c:α→β→Int} {l:List α} {m:List β} {i:Nat} (h:l.length≤i) (hm:m.length≤i):lexI c (l.drop i) (m.drop i)=0:=by
 rw [List.drop_eq_nil_of_le h,List.drop_eq_nil_of_le hm,lexI]
theorem Jxj {α β:Type} {c:α→β→Int} {l:List α} {m:List β} {i:Nat} (h:i<l.length) (hm:m.length≤i):lexI c (l.drop i) (m.drop i)=1:=by
 rw [List.drop_eq_getElem_cons h,List.drop_eq_nil_of_le hm,lexI]
theorem Js6 (a:List UInt8):cmpS a a=0:=by simp [cmpS,E0]
theorem J1z {a b:List UInt8} (h:cmpS a b=0):a=b:=by
 unfold cmpS at h;split at h
 ·omega
 ·split at h
  ·omega
  ·rename_i h1 h2;simp at h1 h2;exact h2 h1
theorem J6y {a b:List UInt8} (h:¬ a=b):cmpS a b=if Op.bytesLess a b=true then -1 else 1:=by
 unfold cmpS;split
 ·rfl
 ·rename_i h1;simp at h1;simp [h1,h]
def ndN (s:List UInt8) (g:Bool) (e:Int):Node:=⟨3,0,[],s,g,e⟩
mutual
def cmpT:Tree→Tree→Int
 | .mk k s g e kids,.mk k' s' g' e' kids' =>
  if k=k' then (if k=3 then Juo (ndN s g e) (ndN s' g' e') else if k=4 then cmpS s s' else
   if k=6 then (if lexI cmpS (kids.list.map (·.1)) (kids'.list.map (·.1))=0 then cmpF kids kids'.list else lexI cmpS (kids.list.map (·.1)) (kids'.list.map (·.1))) else
   if k=5 then cmpF kids kids'.list else 0) else cmpI k k'
def cmpF:Forest→List KT→Int
 | .nil,[]=>0
 | .nil,_ :: _=>-1
 | .cons _ _ _,[]=>1
 | .cons _ t r,q :: l=>if cmpT t q.2=0 then cmpF r l else cmpT t q.2
end
theorem Jrq {k:Int} {s:List UInt8} {g:Bool} {e:Int} {kids:Forest} {k':Int} {s':List UInt8} {g':Bool} {e':Int} {kids':Forest}:cmpT (.mk k s g e kids) (.mk k' s' g' e' kids') =
  if k=k' then (if k=3 then Juo (ndN s g e) (ndN s' g' e') else if k=4 then cmpS s s' else
   if k=6 then (if lexI cmpS (kids.list.map (·.1)) (kids'.list.map (·.1))=0 then cmpF kids kids'.list else lexI cmpS (kids.list.map (·.1)) (kids'.list.map (·.1))) else
   if k=5 then cmpF kids kids'.list else 0) else cmpI k k':=by rw [cmpT]
theorem Jtp:∀ (f:Forest) (l:List KT),cmpF f l=lexI (fun p q:KT=>cmpT p.2 q.2) f.list l
 | .nil,[]=>by rw [cmpF];rfl
 | .nil,_ :: _=>by rw [cmpF];rfl
 | .cons _ _ _,[]=>by rw [cmpF];rfl
 | .cons _ t r,q :: l=>by rw [cmpF,Jtp r l];rfl
theorem Jvm {l:List KT} {i:Nat} {p:KT} (h:l[i]? = some p):(Bd l)[i]? = some [.str p.1]:=by simp [Bd,h]
theorem Jwt {l:List KT} {i:Nat} {p:KT} (h:l[i]? = some p):(l.map (·.1))[i]? = some p.1:=by simp [h]
theorem Jzm (l m:List KT) (hl:l.length≤1000000) (hlm:m.length≤1000000):Det cx 186 [.p (.sl (Bd l)),.p (.sl (Bd m))] [] (.p (.int .i64 (lexI cmpS (l.map (·.1)) (m.map (·.1))))) []:=by
 have e1:(l.map (·.1)).length=l.length:=List.length_map ..
 have e2:(m.map (·.1)).length=m.length:=List.length_map ..
 (refine bgo Tryz.func186 ?_;simp only [go_sem,simprocAttr,A9]);refine SWP.loop (fun i:Nat=>⟨Ba 36 [(0,.p (.sl (Bd l))),(1,.p (.sl (Bd m))),(9,.p (.sl (Bd l))),(10,.p (.int .i64 l.length)),(11,.p (.int .i64 i))],[]⟩) (fun i=>i≤l.length∧lexI cmpS (l.map (·.1)) (m.map (·.1))=lexI cmpS ((l.map (·.1)).drop i) ((m.map (·.1)).drop i)) (fun i=>l.length - i) 0 Jqb ⟨Nat.zero_le _,rfl⟩ ?_;rintro i ⟨h1,h3⟩;by_cases hi:i<l.length
 ·have c1:((i:Int)<(l.length:Int))=True:=eq_true omg;obtain ⟨x,hx⟩:∃ x,l[i]? = some x:=⟨_,List.getElem?_eq_getElem hi⟩
  have hgx:=Jvm hx;by_cases hj:i<m.length
  ·have c2:((m.length:Int)≤(i:Int))=False:=eq_false omg;obtain ⟨y,hy⟩:∃ y,m[i]? = some y:=⟨_,List.getElem?_eq_getElem hj⟩
   have hgy:=Jvm hy;have w1:=wj1 (i:=i) omg;have hk:=J25 (c:=cmpS) (Jwt hx) (Jwt hy);(refine lws ?_;simp only [go_sem,simprocAttr,A9,c1,c2,hgx,hgy]);(repeat' (first | (apply iteI <;> intro h)|((refine Jqa (J6j _ _) ?_);simp only [go_sem,simprocAttr,w1]) | fail))
   ·rw [h3,hk,if_neg h]
   ·exact ⟨i+1,⟨by omega,by rw [h3,hk,if_pos (Decidable.not_not.1 h)]⟩,by omega,Jqb⟩
  ·have c2:((m.length:Int)≤(i:Int))=True:=eq_true omg;(refine lws ?_;simp only [go_sem,simprocAttr,A9,c1,c2,hgx]);rw [h3,Jxj omg omg]
 ·have c1:((i:Int)<(l.length:Int))=False:=eq_false omg;(refine lws ?_;simp only [go_sem,simprocAttr,A9,c1]);(repeat' (apply iteI <;> intro h))
  ·rw [h3,Jw5 omg omg]
  ·rw [h3,Jxa omg omg]
theorem Jup (a b:Bool):Det cx 188 [.p (.bool a),.p (.bool b)] [] (.p (.int .i64 (if b=true then 0 else if a=true then -1 else 1))) []:=by
 (refine bgo Tryz.func188 ?_;simp only [go_sem,simprocAttr]);cases a <;> cases b <;> (repeat' (apply iteI <;> intro h))
 all_goals (first | rfl | simp_all)
theorem J4s (l m:List KT) (hl:l.length≤1000000) (hlm:m.length≤1000000):Det cx 191 [.p (.sl (Bd l)),.p (.sl (Bd m))] [] (.p (.int .i64 (lexI cmpS (l.map (·.1)) (m.map (·.1))))) []:=by
 have e1:(l.map (·.1)).length=l.length:=List.length_map ..
 have e2:(m.map (·.1)).length=m.length:=List.length_map ..
 (refine bgo Tryz.func191 ?_;simp only [go_sem,simprocAttr]);refine SWP.loop (fun i:Nat=>⟨Ba 48 [(0,.p (.sl (Bd l))),(1,.p (.sl (Bd m))),(5,.p (.int .i64 i))],[]⟩) (fun i=>i≤l.length∧i≤m.length∧lexI cmpS (l.map (·.1)) (m.map (·.1))=lexI cmpS ((l.map (·.1)).drop i) ((m.map (·.1)).drop i)) (fun i=>l.length - i) 0 Jqb ⟨Nat.zero_le _,Nat.zero_le _,rfl⟩ ?_;rintro i ⟨h1,h2,h3⟩;by_cases hij:i<l.length∧i<m.length
 ·have c1:((i:Int)<(l.length:Int))=True:=eq_true omg;have c2:((i:Int)<(m.length:Int))=True:=eq_true omg;obtain ⟨x,hx⟩:∃ x,l[i]? = some x:=⟨_,List.getElem?_eq_getElem hij.1⟩
  obtain ⟨y,hy⟩:∃ y,m[i]? = some y:=⟨_,List.getElem?_eq_getElem hij.2⟩
  have hgx:=Jvm hx;have hgy:=Jvm hy;have w1:=wj1 (i:=i) omg;have hk:=J25 (c:=cmpS) (Jwt hx) (Jwt hy);(refine lws ?_;simp only [go_sem,simprocAttr,A9,c1,c2]);(repeat' (first | (apply iteI <;> intro h)|((first | (refine Jqk ?_)|(refine Jqd (Jup _ _) ?_));simp only [go_sem,simprocAttr,hgx,hgy,w1]) | fail))
  ·have h:=(show ¬ x.1=y.1 by assumption)
   have hne:cmpS x.1 y.1≠0:=fun e=>h (J1z e)
   rw [h3,hk,if_neg hne,J6y h]
  ·have h:=Decidable.not_not.1 (show ¬ ¬ x.1=y.1 by assumption);exact ⟨i+1,⟨by omega,by omega,by rw [h3,hk,h,Js6,if_pos rfl]⟩,by omega,Jqb⟩
 ·by_cases hi:i<l.length
  ·have c1:((i:Int)<(l.length:Int))=True:=eq_true omg;have c2:((i:Int)<(m.length:Int))=False:=eq_false omg;have c3:((l.length:Int)<(m.length:Int))=False:=eq_false omg;have c4:((l.length:Int)=(m.length:Int))=False:=eq_false omg;(refine lws ?_;simp only [go_sem,simprocAttr,A9,c1,c2,c3,decide_false,decide_true]);(repeat' (first | ((refine Jqa (Jup _ _) ?_);simp only [go_sem,simprocAttr,c4]) | fail));rw [h3,Jxj omg omg]
  ·have c1:((i:Int)<(l.length:Int))=False:=eq_false omg;by_cases hj:i<m.length
   ·have c3:((l.length:Int)<(m.length:Int))=True:=eq_true omg;have c4:((l.length:Int)=(m.length:Int))=False:=eq_false omg;(refine lws ?_;simp only [go_sem,simprocAttr,A9,c1,c3,decide_false,decide_true]);(repeat' (first | ((refine Jqa (Jup _ _) ?_);simp only [go_sem,simprocAttr,c4]) | fail));rw [h3,Jw5 omg omg]
   ·have c3:((l.length:Int)<(m.length:Int))=False:=eq_false omg;have c4:((l.length:Int)=(m.length:Int))=True:=eq_true omg;(refine lws ?_;simp only [go_sem,simprocAttr,A9,c1,c3,decide_false]);(repeat' (first | ((refine Jqa (Jup _ _) ?_);simp only [go_sem,simprocAttr,c4]) | fail));rw [h3,Jxa omg omg]
theorem Jyx {l:List KT} {i:Nat} {p:KT} (h:l[i]? = some p):(A4 l)[i]? = some [.sl (valL (p.2.enc []))]:=by simp [A4,h]
theorem Jr2 (a:Int):cmpI a a=0:=by simp [cmpI]
abbrev cmp2 (p q:KT):Int:=cmpT p.2 q.2
theorem J1g (l m:List KT) (hl:l.length≤1000000) (hlm:m.length≤1000000) (hc:∀ p∈l,∀ q∈m,Det cx 105 [.p (.sl (valL (p.2.enc []))),.p (.sl (valL (q.2.enc [])))] [] (.p (.int .i64 (cmp2 p q))) []) :
  Det cx 187 [.p (.sl (A4 l)),.p (.sl (A4 m)),.fn 105 []] [] (.p (.int .i64 (lexI cmp2 l m))) []:=by
 (refine bgo Tryz.func187 ?_;simp only [go_sem,simprocAttr,A5]);refine SWP.loop (fun i:Nat=>⟨Ba 39 [(0,.p (.sl (A4 l))),(1,.p (.sl (A4 m))),(2,.fn 105 []),(11,.p (.sl (A4 l))),(12,.p (.int .i64 l.length)),(13,.p (.int .i64 i))],[]⟩) (fun i=>i≤l.length∧lexI cmp2 l m=lexI cmp2 (l.drop i) (m.drop i)) (fun i=>l.length - i) 0 Jqb ⟨Nat.zero_le _,rfl⟩ ?_;rintro i ⟨h1,h3⟩;by_cases hi:i<l.length
 ·have c1:((i:Int)<(l.length:Int))=True:=eq_true omg;obtain ⟨x,hx⟩:∃ x,l[i]? = some x:=⟨_,List.getElem?_eq_getElem hi⟩
  have hgx:=Jyx hx;by_cases hj:i<m.length
  ·have c2:((m.length:Int)≤(i:Int))=False:=eq_false omg;obtain ⟨y,hy⟩:∃ y,m[i]? = some y:=⟨_,List.getElem?_eq_getElem hj⟩
   have hgy:=Jyx hy;have w1:=wj1 (i:=i) omg;have hk:=J25 (c:=cmp2) hx hy;have hxy:=hc x (List.mem_of_getElem? hx) y (List.mem_of_getElem? hy);(refine lws ?_;simp only [go_sem,simprocAttr,A5,c1,c2,hgx,hgy]);(repeat' (first | (apply iteI <;> intro h)|((refine Jqa (hxy) ?_);simp only [go_sem,simprocAttr,w1]) | fail))
   ·rw [h3,hk,if_neg h]
   ·exact ⟨i+1,⟨by omega,by rw [h3,hk,if_pos (Decidable.not_not.1 h)]⟩,by omega,Jqb⟩
  ·have c2:((m.length:Int)≤(i:Int))=True:=eq_true omg;(refine lws ?_;simp only [go_sem,simprocAttr,A5,c1,c2,hgx]);rw [h3,Jxj omg omg]
 ·have c1:((i:Int)<(l.length:Int))=False:=eq_false omg;(refine lws ?_;simp only [go_sem,simprocAttr,A5,c1]);(repeat' (apply iteI <;> intro h))
  ·rw [h3,Jw5 omg omg]
  ·rw [h3,Jxa omg omg]
theorem J6m (l m:List KT) (hl:l.length≤1000000) (hlm:m.length≤1000000) (hc:∀ p∈l,∀ q∈m,Det cx 107 [.p (.sl (valL (p.2.enc []))),.p (.sl (valL (q.2.enc [])))] [] (.p (.int .i64 (cmp2 p q))) []) :
  Det cx 190 [.p (.sl (A4 l)),.p (.sl (A4 m))] [] (.p (.int .i64 (lexI cmp2 l m))) []:=by
 (refine bgo Tryz.func190 ?_;simp only [go_sem,simprocAttr]);refine SWP.loop (fun i:Nat=>⟨Ba 42 [(0,.p (.sl (A4 l))),(1,.p (.sl (A4 m))),(5,.p (.int .i64 i))],[]⟩) (fun i=>i≤l.length∧i≤m.length∧lexI cmp2 l m=lexI cmp2 (l.drop i) (m.drop i)) (fun i=>l.length - i) 0 Jqb ⟨Nat.zero_le _,Nat.zero_le _,rfl⟩ ?_;rintro i ⟨h1,h2,h3⟩;by_cases hij:i<l.length∧i<m.length
 ·have c1:((i:Int)<(l.length:Int))=True:=eq_true omg;have c2:((i:Int)<(m.length:Int))=True:=eq_true omg;obtain ⟨x,hx⟩:∃ x,l[i]? = some x:=⟨_,List.getElem?_eq_getElem hij.1⟩
  obtain ⟨y,hy⟩:∃ y,m[i]? = some y:=⟨_,List.getElem?_eq_getElem hij.2⟩
  have hgx:=Jyx hx;have hgy:=Jyx hy;have w1:=wj1 (i:=i) omg;have hk:=J25 (c:=cmp2) hx hy;have hxy:=hc x (List.mem_of_getElem? hx) y (List.mem_of_getElem? hy);(refine lws ?_;simp only [go_sem,simprocAttr,A5,c1,c2]);(repeat' (first | (apply iteI <;> intro h)|((first | (refine Jqk ?_)|(refine Jqd (hxy) ?_));simp only [go_sem,simprocAttr,hgx,hgy,w1]) | fail))
  ·rw [h3,hk,if_neg h]
  ·exact ⟨i+1,⟨by omega,by omega,by rw [h3,hk,if_pos (Decidable.not_not.1 h)]⟩,by omega,Jqb⟩
 ·by_cases hi:i<l.length
  ·have c1:((i:Int)<(l.length:Int))=True:=eq_true omg;have c2:((i:Int)<(m.length:Int))=False:=eq_false omg;have c3:((l.length:Int)<(m.length:Int))=False:=eq_false omg;have c4:((l.length:Int)=(m.length:Int))=False:=eq_false omg;(refine lws ?_;simp only [go_sem,simprocAttr,A5,c1,c2,c3,decide_false,decide_true]);(repeat' (first | ((refine Jqa (Jup _ _) ?_);simp only [go_sem,simprocAttr,c4]) | fail));rw [h3,Jxj omg omg]
  ·have c1:((i:Int)<(l.length:Int))=False:=eq_false omg;by_cases hj:i<m.length
   ·have c3:((l.length:Int)<(m.length:Int))=True:=eq_true omg;have c4:((l.length:Int)=(m.length:Int))=False:=eq_false omg;(refine lws ?_;simp only [go_sem,simprocAttr,A5,c1,c3,decide_false,decide_true]);(repeat' (first | ((refine Jqa (Jup _ _) ?_);simp only [go_sem,simprocAttr,c4]) | fail));rw [h3,Jw5 omg omg]
   ·have c3:((l.length:Int)<(m.length:Int))=False:=eq_false omg;have c4:((l.length:Int)=(m.length:Int))=True:=eq_true omg;(refine lws ?_;simp only [go_sem,simprocAttr,A5,c1,c3,decide_false]);(repeat' (first | ((refine Jqa (Jup _ _) ?_);simp only [go_sem,simprocAttr,c4]) | fail));rw [h3,Jxa omg omg]
theorem Jw6 {k m:Int} {nm s:List UInt8} {g:Bool} {e:Int} (h:Yz s g e):Node.small ⟨k,m,nm,s,g,e⟩:=by
 obtain ⟨_,h1,h2,h3,_⟩:=h;exact ⟨by show s.length≤_;omega,by show _≤e;omega,by show e≤_;omega⟩
theorem Jsi {s:List UInt8} {g:Bool} {e:Int} (h:Yz s g e):RightN (ndN s g e):=by
 obtain ⟨h0,h1,h2,h3,h4,h5⟩:=h;refine ⟨rfl,rfl,rfl,h0,h1,h2,h3,h4,fun hz=>?_,fun hp=>?_,fun hp=>?_⟩
 ·have:s=[]:=List.eq_nil_of_length_eq_zero hz;rw [if_pos this] at h5;exact h5
 ·have:s≠[]:=by intro e;subst e;exact (Nat.lt_irrefl 0 hp).elim
  rw [if_neg this] at h5;exact h5.1
 ·have:s≠[]:=by intro e;subst e;exact (Nat.lt_irrefl 0 hp).elim
  rw [if_neg this] at h5;exact h5.2
theorem J6t {s s':List UInt8} {g g':Bool} {e e':Int} (h:Yz s g e) (h':Yz s' g' e'):Jtf (ndN s g e) (ndN s' g' e')=Juo (ndN s g e) (ndN s' g' e'):=by
 rw [J8u (Jsi h) (Jsi h'),J1x (Jsi h) (Jsi h')]
theorem Jtc {k m:Int} {s:List UInt8} {g:Bool} {e:Int} (h:G3 k s g e m) (hk:k=3):Yz s g e:=by
 subst hk;unfold G3 at h;simp at h;exact h.2
end Go.LX
namespace Go.LX
open Go Go.RowKit Go.Proofs
section
variable {X:Cx} {ro:Option Nat} {md:Region.Mode} {ops:Array Oper}
theorem J3s {k:Nat} {K:St→Prop} {i:Nat} {oi:Oper} {v:L} (hi:ops[i]? = some oi) (hik:i<k) (hA:∀ j,k≤j→j<ops.size→ancB md ops ops.size i j=true):∀ (fuel:Nat) (listed:Array Bool) (s:St),Down md ops listed →
   (∀ j oj,ops[j]? = some oj→j≠i→listed.getD j true=false→(∀ e∈oj.after,Region.binds md e=true→e.on≠i)→oi.apart ops oj=true) →
   i∈Region.ready md ops listed→YS X (ops.toList.map (·.dst)) s oi (fun m=>m=v) →
   Ty X md ops k K fuel (listed.setIfInBounds i true) (s.put oi.dst v)→Ty X md ops k K (fuel+1) listed s:=by
 intro fuel
 induction fuel with
 | zero =>
  intro listed s hd _ hr hy H;have only:∀ j∈Region.ready md ops listed,j=i:=by
   intro j hj;by_cases hji:j=i
   ·exact hji
   ·have:=ready_mono hj hji;rw [H.1] at this;cases this
  refine ⟨fun h=>(by rw [h] at hr;cases hr),fun j hj oj hoj=>?_⟩;have:=only j hj;subst this;rw [hi] at hoj;cases hoj;exact ⟨fun _=>Kr (fun l hl=>by rw [hl];exact H) hy,fun h=>by omega⟩
 | succ fuel ih =>
  intro listed s hd hfree hr hy H;refine ⟨fun h=>(by rw [h] at hr;cases hr),fun j hj oj hoj=>?_⟩;by_cases hji:j=i
  ·subst hji;rw [hi] at hoj;cases hoj;exact ⟨fun _=>Kr (fun l hl=>by rw [hl];exact H) hy,fun h=>by omega⟩
  ·have hjk:j<k:=by
    rcases Nat.lt_or_ge j k with h | h
    ·exact h
    ·exfalso;obtain ⟨_,oj',hoj',hall⟩:=mem_ready.1 hj;have h1:=Qb hd _ i j oj' hoj' hall (hA j h (Array.getElem?_eq_some_iff.1 hoj').1);have h2:=(Hn.1 (mem_ready.1 hr).1).2;rw [h1] at h2;cases h2
   refine ⟨fun _=>?_,fun h=>by omega⟩;have h1:=(H.2 j (ready_mono hj hji) oj hoj).1 hjk;obtain ⟨hjun,oj',hoj',hall⟩:=mem_ready.1 hj;rw [hoj] at hoj';cases hoj';have hnot:∀ e∈oj.after,Region.binds md e=true→e.on≠i:=fun e he hb heq=>by
    have h1:=hall e he hb;have h0:=(Hn.1 (mem_ready.1 hr).1).2;rw [heq] at h1;rw [h1] at h0;cases h0
   obtain ⟨a1,a2,a3⟩:=Oper.apart_spec (hfree j oj hoj hji hjun hnot);have hfree':∀ q ok,ops[q]? = some ok→q≠i→(listed.setIfInBounds j true).getD q true=false →
     (∀ e∈ok.after,Region.binds md e=true→e.on≠i)→oi.apart ops ok=true:=fun q ok hk hki hun hno=>by
    refine hfree q ok hk hki ?_ hno;by_cases hjk:j=q
    ·subst hjk;exact hjun
    ·rw [getD_set_ne true hjk] at hun;exact hun
   refine Kr (fun l hl=>?_) (Yr a1 h1);refine ih (listed.setIfInBounds j true) (s.put oj.dst l) (hd.set hj) hfree' (ready_mono hr (Ne.symm hji)) (Uk a3 hy) ?_;rw [Array.setIfInBounds_comm _ _ hji];rw [← Jtn s v l a2];exact hl
def YSAt (X:Cx) (ds:List (Option Tmp)) (ops:List Oper) (i:Nat) (C:St→Prop) (s:St):Prop:=match ops[i]? with
 | some o=>YS X ds s o fun l=>C (s.put o.dst l)
 | none=>False
def Jv7 (X:Cx) (ds:List (Option Tmp)) (ops:List Oper) (E:St→Prop):List Nat→St→Prop
 | [],s=>E s
 | i :: I,s=>YSAt X ds ops i (Jv7 X ds ops E I) s
def J68 (md:Region.Mode) (ops:Array Oper) (k:Nat):List Nat→Array Bool→Bool
 | [],_=>true
 | i :: I,listed=>(Region.ready md ops listed).contains i && (Region.free md ops listed i && (decide (i<k) && ((List.range ops.size).all (fun j=>decide (j<k) || ancB md ops ops.size i j) && J68 md ops k I (listed.setIfInBounds i true))))
def Jzg:List Nat→Array Bool→Array Bool
 | [],listed=>listed
 | i :: I,listed=>Jzg I (listed.setIfInBounds i true)
theorem Jyb {k:Nat} {K:St→Prop} {fuel:Nat}:∀ (I:List Nat) (listed:Array Bool) (s:St),J68 md ops k I listed=true→Down md ops listed →
  Jv7 X (ops.toList.map (·.dst)) ops.toList (Ty X md ops k K fuel (Jzg I listed)) I s→Ty X md ops k K (fuel+I.length) listed s
 | [],listed,s,_,_,h=>h
 | i :: I,listed,s,hB,hd,h=>by
  simp only [J68,Bool.and_eq_true,List.contains_eq_mem,decide_eq_true_eq] at hB;obtain ⟨h1,h2,h3,h4,h5⟩:=hB;obtain ⟨_,oi,hoi,_⟩:=mem_ready.1 h1;simp only [Jv7,YSAt] at h;rw [Array.getElem?_toList,hoi] at h;obtain ⟨v,hy,hK⟩:=Jab (X:=X) h;refine J3s hoi h3 (fun j hj hs=>?_) (fuel+I.length) listed s hd (Region.free_spec hoi h2) h1 hy (Jyb I _ _ h5 (hd.set h1) hK);have:=List.all_eq_true.1 h4 j (List.mem_range.2 hs);rw [Bool.or_eq_true,decide_eq_true_eq] at this;rcases this with h | h
  ·omega
  ·exact h
theorem J0q {ds:List (Option Tmp)} {os:List Oper} {E E':St→Prop} (hE:∀ s,E s→E' s):∀ (I:List Nat) (s:St),Jv7 X ds os E I s→Jv7 X ds os E' I s
 | [],s,h=>hE s h
 | i :: I,s,h=>by
  simp only [Jv7,YSAt] at h ⊢;split
  ·rename_i o ho;rw [ho] at h;exact Kr (fun l hl=>J0q hE I _ hl) h
  ·rename_i ho;rw [ho] at h;exact h
def Jti (X:Cx) (ds:List (Option Tmp)) (ops:List Oper) (k:Nat) (K:St→Prop):Ord→St→Prop
 | .leaf,s=>K s
 | .nil,_=>True
 | .bad,_=>False
 | .node i sub next,s=>(if i<k then YSAt X ds ops i (Jti X ds ops k K sub) s else lAt X ds ops i (Jti X ds ops k K sub) s)∧Jti X ds ops k K next s
theorem Jzy {k:Nat} {K:St→Prop} {f:Nat} {listed:Array Bool} {s:St}:∀ (is:List Nat),Jti X (ops.toList.map (·.dst)) ops.toList k K (is.foldr (fun i acc=>.node i (P6 ops f (listed.setIfInBounds i true)) acc) .nil) s →
  ∀ i∈is,(if i<k then YSAt X (ops.toList.map (·.dst)) ops.toList i (Jti X (ops.toList.map (·.dst)) ops.toList k K (P6 ops f (listed.setIfInBounds i true))) s else lAt X (ops.toList.map (·.dst)) ops.toList i (Jti X (ops.toList.map (·.dst)) ops.toList k K (P6 ops f (listed.setIfInBounds i true))) s)
 | [],_,i,hi=>by cases hi
 | j :: is,h,i,hi=>by
  simp only [List.foldr_cons,Jti] at h;rcases List.mem_cons.1 hi with rfl | hi
  ·exact h.1
  ·exact Jzy is h.2 i hi
theorem Jtl {k:Nat} {K:St→Prop}:∀ (f:Nat) (listed:Array Bool) (s:St),Jti X (ops.toList.map (·.dst)) ops.toList k K (P6 ops f listed) s→Ty X .any ops k K f listed s
 | 0,listed,s,h=>by
  unfold P6 at h;split at h
  ·rename_i h0;exact ⟨h0,h⟩
  ·exact h.elim
 | f+1,listed,s,h=>by
  unfold P6 at h;split at h
  ·rename_i h0;exact ⟨fun _=>h,fun i hi=>by rw [h0] at hi;cases hi⟩
  ·rename_i h0;refine ⟨fun h1=>absurd h1 h0,fun i hi o ho=>?_⟩;have:=Jzy _ h i hi;refine ⟨fun hk=>?_,fun hk=>?_⟩
   ·rw [if_pos hk] at this;unfold YSAt at this;rw [Array.getElem?_toList,ho] at this;exact Kr (fun l hl=>Jtl f _ _ hl) this
   ·rw [if_neg omg] at this;exact ⟨_,this,fun s' hs=>Jtl f _ _ hs⟩
theorem J4m {id:Nat} {Q:Ex→St→Prop} {s:St} (k:Nat) (I:List Nat) (T:Ord) (f:Nat) (hm:X.P.follows .mixedOrders=true) (hf:f+I.length=ops.size) (hB:J68 .any ops k I (Array.replicate ops.size false)=true) (hT:P6 ops f (Jzg I (Array.replicate ops.size false))=T)
  (h:Jv7 X (ops.toList.map (·.dst)) ops.toList (Jti X (ops.toList.map (·.dst)) ops.toList k (Q .normal) T) I s):SWP X ro (.region id ops true) Q s:=fun Γ a w hG hr=>by
 have h':RR Γ s a { w with drawn:=w.drawn+1 }:=by
  obtain ⟨ms,hdef,β,Im,hx⟩:=hr;exact ⟨ms,hdef,β,Im,hx.grow (Grow.drew hx.fit.im)⟩
 refine wpIn_region_any hm (G0 (k:=k) (K:=Q .normal) hG (fun s _ _ h1 h2=>⟨s,h1,h2⟩) _ _ s a _ h' ?_);have hd:Down .any ops (Array.replicate ops.size false):=by
  intro i o ho hl;exfalso;have hi:=(Array.getElem?_eq_some_iff.1 ho).1;simp [Array.getD_eq_getD_getElem?,hi] at hl
 have:=Jyb (X:=X) (K:=Q .normal) (fuel:=f) I (Array.replicate ops.size false) s hB hd ?_
 ·rw [hf] at this;exact this
 ·subst hT;exact J0q (fun s hs=>Jtl f _ s hs) I s h
end
section
variable {X:Cx} {ds:List (Option Tmp)} {t:List L} {r:Regs} {E:St→Prop}
theorem y_take0 {ops:List Oper}:Jv7 X ds ops E [] ⟨t,r⟩=E ⟨t,r⟩:=(rfl)
theorem y_take {ops:List Oper} {i:Nat} {I:List Nat}:Jv7 X ds ops E (i :: I) ⟨t,r⟩=YSAt X ds ops i (Jv7 X ds ops E I) ⟨t,r⟩:=(rfl)
theorem y_at0 {o:Oper} {ops:List Oper}:YSAt X ds (o :: ops) 0 E ⟨t,r⟩=YS X ds ⟨t,r⟩ o (kput o.dst E ⟨t,r⟩):=(rfl)
theorem y_atS {o:Oper} {ops:List Oper} {i:Nat}:YSAt X ds (o :: ops) (i+1) E ⟨t,r⟩=YSAt X ds ops i E ⟨t,r⟩:=(rfl)
theorem y_leaf {ops:List Oper} {k:Nat}:Jti X ds ops k E .leaf ⟨t,r⟩=E ⟨t,r⟩:=(rfl)
theorem y_nil {ops:List Oper} {k:Nat}:Jti X ds ops k E .nil ⟨t,r⟩=True:=(rfl)
theorem y_node {ops:List Oper} {k i:Nat} {sub next:Ord}:Jti X ds ops k E (.node i sub next) ⟨t,r⟩=((if i<k then YSAt X ds ops i (Jti X ds ops k E sub) ⟨t,r⟩ else lAt X ds ops i (Jti X ds ops k E sub) ⟨t,r⟩)∧Jti X ds ops k E next ⟨t,r⟩):=(rfl)
attribute [go_sem] y_take0 y_take y_at0 y_atS y_leaf y_nil y_node
end
def farL:L→Bool
 | .p _=>true
 | .eptr _=>true
 | _=>false
theorem J0t {d:Nat} {l:L} (h:farL l=true):L.forget d l=l:=by
 cases l <;> simp [farL] at h <;> rfl
theorem lqv_far {P:Program} {regs regs':List (Nat×Reg)} {ρ:Operand→L} {op:Op} {l:L} (hf:∀ x∈op.operands.toList,farL (ρ x)=true) (h:lqv P regs ρ op l):lqv P regs' ρ op l:=by
 cases op with
 | lookup t x ix ok =>
  have hx:=hf x (by simp [Op.operands]);have e:Tz regs (ρ x)=Tz regs' (ρ x):=by
   unfold Tz;cases hρ:ρ x <;> rw [hρ] at hx <;> simp [farL] at hx <;> (try rfl)
   rename_i a;cases a <;> rfl
  simp only [lqv,Yc] at h ⊢;rw [← e];exact h
 | call c =>
  obtain ⟨callee,args,ts⟩:=c;cases callee with
  | builtin b =>
   cases b with
   | cap =>
    simp only [lqv] at h ⊢;split at h
    ·rename_i x t hargs hts;have hx:=hf x (by simp [Op.operands,Call.operands,hargs]);revert h;cases hρ:ρ x <;> rw [hρ] at hx <;> simp [farL] at hx
     ·rename_i a;cases a <;> exact id
     ·exact id
    ·exact h
   | _=>exact h
  | _=>exact h
 | _=>exact h
theorem J9m {P:Program} {regs regs':List (Nat×Reg)} {ρ:Operand→L} {op:Op} {K:L→Prop} (hf:∀ x∈op.operands.toList,farL (ρ x)=true) (h:lq P regs ρ op K):lq P regs' ρ op K:=by
 have ptr:∀ {x:L} {d i j:Nat},farL x=true→x=.ptr d i j→False:=by intro x d i j h e;subst e;cases h
 unfold lq at h ⊢;split at h
 case h_8 =>
  rename_i a;have hx:=hf a (by simp [Op.operands]);revert h;unfold Jc;generalize B2 P _=b;rcases b with _ | _ | _ <;> cases hρ:ρ a <;> rw [hρ] at hx <;> simp [farL] at hx <;> exact id
 case h_11 =>
  rename_i x y;have hx:=hf x (by simp [Op.operands]);revert h;unfold Dg;generalize ρ y=iy;cases hρ:ρ x <;> rw [hρ] at hx <;> simp [farL] at hx
  ·rename_i a;cases iy with
   | p b=>cases a <;> cases b <;> exact id
   | _=>cases a <;> exact id
  ·cases iy with
   | p b=>cases b <;> exact id
   | _=>exact id
 case h_13 t x lo hi mx =>
  have hx:=hf x (by simp [Op.operands]);revert h;unfold G2;generalize P.underlying t=u;cases hρ:ρ x <;> rw [hρ] at hx <;> simp [farL] at hx
  ·rename_i a;cases u with
   | none=>exact id
   | some u=>cases u <;> cases a <;> exact id
  ·cases u with
   | none=>exact id
   | some u=>cases u <;> exact id
 all_goals first
  | exact h
  | skip
 obtain ⟨l,h1,h2⟩:=h;exact ⟨l,lqv_far hf h1,h2⟩
section
variable {X:Cx} {ro:Option Nat} {ops:Array Oper}
def Jxg (o:Oper):Bool:=o.guard.isNone && match o.op with
 | .move _=>true
 | .indexAddr ..=>true
 | .fieldAddr ..=>true
 | .load ..=>true
 | .binOp ..=>true
 | _=>false
def Jvv (o:Oper):Bool:=o.guard.isNone && match o.op,o.dst with
 | .alloc _,some _=>true
 | _,_=>false
def Jvn (o:Oper):Bool:=o.guard.isNone && match o.op,o.dst with
 | .store ..,none=>true
 | _,_=>false
def Jte (s:St) (o:Oper):Prop:=∀ x∈o.op.operands.toList,farL (s.get x)=true
theorem J32 {ds:List (Option Tmp)} {s:St} {o:Oper} {K:L→Prop} (h:Jxg o=true):YS X ds s o K=lq X.P s.regs s.get o.op K:=by
 obtain ⟨dst,op,ty,ps,af,g⟩:=o;cases g with
 | some g=>simp [Jxg] at h
 | none =>
  unfold YS lqc;cases op <;> first | rfl | (simp [Jxg] at h)
theorem put_far {s:St} {dst:Option Tmp} {v:L} {d:Nat} {r:Reg} {l:L} (hv:farL v=true) (hne:∀ x,dst=some x→x≠d):(((s.newReg d r).put (some d) l).put dst v)=(((s.put dst v).newReg d r).put (some d) l):=by
 cases dst with
 | none=>rfl
 | some x =>
  have:=hne x rfl;simp only [St.put,St.newReg,List.map_set,J0t hv];rw [List.set_comm _ _ this]
theorem J8r {s:St} {d:Nat} {r:Reg} {l:L} {x:Operand} (hx:x≠.tmp d) (hf:farL (s.get x)=true):((s.newReg d r).put (some d) l).get x=s.get x:=by
 rw [Jmw (fun e he=>by cases he;exact hx)];cases x with
 | tmp i =>
  simp only [St.get,St.newReg,List.getD_eq_getElem?_getD,List.getElem?_map] at hf ⊢;cases hi:s.tmps[i]? with
  | none=>rfl
  | some m =>
   rw [hi] at hf;simp only [Option.map_some,Option.getD_some] at hf ⊢;exact J0t hf
 | _=>rfl
theorem J0f {d:Nat} {z:Fz} {l:L} (h:farL l=true):L.freeze d z l=l:=by
 cases l <;> simp [farL] at h <;> rfl
theorem J57 {s:St} {d:Nat} {dst:Option Tmp} {v:L} (hv:farL v=true):(s.put dst v).freeze d=(s.freeze d).put dst v:=by
 cases dst with
 | none=>rfl
 | some x =>
  simp only [St.put,St.freeze,Dx];cases fzOf (Am d s.regs) with
  | none=>rfl
  | some z=>simp only [List.map_set,J0f hv]
theorem J6i {s:St} {d:Nat} {y:Operand} (hf:farL (s.get y)=true):(s.freeze d).get y=s.get y:=by
 unfold St.freeze Dx;cases fzOf (Am d s.regs) with
 | none=>rfl
 | some z =>
 cases y with
 | tmp i =>
  simp only [St.get,List.getD_eq_getElem?_getD,List.getElem?_map] at hf ⊢;cases hi:s.tmps[i]? with
  | none=>rfl
  | some m =>
   rw [hi] at hf;simp only [Option.map_some,Option.getD_some] at hf ⊢;exact J0f hf
 | _=>rfl
theorem J1d {s:St} {x:Operand} {dst:Option Tmp} {v:L} (hv:farL v=true) (hx:∀ d,dst=some d→x≠.tmp d):(s.put dst v).freezeOps [x]=(s.freezeOps [x]).put dst v:=by
 simp only [St.freezeOps,Jmw hx];cases s.get x <;> first | rfl | (simp only;split <;> first | exact J57 hv | rfl)
theorem J1b {s:St} {x y:Operand} (hf:farL (s.get y)=true):(s.freezeOps [x]).get y=s.get y:=by
 simp only [St.freezeOps];cases s.get x <;> first | rfl | (simp only;split <;> first | exact J6i hf | rfl)
theorem J4x {s:St} {dst:Option Tmp} {v:L}:(s.put dst v).regs=s.regs:=by cases dst <;> rfl
theorem J0s {s:St} {dst:Option Tmp} {v:L} {R:Regs}:({ (s.put dst v) with regs:=R }:St)=({ s with regs:=R }:St).put dst v:=by cases dst <;> rfl
theorem J5q {P:Program} {t:TypeId} {s:St} {a x:Operand} {dst:Option Tmp} {v:L} {K:St→Prop} (hv:farL v=true) (ha:∀ d,dst=some d→a≠.tmp d) (hx:∀ d,dst=some d→x≠.tmp d) (h:Nv P t (s.put dst v) a x K) :
  Nv P t s a x fun s'=>K (s'.put dst v)∧∀ y,farL (s.get y)=true→s'.get y=s.get y:=by
 unfold Nv at h ⊢;rw [Jmw ha,Jmw hx,J4x] at h;split at h
 ·rename_i d i j hd;simp only;split at h
  ·obtain ⟨xs,h1,h2,h3,h4,h5,h6⟩:=h;refine ⟨xs,h1,h2,h3,h4,h5,?_,fun y _=>?_⟩
   ·rw [J0s] at h6;exact h6
   ·cases y <;> rfl
  ·rw [J1d hv hx] at h;obtain ⟨xs,h1,ps,h2,e,h3,h4,h5,h6,h7,h8,h9⟩:=h;rw [Jmw hx] at h1;rw [J4x] at h7 h9;rw [Jmw ha] at h8;refine ⟨xs,h1,ps,h2,e,h3,h4,h5,h6,h7,h8,?_,fun y hy=>?_⟩
   ·rw [J0s] at h9;exact h9
   ·have:=J1b (x:=x) hy;cases y <;> exact this
  ·obtain ⟨xs,h1,e,h2,h3,h4,h5,h6⟩:=h;refine ⟨xs,h1,e,h2,h3,h4,h5,?_,fun y _=>?_⟩
   ·rw [J0s] at h6;exact h6
   ·cases y <;> rfl
  ·exact h.elim
  ·exact h.elim
 ·exact h.elim
theorem J46 {k:Nat} {K:St→Prop} {i:Nat} {oi:Oper} {v:L} (hi:ops[i]? = some oi) (hik:i<k) (hp:Jxg oi=true) (hv:farL v=true) (hA:∀ j oj,k≤j→ops[j]? = some oj→ancB .any ops ops.size i j=true∨Jvv oj=true∨Jvn oj=true):∀ (fuel:Nat) (listed:Array Bool) (s:St),Down .any ops listed→Jte s oi →
   (∀ j oj,ops[j]? = some oj→j≠i→listed.getD j true=false→(∀ e∈oj.after,Region.binds .any e=true→e.on≠i)→oi.apart ops oj=true) →
   i∈Region.ready .any ops listed→YS X (ops.toList.map (·.dst)) s oi (fun m=>m=v) →
   Ty X .any ops k K fuel (listed.setIfInBounds i true) (s.put oi.dst v)→Ty X .any ops k K (fuel+1) listed s:=by
 intro fuel
 induction fuel with
 | zero =>
  intro listed s hd _ _ hr hy H;have only:∀ j∈Region.ready .any ops listed,j=i:=by
   intro j hj;by_cases hji:j=i
   ·exact hji
   ·have:=ready_mono hj hji;rw [H.1] at this;cases this
  refine ⟨fun h=>(by rw [h] at hr;cases hr),fun j hj oj hoj=>?_⟩;have:=only j hj;subst this;rw [hi] at hoj;cases hoj;exact ⟨fun _=>Kr (fun l hl=>by rw [hl];exact H) hy,fun h=>by omega⟩
 | succ fuel ih =>
  intro listed s hd hfar hfree hr hy H;refine ⟨fun h=>(by rw [h] at hr;cases hr),fun j hj oj hoj=>?_⟩;by_cases hji:j=i
  ·subst hji;rw [hi] at hoj;cases hoj;exact ⟨fun _=>Kr (fun l hl=>by rw [hl];exact H) hy,fun h=>by omega⟩
  ·obtain ⟨hjun,oj',hoj',hall⟩:=mem_ready.1 hj;rw [hoj] at hoj';cases hoj';have hnot:∀ e∈oj.after,Region.binds .any e=true→e.on≠i:=fun e he hb heq=>by
    have h1:=hall e he hb;have h0:=(Hn.1 (mem_ready.1 hr).1).2;rw [heq] at h1;rw [h1] at h0;cases h0
   obtain ⟨a1,a2,a3⟩:=Oper.apart_spec (hfree j oj hoj hji hjun hnot);have hfree':∀ q ok,ops[q]? = some ok→q≠i→(listed.setIfInBounds j true).getD q true=false →
     (∀ e∈ok.after,Region.binds .any e=true→e.on≠i)→oi.apart ops ok=true:=fun q ok hk hki hun hno=>by
    refine hfree q ok hk hki ?_ hno;by_cases hjk:j=q
    ·subst hjk;exact hjun
    ·rw [getD_set_ne true hjk] at hun;exact hun
   have hop:∀ d,oj.dst=some d→∀ x∈oi.op.operands.toList,x≠.tmp d:=fun d hd x hx hxd=>a3 d hd (by
    subst hxd;exact List.mem_append_left _ (List.mem_filterMap.2 ⟨.tmp d,by simpa using hx,rfl⟩))
   refine ⟨fun hjk=>?_,fun hkj=>?_⟩
   ·have h1:=(H.2 j (ready_mono hj hji) oj hoj).1 hjk;refine Kr (fun l hl=>?_) (Yr a1 h1);refine ih (listed.setIfInBounds j true) (s.put oj.dst l) (hd.set hj) (fun x hx=>?_) hfree' (ready_mono hr (Ne.symm hji)) (Uk a3 hy) ?_
    ·rw [Jmw (fun d hd=>hop d hd x hx)];exact hfar x hx
    ·rw [Array.setIfInBounds_comm _ _ hji];rw [← Jtn s v l a2];exact hl
   ·have hal:Jvv oj=true∨Jvn oj=true:=by
     rcases hA j oj hkj hoj with h | h
     ·exfalso;have h1:=Qb hd _ i j oj hoj hall h;have h2:=(Hn.1 (mem_ready.1 hr).1).2;rw [h1] at h2;cases h2
     ·exact h
    obtain ⟨C,h1,h2⟩:=(H.2 j (ready_mono hj hji) oj hoj).2 hkj;have hlook:∀ d,oi.dst=some d→∀ x∈oj.op.operands.toList,x≠.tmp d:=fun d hd x hx hxd=>a1 d hd (by
     subst hxd;exact List.mem_append_left _ (List.mem_filterMap.2 ⟨.tmp d,by simpa using hx,rfl⟩))
    obtain ⟨dst,op,ty,ps,af,g⟩:=oj;cases g with
    | some g=>simp [Jvv,Jvn] at hal
    | none =>
    rcases hal with hal | hal
    ·cases dst with
     | none=>cases op <;> simp [Jvv] at hal
     | some d =>
     cases op <;> simp [Jvv] at hal;rename_i T;unfold lAt at h1;rw [Array.getElem?_toList,hoj] at h1;simp only [F4,lop] at h1;obtain ⟨hd1,zs,hzs,hC⟩:=h1;have hne:∀ x,oi.dst=some x→x≠d:=fun x hx e=>a2 x hx (by rw [e])
     have hop':=hop d rfl;refine ⟨fun s'=>s'=(s.newReg d (.var T (zs.map .p))).put (some d) (.ptr d 0 0),?_,?_⟩
     ·unfold lAt;rw [Array.getElem?_toList,hoj];exact ⟨hd1,zs,hzs,rfl⟩
     ·rintro s' rfl;have hg:∀ x∈oi.op.operands.toList,((s.newReg d (.var T (zs.map .p))).put (some d) (.ptr d 0 0)).get x=s.get x:=fun x hx=>J8r (hop' x hx) (hfar x hx)
      refine ih (listed.setIfInBounds j true) _ (hd.set hj) (fun x hx=>by rw [hg x hx];exact hfar x hx) hfree' (ready_mono hr (Ne.symm hji)) ?_ ?_
      ·rw [J32 hp] at hy ⊢;exact J9m (fun x hx=>by rw [hg x hx];exact hfar x hx) (Jj8 hg hy)
      ·rw [Array.setIfInBounds_comm _ _ hji,put_far hv hne];exact h2 _ hC
    ·cases dst with
     | some d=>cases op <;> simp [Jvn] at hal
     | none =>
     cases op <;> simp [Jvn] at hal;rename_i T a x;unfold lAt at h1;rw [Array.getElem?_toList,hoj] at h1;simp only [F4,lop] at h1;have h3:=J5q hv (fun d hd=>hlook d hd a (by simp [Op.operands])) (fun d hd=>hlook d hd x (by simp [Op.operands])) h1;refine ⟨fun s'=>C (s'.put oi.dst v)∧∀ y,farL (s.get y)=true→s'.get y=s.get y,?_,?_⟩
     ·unfold lAt;rw [Array.getElem?_toList,hoj];exact h3
     ·rintro s' ⟨hC,hgy⟩;have hg:∀ x∈oi.op.operands.toList,s'.get x=s.get x:=fun x hx=>hgy x (hfar x hx)
      refine ih (listed.setIfInBounds j true) _ (hd.set hj) (fun x hx=>by rw [hg x hx];exact hfar x hx) hfree' (ready_mono hr (Ne.symm hji)) ?_ ?_
      ·rw [J32 hp] at hy ⊢;exact J9m (fun x hx=>by rw [hg x hx];exact hfar x hx) (Jj8 hg hy)
      ·rw [Array.setIfInBounds_comm _ _ hji];exact h2 _ hC
def Jt8 (X:Cx) (ds:List (Option Tmp)) (ops:List Oper) (E:St→Prop):List Nat→St→Prop
 | [],s=>E s
 | i :: I,s=>match ops[i]? with
  | some o=>Jte s o∧YS X ds s o fun l=>farL l=true∧Jt8 X ds ops E I (s.put o.dst l)
  | none=>False
def J3a (ops:Array Oper) (k:Nat):List Nat→Array Bool→Bool
 | [],_=>true
 | i :: I,listed=>(Region.ready .any ops listed).contains i && (Region.free .any ops listed i && (decide (i<k) && ((match ops[i]? with | some o=>Jxg o | none=>false) && ((List.range ops.size).all (fun j=>decide (j<k) || (ancB .any ops ops.size i j || match ops[j]? with | some o=>Jvv o || Jvn o | none=>false)) && J3a ops k I (listed.setIfInBounds i true)))))
theorem Jw7 {k:Nat} {K:St→Prop} {fuel:Nat}:∀ (I:List Nat) (listed:Array Bool) (s:St),J3a ops k I listed=true→Down .any ops listed →
  Jt8 X (ops.toList.map (·.dst)) ops.toList (Ty X .any ops k K fuel (Jzg I listed)) I s→Ty X .any ops k K (fuel+I.length) listed s
 | [],listed,s,_,_,h=>h
 | i :: I,listed,s,hB,hd,h=>by
  simp only [J3a,Bool.and_eq_true,List.contains_eq_mem,decide_eq_true_eq] at hB;obtain ⟨h1,h2,h3,hp,h4,h5⟩:=hB;obtain ⟨_,oi,hoi,_⟩:=mem_ready.1 h1;rw [hoi] at hp;simp only [Jt8] at h;rw [Array.getElem?_toList,hoi] at h;obtain ⟨hf,h⟩:=h;obtain ⟨v,hy,hv,hK⟩:=Jab (X:=X) h;refine J46 hoi h3 hp hv (fun j oj hj hoj=>?_) (fuel+I.length) listed s hd hf (Region.free_spec hoi h2) h1 hy (Jw7 I _ _ h5 (hd.set h1) hK);have:=List.all_eq_true.1 h4 j (List.mem_range.2 (Array.getElem?_eq_some_iff.1 hoj).1);rw [Bool.or_eq_true,decide_eq_true_eq,hoj,Bool.or_eq_true] at this;rcases this with h | h | h
  ·omega
  ·exact .inl h
  ·exact .inr (by simpa using h)
theorem Jx8 {ds:List (Option Tmp)} {os:List Oper} {E E':St→Prop} (hE:∀ s,E s→E' s):∀ (I:List Nat) (s:St),Jt8 X ds os E I s→Jt8 X ds os E' I s
 | [],s,h=>hE s h
 | i :: I,s,h=>by
  simp only [Jt8] at h ⊢;split
  ·rename_i o ho;rw [ho] at h;exact ⟨h.1,Kr (fun l hl=>⟨hl.1,Jx8 hE I _ hl.2⟩) h.2⟩
  ·rename_i ho;rw [ho] at h;exact h
theorem Ju2 {id:Nat} {Q:Ex→St→Prop} {s:St} (k:Nat) (I:List Nat) (T:Ord) (f:Nat) (hm:X.P.follows .mixedOrders=true) (hf:f+I.length=ops.size) (hB:J3a ops k I (Array.replicate ops.size false)=true) (hT:P6 ops f (Jzg I (Array.replicate ops.size false))=T)
  (h:Jt8 X (ops.toList.map (·.dst)) ops.toList (Jti X (ops.toList.map (·.dst)) ops.toList k (Q .normal) T) I s):SWP X ro (.region id ops true) Q s:=fun Γ a w hG hr=>by
 have h':RR Γ s a { w with drawn:=w.drawn+1 }:=by
  obtain ⟨ms,hdef,β,Im,hx⟩:=hr;exact ⟨ms,hdef,β,Im,hx.grow (Grow.drew hx.fit.im)⟩
 refine wpIn_region_any hm (G0 (k:=k) (K:=Q .normal) hG (fun s _ _ h1 h2=>⟨s,h1,h2⟩) _ _ s a _ h' ?_);have hd:Down .any ops (Array.replicate ops.size false):=by
  intro i o ho hl;exfalso;have hi:=(Array.getElem?_eq_some_iff.1 ho).1;simp [Array.getD_eq_getD_getElem?,hi] at hl
 have:=Jw7 (X:=X) (K:=Q .normal) (fuel:=f) I (Array.replicate ops.size false) s hB hd ?_
 ·rw [hf] at this;exact this
 ·subst hT;exact Jx8 (fun s hs=>Jtl f _ s hs) I s h
end
section
variable {X:Cx} {ds:List (Option Tmp)} {t:List L} {r:Regs} {E:St→Prop} {dst:Option Tmp} {ty:TypeId} {ps:String} {af:Array Edge} {g:Option (Nat×Bool)}
def YVar (X:Cx) (ds:List (Option Tmp)) (ops:List Oper) (i:Nat) (C:St→Prop) (s:St):Prop:=match ops[i]? with
 | some o=>Jte s o∧YS X ds s o fun l=>farL l=true∧C (s.put o.dst l)
 | none=>False
def kfar (dst:Option Tmp) (C:St→Prop) (s:St) (l:L):Prop:=farL l=true∧C (s.put dst l)
theorem v_take0 {ops:List Oper}:Jt8 X ds ops E [] ⟨t,r⟩=E ⟨t,r⟩:=(rfl)
theorem v_take {ops:List Oper} {i:Nat} {I:List Nat}:Jt8 X ds ops E (i :: I) ⟨t,r⟩=YVar X ds ops i (Jt8 X ds ops E I) ⟨t,r⟩:=(rfl)
theorem v_at0 {o:Oper} {ops:List Oper}:YVar X ds (o :: ops) 0 E ⟨t,r⟩=(Jte ⟨t,r⟩ o∧YS X ds ⟨t,r⟩ o (kfar o.dst E ⟨t,r⟩)):=(rfl)
theorem v_atS {o:Oper} {ops:List Oper} {i:Nat}:YVar X ds (o :: ops) (i+1) E ⟨t,r⟩=YVar X ds ops i E ⟨t,r⟩:=(rfl)
theorem v_kp {x:PV}:kfar dst E ⟨t,r⟩ (.p x)=kput dst E ⟨t,r⟩ (.p x):=by simp [kfar,farL,kput]
theorem v_ke {cs:List PV}:kfar dst E ⟨t,r⟩ (.eptr cs)=kput dst E ⟨t,r⟩ (.eptr cs):=by simp [kfar,farL,kput]
theorem v_fp {x:PV}:(farL (.p x)=true)=True:=by simp [farL]
theorem v_fe {cs:List PV}:(farL (.eptr cs)=true)=True:=by simp [farL]
theorem v_move {x:Operand}:Jte ⟨t,r⟩ ⟨dst,.move x,ty,ps,af,g⟩=(farL ((St.mk t r).get x)=true):=by simp [Jte,Op.operands]
theorem v_ia {T:TypeId} {x y:Operand}:Jte ⟨t,r⟩ ⟨dst,.indexAddr T x y,ty,ps,af,g⟩=(farL ((St.mk t r).get x)=true∧farL ((St.mk t r).get y)=true):=by simp [Jte,Op.operands]
theorem v_fa {T:TypeId} {x:Operand} {f:Nat}:Jte ⟨t,r⟩ ⟨dst,.fieldAddr T x f,ty,ps,af,g⟩=(farL ((St.mk t r).get x)=true):=by simp [Jte,Op.operands]
theorem v_ld {T:TypeId} {x:Operand}:Jte ⟨t,r⟩ ⟨dst,.load T x,ty,ps,af,g⟩=(farL ((St.mk t r).get x)=true):=by simp [Jte,Op.operands]
def callQ (X:Cx) (args:List L) (C:L→Prop) (l:L):Prop:=match l with
 | .fn g []=>Bi X g args C
 | _=>False
theorem q_callT {n:Tmp} {args:Array Operand} {ats:Array TypeId} {C:L→Prop}:lqc X ⟨t,r⟩ ⟨dst,.call { callee:=.value (.tmp n),args:=args,argTypes:=ats },ty,ps,af,g⟩ C=callQ X (args.toList.map (St.mk t r).get) C ((St.mk t r).get (.tmp n)):=(rfl)
theorem q_callQ {f:FuncId} {args:List L} {C:L→Prop}:callQ X args C (.fn f [])=Bi X f args C:=(rfl)
attribute [go_sem] q_callT q_callQ v_take0 v_take v_at0 v_atS v_kp v_ke v_fp v_fe v_move v_ia v_fa v_ld
end
theorem Al.perm {X:Cx} {f:FuncId} {args:List L} {rs rs':Regs} {Post:L→Regs→Prop} (hp:rs'.Perm rs) (h:Al X f args rs Post):Al X f args rs' Post:=by
 refine ⟨h.1,fun β Im w vs hg hf=>?_⟩;have hmi:∀ x,x∈rs ↔ x∈rs':=fun x=>hp.symm.mem_iff
 have hf':Fit β w Im ⟨args,rs⟩ ⟨vs⟩:={ size:=hf.size,tmps:=hf.tmps,im:=hf.im,regs:=fun d r hd=>hf.regs d r ((hmi _).1 hd),nodup:=((hp.map _).nodup_iff).1 hf.nodup,live:=fun d r loc hd hl=>hf.live d r loc ((hmi _).1 hd) hl,apart:=fun d r d' r' l1 l2 hd hd' hne h1 h2=>hf.apart d r d' r' l1 l2 ((hmi _).1 hd) ((hmi _).1 hd') hne h1 h2 }
 refine (h.2 β Im w vs hg hf').mono fun e w' ⟨v,m,q,β',Im',he,hP,hr,hc⟩=>⟨v,m,q,β',Im',he,hP,hr,?_⟩
 exact { hc with
  block:=fun k hk hno=>hc.block k hk fun d r loc hd hl=>hno d r loc ((hmi _).1 hd) hl
  imnew:=fun b hb=>by
   rcases hc.imnew b hb with h | h | ⟨d,r,loc,h1,h2⟩
   ·exact .inl h
   ·exact .inr (.inl h)
   ·exact .inr (.inr ⟨d,r,loc,(hmi _).1 h1,h2⟩)
  keys:=fun d r hd=>by
   rcases hc.keys d r hd with h | ⟨r0,h⟩
   ·exact .inl h
   ·exact .inr ⟨r0,(hmi _).1 h⟩
  regnew:=fun d r loc hd hl=>by
   rcases hc.regnew d r loc hd hl with h | ⟨d1,r1,loc1,h1,h2⟩
   ·exact .inl h
   ·exact .inr ⟨d1,r1,loc1,(hmi _).1 h1,h2⟩ }
attribute [local irreducible] Al Bi SWP
theorem nc_num (m m':Int) (nm nm' s s':List UInt8) (g g':Bool) (e e':Int) (h:Yz s g e) (h':Yz s' g' e'):Det cx 184 [.p (.agg [.int .i64 3,.int .i64 m,.str nm,.str s,.bool g,.int .i64 e]),.p (.agg [.int .i64 3,.int .i64 m',.str nm',.str s',.bool g',.int .i64 e'])] [] (.p (.int .i64 (Juo (ndN s g e) (ndN s' g' e')))) []:=by
 have:=J9o ⟨3,m,nm,s,g,e⟩ ⟨3,m',nm',s',g',e'⟩ (Jw6 h) (Jw6 h');exact this
theorem rc_num (s s':List UInt8) (g g':Bool) (e e':Int) (h:Yz s g e) (h':Yz s' g' e'):Det cx 189 [.p (.agg [.int .i64 3,.int .i64 0,.str [],.str s,.bool g,.int .i64 e]),.p (.agg [.int .i64 3,.int .i64 0,.str [],.str s',.bool g',.int .i64 e'])] [] (.p (.int .i64 (Juo (ndN s g e) (ndN s' g' e')))) []:=by
 have:=d_refCmp ⟨3,0,[],s,g,e⟩ ⟨3,0,[],s',g',e'⟩ (Jw6 h) (Jw6 h');rw [← J6t h h'];exact this
theorem J23 {a b:Int} (h:¬ a=b):¬ cmpI a b=0:=by
 unfold cmpI;split
 ·decide
 ·split
  ·decide
  ·omega
theorem Jut {k:Int} {s:List UInt8} {g:Bool} {e:Int} {kids:Forest} (h:okT (.mk k s g e kids)) {p:KT} (hp:p∈kids.list):okT p.2:=Jdo.1 (Lu.1 h).2.2 p hp
theorem d_Cmp (n:Nat) (t u:Tree) (hn:(t.enc []).length≤n) (ht:okT t) (hu:okT u) (hs:(t.enc []).length≤1000000) (hs':(u.enc []).length≤1000000):Det cx 105 [.p (.sl (valL (t.enc []))),.p (.sl (valL (u.enc [])))] [] (.p (.int .i64 (cmpT t u))) []:=by
 induction n generalizing t u with
 | zero=>have:=Et t [];omega
 | succ n ih =>
 cases t with
 | mk k s g e kids =>
 cases u with
 | mk k' s' g' e' kids' =>
 have hok:=Lu.1 ht;have hok':=Lu.1 hu;rw [A6,List.length_cons] at hn hs hs';have hg:=Cc [] k s g e kids;have hg':=Cc [] k' s' g' e' kids';have hll:=Jqh kids;have hll':=Jqh kids';have hkl:=Jqf kids;have hkl':=Jqf kids';have hc:∀ p∈kids.list,∀ q∈kids'.list,Det cx 105 [.p (.sl (valL (p.2.enc []))),.p (.sl (valL (q.2.enc [])))] [] (.p (.int .i64 (cmp2 p q))) []:=fun p hp q hq=>ih p.2 q.2 (by have:=Jd7 hp;omega) (Jut ht hp) (Jut hu hq) (by have:=Jd7 hp;omega) (by have:=Jd7 hq;omega)
 have hCF:=J1g kids.list kids'.list omg omg hc;by_cases hkk:k=k'
 ·subst hkk;by_cases h3:k=3
  ·subst h3;(refine bgo Tryz.func105 ?_;simp only [go_sem,simprocAttr]);(repeat' (first | (apply iteI <;> intro h)|((first | (refine Jqk ?_)|(refine Jqd (Jwa _ _) ?_)|(refine Jqd (nc_num _ _ _ _ _ _ _ _ _ _ (Jtc hok.1 rfl) (Jtc hok'.1 rfl)) ?_));simp only [go_sem,simprocAttr,hg,hg']) | fail))
   all_goals first
    | exact absurd (Jr2 _) (by assumption)
    | (rw [Jrq,if_pos rfl,if_pos rfl];done)
  ·by_cases h4:k=4
   ·subst h4;(refine bgo Tryz.func105 ?_;simp only [go_sem,simprocAttr]);(repeat' (first | (apply iteI <;> intro h)|((first | (refine Jqk ?_)|(refine Jqd (Jwa _ _) ?_)|(refine Jqd (J6j _ _) ?_));simp only [go_sem,simprocAttr,hg,hg']) | fail))
    all_goals first
     | exact absurd (Jr2 _) (by assumption)
     | (rw [Jrq,if_pos rfl,if_neg de,if_pos rfl];done)
   ·by_cases h6:k=6
    ·subst h6;(refine bgo Tryz.func105 ?_;simp only [go_sem,simprocAttr]);(repeat' (first | (apply iteI <;> intro h)|((first | (refine Jqk ?_)|(refine Jqd (Jwa _ _) ?_)|(refine Jqa (J62 [] s g e kids omg) ?_)|(refine Jqa (J62 [] s' g' e' kids' omg) ?_)|(refine Jqa (Jzm _ _ omg omg) ?_)|(refine Jqa (Px [] 6 s g e kids omg) ?_)|(refine Jqa (Px [] 6 s' g' e' kids' omg) ?_)|(refine Jqa (hCF) ?_));simp only [go_sem,simprocAttr,hg,hg']) | fail))
     all_goals first
      | exact absurd (Jr2 _) (by assumption)
      | (rw [Jrq,if_pos rfl,if_neg de,if_neg de,if_pos rfl,if_neg (by assumption)];done)
      | (rw [Jrq,if_pos rfl,if_neg de,if_neg de,if_pos rfl,if_pos (Decidable.not_not.1 (by assumption)),Jtp];done)
    ·by_cases h5:k=5
     ·subst h5;(refine bgo Tryz.func105 ?_;simp only [go_sem,simprocAttr]);(repeat' (first | (apply iteI <;> intro h)|((first | (refine Jqk ?_)|(refine Jqd (Jwa _ _) ?_)|(refine Jqa (Px [] 5 s g e kids omg) ?_)|(refine Jqa (Px [] 5 s' g' e' kids' omg) ?_)|(refine Jqa (hCF) ?_));simp only [go_sem,simprocAttr,hg,hg']) | fail))
      all_goals first
       | exact absurd (Jr2 _) (by assumption)
       | (rw [Jrq,if_pos rfl,if_neg de,if_neg de,if_neg de,if_pos rfl,Jtp];done)
     ·(refine bgo Tryz.func105 ?_;simp only [go_sem,simprocAttr]);(repeat' (first | (apply iteI <;> intro h)|((first | (refine Jqk ?_)|(refine Jqd (Jwa _ _) ?_));simp only [go_sem,simprocAttr,hg,hg'])|(exfalso;omega)))
      all_goals first
       | exact absurd (Jr2 _) (by assumption)
       | (rw [Jrq,if_pos rfl,if_neg h3,if_neg h4,if_neg h6,if_neg h5];done)
 ·(refine bgo Tryz.func105 ?_;simp only [go_sem,simprocAttr]);(repeat' (first | (apply iteI <;> intro h)|((first | (refine Jqk ?_)|(refine Jqd (Jwa _ _) ?_));simp only [go_sem,simprocAttr,hg,hg']) | fail))
  all_goals first
   | (rw [Jrq,if_neg hkk];done)
   | exact absurd (Decidable.not_not.1 (by assumption)) (J23 hkk)
   | exact absurd (by assumption) (J23 hkk)
theorem J7t {a b:Int}:cmpI a b=if a=b then 0 else if a<b then -1 else 1:=by
 unfold cmpI;split
 ·rw [if_neg omg]
 ·split
  ·rw [if_neg omg]
  ·rw [if_pos omg]
theorem Jvg {a b:List UInt8}:cmpS a b=if a=b then 0 else if Op.bytesLess a b=true then -1 else 1:=by
 by_cases h:a=b
 ·subst h;rw [if_pos rfl,Js6]
 ·rw [if_neg h,J6y h]
theorem Jx5 (n:Nat) (t u:Tree) (hn:(t.enc []).length≤n) (ht:okT t) (hu:okT u) (hs:(t.enc []).length≤1000000) (hs':(u.enc []).length≤1000000):Det cx 107 [.p (.sl (valL (t.enc []))),.p (.sl (valL (u.enc [])))] [] (.p (.int .i64 (cmpT t u))) []:=by
 induction n generalizing t u with
 | zero=>have:=Et t [];omega
 | succ n ih =>
 cases t with
 | mk k s g e kids =>
 cases u with
 | mk k' s' g' e' kids' =>
 have hok:=Lu.1 ht;have hok':=Lu.1 hu;rw [A6,List.length_cons] at hn hs hs';have hg:=Cc [] k s g e kids;have hg':=Cc [] k' s' g' e' kids';have hll:=Jqh kids;have hll':=Jqh kids';have hkl:=Jqf kids;have hkl':=Jqf kids';have hc:∀ p∈kids.list,∀ q∈kids'.list,Det cx 107 [.p (.sl (valL (p.2.enc []))),.p (.sl (valL (q.2.enc [])))] [] (.p (.int .i64 (cmp2 p q))) []:=fun p hp q hq=>ih p.2 q.2 (by have:=Jd7 hp;omega) (Jut ht hp) (Jut hu hq) (by have:=Jd7 hp;omega) (by have:=Jd7 hq;omega)
 have hCF:=J6m kids.list kids'.list omg omg hc;by_cases hkk:k=k'
 ·subst hkk;by_cases h3:k=3
  ·subst h3;have hm0:(kids.len:Int)=0:=by have:=hok.1;simp [G3] at this;omega
   have hm1:(kids'.len:Int)=0:=by have:=hok'.1;simp [G3] at this;omega
   rw [hm0] at hg;rw [hm1] at hg';(refine bgo Tryz.func107 ?_;simp only [go_sem,simprocAttr]);(repeat' (first | ((refine Jqk ?_);simp only [go_sem,simprocAttr,hg,hg',hg,hg']) | fail));refine Ju2 6 [0,1,2,3,4,5] (.node 6 (.node 7 (.node 8 (.node 9 .leaf .nil) .nil) .nil) (.node 7 (.node 6 (.node 8 (.node 9 .leaf .nil) .nil) .nil) .nil)) 4 hm rfl krf krf ?_;simp only [go_sem,simprocAttr,hg,hg',hg,hg'];refine ⟨?_,?_⟩
   ·(repeat' (first | ((refine Jqa (rc_num _ _ _ _ _ _ (Jtc hok.1 rfl) (Jtc hok'.1 rfl)) ?_);simp only [go_sem,simprocAttr]) | fail));rw [Jrq,if_pos rfl,if_pos rfl]
   ·(repeat' (first | ((refine Jqa (rc_num _ _ _ _ _ _ (Jtc hok.1 rfl) (Jtc hok'.1 rfl)) ?_);simp only [go_sem,simprocAttr]) | fail));rw [Jrq,if_pos rfl,if_pos rfl]
  ·by_cases h4:k=4
   ·subst h4;(refine bgo Tryz.func107 ?_;simp only [go_sem,simprocAttr]);(repeat' (first | ((first | (refine Jqk ?_)|(refine Jqd (Jup _ _) ?_));simp only [go_sem,simprocAttr,hg,hg']) | fail))
    all_goals first
     | exact (by rw [Jrq,if_pos rfl,if_neg de,if_pos rfl,Jvg]:cmpT _ _=_).symm
   ·by_cases h6:k=6
    ·subst h6;(refine bgo Tryz.func107 ?_;simp only [go_sem,simprocAttr]);(repeat' (first | (apply iteI <;> intro h)|((first | (refine Jqk ?_)|(refine Jqa (Ir [] s g e kids omg) ?_)|(refine Jqa (Ir [] s' g' e' kids' omg) ?_)|(refine Jqa (J4s _ _ omg omg) ?_)|(refine Jqa (Dy [] 6 s g e kids omg) ?_)|(refine Jqa (Dy [] 6 s' g' e' kids' omg) ?_)|(refine Jqa (hCF) ?_));simp only [go_sem,simprocAttr,hg,hg']) | fail))
     all_goals first
      | (rw [Jrq,if_pos rfl,if_neg de,if_neg de,if_pos rfl,if_neg (by assumption)];done)
      | (rw [Jrq,if_pos rfl,if_neg de,if_neg de,if_pos rfl,if_pos (Decidable.not_not.1 (by assumption)),Jtp];done)
    ·by_cases h5:k=5
     ·subst h5;(refine bgo Tryz.func107 ?_;simp only [go_sem,simprocAttr]);(repeat' (first | ((first | (refine Jqk ?_)|(refine Jqa (Dy [] 5 s g e kids omg) ?_)|(refine Jqa (Dy [] 5 s' g' e' kids' omg) ?_)|(refine Jqa (hCF) ?_));simp only [go_sem,simprocAttr,hg,hg']) | fail))
      all_goals first
       | (rw [Jrq,if_pos rfl,if_neg de,if_neg de,if_neg de,if_pos rfl,Jtp];done)
     ·have h3':=eq_false h3;have h4':=eq_false h4;have h5':=eq_false h5;have h6':=eq_false h6;(refine bgo Tryz.func107 ?_;simp only [go_sem,simprocAttr]);(repeat' (first | ((refine Jqk ?_);simp only [go_sem,simprocAttr,hg,hg',h3',h4',h5',h6']) | fail))
      all_goals first
       | (rw [Jrq,if_pos rfl,if_neg h3,if_neg h4,if_neg h6,if_neg h5];done)
 ·have hkk':=eq_false hkk;(refine bgo Tryz.func107 ?_;simp only [go_sem,simprocAttr]);(repeat' (first | ((first | (refine Jqk ?_)|(refine Jqa (Jup _ _) ?_));simp only [go_sem,simprocAttr,hg,hg',hkk']) | fail))
  all_goals first
   | (rw [Jrq,if_neg hkk,J7t,if_neg hkk];done)
def Jqm (l:List Tree):List (List PV):=l.map fun t=>[.sl (valL (t.enc []))]
@[simp] theorem Jqq (l:List Tree):(Jqm l).length=l.length:=by simp [Jqm]
theorem Jr4 {l:List Tree} {i:Nat} {t:Tree} (h:l[i]? = some t):(Jqm l)[i]? = some [.sl (valL (t.enc []))]:=by simp [Jqm,h]
def Jr5:List Tree→Bool
 | a :: b :: l=>decide (0≤cmpT b a) && Jr5 (b :: l)
 | _=>true
theorem Jul:∀ {l:List Tree},Jr5 l=true ↔ ∀ (i:Nat) (a b:Tree),l[i]? = some a→l[i+1]? = some b→0≤cmpT b a
 | []=>by simp [Jr5]
 | [a]=>by
  simp only [Jr5,true_iff];intro i x y hx hy;simp at hy
 | a :: b :: l=>by
  rw [Jr5,Bool.and_eq_true,decide_eq_true_eq,Jul (l:=b :: l)];constructor
  ·rintro ⟨h1,h2⟩ i x y hx hy;cases i with
   | zero=>simp at hx hy;subst hx;subst hy;exact h1
   | succ i=>exact h2 i x y (by simpa using hx) (by simpa using hy)
  ·intro h;exact ⟨h 0 a b rfl rfl,fun i x y hx hy=>h (i+1) x y (by simpa using hx) (by simpa using hy)⟩
theorem J85 {l:List Tree} {i:Nat} {a b:Tree} (ha:l[i]? = some a) (hb:l[i+1]? = some b) (h:cmpT b a<0):false=Jr5 l:=by
 cases hr:Jr5 l with
 | false=>rfl
 | true=>have:=Jul.1 hr i a b ha hb;omega
def okTs (l:List Tree):Prop:=l.length≤1000000∧∀ t∈l,okT t∧(t.enc []).length≤1000000
theorem J53 (l:List Tree) (hl:okTs l):Det cx 141 [.p (.sl (Jqm l)),.fn 105 []] [] (.p (.bool (Jr5 l))) []:=by
 obtain ⟨hll,ho⟩:=hl;have w0:IntKind.i64.wrap ((l.length:Int) - 1)=(l.length:Int) - 1:=Aa omg omg;(refine bgo Tryz.func141 ?_;simp only [go_sem,simprocAttr,Jqq,w0]);refine SWP.loop (fun k:Nat=>⟨Ba 25 [(0,.p (.sl (Jqm l))),(1,.fn 105 []),(5,.p (.int .i64 ((l.length:Int) - 1 - k)))],[]⟩) (fun k=>k≤l.length∧∀ (i:Nat) (a b:Tree),l.length≤i+1+k→l[i]? = some a→l[i+1]? = some b→0≤cmpT b a) (fun k=>l.length - k) 0 (by rw [show ((0:Nat):Int)=0 from rfl,Int.sub_zero];exact Jqb) ⟨Nat.zero_le _,fun i a b h1 h2 h3=>by have:=(List.getElem?_eq_some_iff.1 h3).1;omega⟩ ?_;rintro k ⟨h1,h2⟩;by_cases hk:k+1<l.length
 ·have c1:((0:Int)<(l.length:Int) - 1 - (k:Int))=True:=eq_true omg;obtain ⟨i,hi⟩:∃ i,l.length=i+1+1+k:=⟨l.length - 2 - k,by omega⟩
  have hi1:(l.length:Int) - 1 - (k:Int)=((i+1:Nat):Int):=by omega
  have w1:IntKind.i64.wrap (((i+1:Nat):Int) - 1)=(i:Int):=by rw [Aa omg omg];omega
  obtain ⟨a,ha⟩:∃ a,l[i]? = some a:=⟨_,List.getElem?_eq_getElem omg⟩
  obtain ⟨b,hb⟩:∃ b,l[i+1]? = some b:=⟨_,List.getElem?_eq_getElem omg⟩
  have hga:=Jr4 ha;have hgb:=Jr4 hb;have c2:((0:Int)<((i+1:Nat):Int))=True:=eq_true omg;obtain ⟨oa,sa⟩:=ho a (List.mem_of_getElem? ha);obtain ⟨ob,sb⟩:=ho b (List.mem_of_getElem? hb);have hC:=d_Cmp (b.enc []).length b a (Nat.le_refl _) ob oa sb sa;rw [hi1];(refine lws ?_;simp only [go_sem,simprocAttr,c2]);(repeat' (first | (apply iteI <;> intro h)|((first | (refine Jqk ?_)|(refine Jqd (hC) ?_));simp only [go_sem,simprocAttr,w1,hga,hgb]) | fail))
  ·exact J85 ha hb (by assumption)
  ·refine ⟨k+1,⟨by omega,fun i' a' b' q1 q2 q3=>?_⟩,by omega,?_⟩
   ·by_cases hii:i'=i
    ·subst hii;rw [ha] at q2;rw [hb] at q3;cases q2;cases q3;omega
    ·exact h2 i' a' b' omg q2 q3
   ·rw [show (l.length:Int) - 1 - ((k+1:Nat):Int)=(i:Int) by omega];exact Jqb
 ·have c1:((0:Int)<(l.length:Int) - 1 - (k:Int))=False:=eq_false omg;(refine lws ?_;simp only [go_sem,simprocAttr,c1]);exact (Jul.2 fun i a b q1 q2=>h2 i a b omg q1 q2).symm
theorem d_Rises (l:List Tree) (hl:okTs l):Det cx 59 [.p (.sl (Jqm l))] [] (.p (.bool (Jr5 l))) []:=by
 (refine bgo Tryz.func59 ?_;simp only [go_sem,simprocAttr]);(repeat' (first | ((refine Jqa (J53 l hl) ?_);simp only [go_sem,simprocAttr]) | fail))
end Go.LX
namespace Go.LX
open Go
def ndT (n:Node):Tree:=.mk n.kind n.s n.neg n.e .nil
def J9l:Tree→Node
 | .mk k s g e kids=>⟨k,kids.len,[],s,g,e⟩
def J14:Tree→Bool
 | .mk _ _ _ _ .nil=>true
 | .mk _ _ _ _ (.cons _ _ _)=>false
def J18 (n c:Int):Bool :=
 if n=0 then decide (c=0) else if n=1 then decide (c≠0) else if n=2 then decide (c<0) else if n=3 then decide (c≤0) else if n=4 then decide (0<c) else decide (0≤c)
def Js2 (a:Int×Node) (x:Node):Bool:=J18 a.1 (cmpT (ndT x) (ndT a.2))
def Jv1 (mask kind:Int):Bool:=decide (mask.toNat / 2 ^ kind.toNat % 2=1)
def Jq1 (mask:Int) (l:List (Int×Node)) (x:Node):Bool:=decide (Jrb x) && (Jv1 mask x.kind && l.all fun a=>Js2 a x)
def keyV (s:List UInt8) (v:Tree):List Node:=match getT (Je s).1 v with
 | .ok u=>u.enc []
 | .error _=>[]
def keyT (s:List UInt8) (v:Tree):Tree:=match getT (Je s).1 v with
 | .ok u=>u
 | .error _=>.mk 0 [] false 0 .nil
def Jt2 (ps:List (Tree→Bool)):Tree→Bool:=match ps with
 | []=>fun _=>true
 | p :: _=>p
def Jw2 (kids:List KT) (nm:List UInt8) (p:Tree→Bool):Bool:=match Ch nm kids with
 | some u=>p u
 | none=>false
def objS (kids:List KT):List RKT→List (Tree→Bool)→Bool
 | r :: rows,p :: ps=>Jw2 kids r.1 p && objS kids rows ps
 | _,_=>true
def tupS:List (Tree→Bool)→List KT→Bool
 | [],[]=>true
 | p :: ps,q :: l=>p q.2 && tupS ps l
 | [],_ :: _=>false
 | _ :: _,[]=>false
def sKey:List UInt8:=[107,101,121]
def sVal:List UInt8:=[118,97,108,117,101]
def entK:Tree→Option (List UInt8×Tree)
 | .mk k _ _ _ kids=>if k=6∧kids.len=2 then (match Ch sKey kids.list,Ch sVal kids.list with
  | some (.mk k' s' _ _ _),some x=>if k'=4 then some (s',x) else none
  | _,_=>none) else none
def Jtg (last:Option (List UInt8)) (key:List UInt8):Bool:=match last with
 | none=>true
 | some l=>Op.bytesLess l key
def entS (P:Tree→Bool):Option (List UInt8)→List KT→Bool
 | _,[]=>true
 | last,q :: l=>match entK q.2 with
  | none=>false
  | some (key,x)=>Jtg last key && (P x && entS P (some key) l)
def Jv4 (a b:Tree):Bool:=decide (a.enc []=b.enc [])
def Jy9 (last:Option Tree) (key:Tree):Bool:=match last with
 | none=>true
 | some l=>decide (cmpT l key<0)
def Jsd (P:Tree→Bool) (q:KT):Bool:=decide (q.2.kind=5) && (decide (q.2.kids.len≠0) && q.2.kids.list.all fun x=>P x.2)
def Jrt (s:List UInt8) (l:List KT):List Tree:=l.map fun q=>keyT s q.2
def Jv2 (l:List Tree):Tree:=l.headD (.mk 0 [] false 0 .nil)
def Jtv (P:Tree→Bool) (s:List UInt8):Option Tree→List KT→Bool
 | _,[]=>true
 | last,q :: l=>Jsd P q && (((Jrt s q.2.kids.list).all fun k=>Jv4 k (Jv2 (Jrt s q.2.kids.list))) && (Jy9 last (Jv2 (Jrt s q.2.kids.list)) && Jtv P s (some (Jv2 (Jrt s q.2.kids.list))) l))
def allP (P:Tree→Bool) (l:List KT):Bool:=l.all fun q=>P q.2
def inK (k:Int) (s:List UInt8) (n:Int) (rows:List RKT) (ps:List (Tree→Bool)) (v:Tree):Bool :=
 if k=0 then true
 else if k=1 then J14 v && Jq1 n (Jq8 rows) (J9l v)
 else if k=2 then decide (v.kind=6) && ((decide (n≠0) || decide (v.kids.len=rows.length)) && objS v.kids.list rows ps)
 else if k=3 then decide (v.kind=6) && allP (Jt2 ps) v.kids.list
 else decide (v.kind=5) && (
  if k=4 then tupS ps v.kids.list
  else if k=6 then entS (Jt2 ps) none v.kids.list
  else if k=8 then Jtv (Jt2 ps) s none v.kids.list
  else if k=7 then allP (Jt2 ps) v.kids.list && Jr5 (Jrt s v.kids.list)
  else allP (Jt2 ps) v.kids.list)
mutual
def inTy:RT→Tree→Bool
 | .mk k s n _ kids=>fun v=>inK k s n kids.list (inL kids) v
def inL:RF→List (Tree→Bool)
 | .nil=>[]
 | .cons _ t r=>inTy t :: inL r
end
theorem Jvo {k:Int} {s:List UInt8} {n:Int} {c:Node} {kids:RF} {v:Tree}:inTy (.mk k s n c kids) v=inK k s n kids.list (inL kids) v:=by rw [inTy]
theorem Jy1:inL .nil=[]:=by rw [inL]
theorem Ju0 {nm:List UInt8} {t:RT} {r:RF}:inL (.cons nm t r)=inTy t :: inL r:=by rw [inL]
theorem Jyw:∀ (f:RF),inL f=f.list.map fun p=>inTy p.2
 | .nil=>by rw [Jy1];rfl
 | .cons nm t r=>by rw [Ju0,Jyw r];rfl
theorem J12 {kids:List KT} {name:List UInt8} {u:RT}:∀ {rows:List RKT},objS kids rows (rows.map fun p=>inTy p.2)=true→Jxb name rows=some u→∃ w,Ch name kids=some w∧inTy u w=true
 | [],_,h=>by cases h
 | r :: rows,ho,h=>by
  rw [List.map_cons,objS,Bool.and_eq_true] at ho;rw [Jxb] at h;split at h
  ·rename_i hn;cases h;have:=ho.1;unfold Jw2 at this;rw [hn] at this;cases hf:Ch name kids with
   | none=>rw [hf] at this;cases this
   | some w=>rw [hf] at this;exact ⟨w,rfl,this⟩
  ·exact J12 ho.2 h
theorem J7a:∀ {p:List Step} {t u:RT} {v:Tree},Jvy t p=some u→inTy t v=true→∃ w,getT p v=.ok w∧inTy u w=true
 | [],t,u,v,h,hi=>by
  rw [Jxz] at h;cases h;exact ⟨v,rfl,hi⟩
 | x :: p,.mk k s n c kids,u,.mk vk vs vg ve vkids,h,hi=>by
  rw [Jzi] at h;split at h
  ·rename_i hk;obtain ⟨hk,hx⟩:=hk;have hk:k=2:=hk;subst hk;cases hf:Jxb x.name (RT.mk 2 s n c kids).kids.list with
   | none=>rw [hf] at h;cases h
   | some t' =>
    rw [hf] at h;have h:Jvy t' p=some u:=h;rw [Jvo] at hi;simp only [inK,if_neg (show ¬ (2:Int)=0 by decide),if_neg (show ¬ (2:Int)=1 by decide),if_true,Bool.and_eq_true,decide_eq_true_eq] at hi;obtain ⟨hv6,_,ho⟩:=hi;have hv6:vk=6:=hv6;subst hv6;rw [Jyw] at ho;obtain ⟨w,hw,hiw⟩:=J12 ho hf;obtain ⟨w2,h1,h2⟩:=J7a h hiw;refine ⟨w2,?_,h2⟩;have hw:Ch x.name vkids.list=some w:=hw;rw [getT,Tp hx,hw];exact h1
  ·cases h
theorem leaf_of {u:RT} {w:Tree} (hk:u.kind=1) (h:inTy u w=true):J14 w=true∧Jrb (J9l w):=by
 cases u with
 | mk k s n c kids =>
  have hk:k=1:=hk;subst hk;rw [Jvo] at h;simp only [inK,if_neg (show ¬ (1:Int)=0 by decide),if_true,Bool.and_eq_true,Jq1,decide_eq_true_eq] at h;exact ⟨h.1,h.2.1⟩
end Go.LX
