/- Filters, the program: which are right. -/
import Derived.Test.YtgfggbndbceppaaGreatDoorLxX
import Derived.Test.YtgfggbndbceppaaGreatDoorLxV
import Derived.Test.YtgfggbndbceppaaGreatDoorLxU
import Derived.Test.YtgfggbndbceppaaGreatDoorLxS
set_option linter.unusedSimpArgs false
set_option linter.unusedVariables false
set_option linter.unusedSectionVars false
set_option linter.unnecessarySimpa false
set_option maxRecDepth 100000
set_option maxHeartbeats 2000000
namespace Go.LX
open Go Go.RowKit Go.Proofs
attribute [local irreducible] Al SWP Bi
theorem J5w (v:List YRow) (hv:v.length≤10000):∀ (m i:Nat),v.length≤i+m→Jzf v i→Det cx 48 [.p (.sl (rowL v)),.p (.int .i64 i)] [] (Jsv v i) []:=by
 intro m
 induction m using Nat.strongRecOn with
 | _ m ih =>
 intro i hmi hvis;by_cases hi:v.length≤i
 ·have c1:((v.length:Int)≤(i:Int))=True:=eq_true omg;rw [Jqu (fun j h=>by obtain ⟨y,hy,_⟩:=Jun h;have:=(List.getElem?_eq_some_iff.1 hy).1;omega)];(refine bgo Tryz.func48 ?_;simp only [go_sem,simprocAttr,Jqc,c1,decide_true])
  skip
 obtain ⟨⟨k,mm,nm,s,n,c⟩,hy⟩:∃ y,v[i]? = some y:=⟨_,List.getElem?_eq_getElem omg⟩
 have hg:=Jtb hy;simp only at hg;have hfn:=J09 hvis hy;have hpl:=J3c k mm nm s n c hfn.s hfn.c;have c1:((v.length:Int)≤(i:Int))=False:=eq_false omg;by_cases h1:Jqf k s n c mm
 case neg =>
  rw [decide_eq_false h1] at hpl;rw [Jqu (fun j h=>by
   obtain ⟨y,hy',h2,_⟩:=Jun h;rw [hy] at hy';cases hy';exact h1 h2)]
  (refine bgo Tryz.func48 ?_;simp only [go_sem,simprocAttr,Jqc,c1,hg,decide_false]);(repeat' (first | ((refine Jqa (hpl) ?_);simp only [go_sem,simprocAttr,Bool.not_false]) | fail))
 rw [decide_eq_true h1] at hpl;by_cases h2:mm≤v.length
 case neg =>
  have c2:((v.length:Int)<mm)=True:=eq_true omg;rw [Jqu (fun j h=>by
   obtain ⟨y,hy',_,h3⟩:=Jun h;rw [hy] at hy';cases hy';exact h2 h3)]
  (refine bgo Tryz.func48 ?_;simp only [go_sem,simprocAttr,Jqc,c1,hg,decide_false]);(repeat' (first | ((refine Jqa (hpl) ?_);simp only [go_sem,simprocAttr,Jqc,c2,hg,decide_true,Bool.not_true]) | fail))
 have c2:((v.length:Int)<mm)=False:=eq_false omg;have w0:=wj1 (i:=i) omg;have hIt:=Jwf k mm nm s n c;have hm0:=J0y h1;(refine bgo Tryz.func48 ?_;simp only [go_sem,simprocAttr,Jqc,c1,hg,decide_false]);(repeat' (first | ((refine Jqa (hpl) ?_);simp only [go_sem,simprocAttr,Jqc,c2,hg,w0,decide_false,Bool.not_true]) | fail));refine SWP.loop (fun x:Nat×List (PV×PV)×RF=>⟨Ba 117 [(0,.p (.sl (rowL v))),(1,.p (.int .i64 x.1)),(6,.ptr 6 0 0),(7,.mref 39),(43,.p (.int .i64 mm)),(44,.p (.int .i64 x.2.2.len))],[(39,.obj (.mp x.2.1)),(6,.var 37 [.p (.int .i64 k),.p (.int .i64 mm),.p (.str nm),.p (.str s),.p (.int .i64 n),.p (.int .i64 c.kind),.p (.int .i64 c.many),.p (.str c.name),.p (.str c.s),.p (.bool c.neg),.p (.int .i64 c.e)])]⟩) (fun x=>(x.2.2.len:Int)≤mm∧v.drop (i+1)=x.2.2.enc ++ v.drop x.1∧x.1=i+1+x.2.2.enc.length∧x.1≤v.length∧Jrf k x.2.2.list∧okQF x.2.2∧HadM x.2.1 (x.2.2.list.map (·.1))) (fun x=>v.length+1 - x.1) (i+1,[],.nil) (by simp only [RF.len];exact Jqe) ⟨by simpa [RF.len] using hm0,by simp [Jq0],by simp [Jq0],by simp only;omega,by simp [RF.list,Jrf],Jrp,J54⟩ ?_;rintro ⟨q,es,A⟩ ⟨a1,a2,a3,a4,a5,a6,a7⟩;simp only at a1 a2 a3 a4 a5 a6 a7 ⊢;by_cases hk:(A.len:Int)<mm
 case neg =>
  have c3:((A.len:Int)<mm)=False:=eq_false hk;rw [Jrs (J31 hy h1 a2 a3 (by simp only;omega) a5 a6)];(refine lws ?_;simp only [go_sem,simprocAttr,decide_false,c3])
  skip
 have c3:((A.len:Int)<mm)=True:=eq_true hk;by_cases hq:v.length≤q
 ·have c4:((v.length:Int)≤(q:Int))=True:=eq_true omg;rw [Jqu (fun j h=>by have:=J0m h hy a2 a3 hk;omega)];(refine lws ?_;simp only [go_sem,simprocAttr,Jqc,decide_true,Jqc,c3,c4,decide_true])
  skip
 have c4:((v.length:Int)≤(q:Int))=False:=eq_false omg;obtain ⟨⟨k',mm',nm',s',n',c'⟩,hx⟩:∃ x,v[q]? = some x:=⟨_,List.getElem?_eq_getElem omg⟩
 have hgx:=Jtb hx;simp only at hgx;have hvn:=J5p hvis hy a2 a3 hk;have hfx:=J09 hvn hx;have hIx:=Jwf k' mm' nm' s' n' c';have hU:=Fi nm' (by have:=hfx.name;simp only at this;omega);have hrec:=ih (v.length - q) omg q omg hvn;have hno:¬ qnx k A.list nm' k'→Jsv v i=.tup [.int .i64 0,.bool false]:=fun hn=>Jqu fun j h=>hn (Jrz h hy hx a2 a3 hk).1
 have w1:=wj1 (i:=A.len) omg;by_cases hY:Jqj k
 ·rw [decide_eq_true hY] at hIt;have e4:(k=4)=False:=eq_false (by unfold Jqj at hY;omega);have e7:(k=7)=False:=eq_false (by unfold Jqj at hY;omega);have b7:(k == 7)=false:=by rw [beq_eq_false_iff_ne];exact fun h=>by rw [h] at e7;simp at e7
  have e8:(k=8)=False:=eq_false (by unfold Jqj at hY;omega);by_cases hX:Jqj k'
  ·rw [decide_eq_true hX] at hIx;by_cases hnm:nm'=[]
   ·have en:(nm'.length=0)=True:=eq_true (by rw [hnm];rfl);have hn:qnx k A.list nm' k':=⟨by unfold Jqj at *;omega,fun _=>hnm,fun h=>absurd h (by unfold Jqj at *;omega),fun h=>absurd h (by unfold Jqj at *;omega),fun h=>absurd h (by unfold Jqj at *;omega)⟩
    obtain ⟨es',p1,p2⟩:=Jtr nm' a7;by_cases hs:∃ j,Jq6 v q j
    ·obtain ⟨j,hj⟩:=hs;rw [Jrs hj] at hrec;have hjl:=Jsk hj;obtain ⟨B,r1,r2,r3,r4,r5,r6,r7⟩:=Jso (y:=⟨k,mm,nm,s,n,c⟩) hx a2 a3 a5 a6 hn hj;(refine lws ?_;simp only [go_sem,simprocAttr,Jqc,decide_false,decide_true,Jqc,c3,c4,hgx,decide_true,decide_false]);(repeat' (first | ((first | (refine Jqi ?_)|(refine Jqb (hIt) ?_)|(refine Jqb (hIx) ?_)|(refine Jqa (hrec) ?_));simp only [go_sem,simprocAttr,Bool.not_true,w1,Bool.not_true,e4,e8,en,p1]) | fail));exact ⟨(j,es',B),⟨by simp only;omega,r2,r3,hjl,r5,r6,by simp only;rw [r7];exact p2⟩,by simp only;omega,by simp only;rw [r1];exact Jqe⟩
    ·have hT:Jsv v q=.tup [.int .i64 0,.bool false]:=Jqu (fun j h=>hs ⟨j,h⟩);rw [hT] at hrec;rw [Jqu (fun j h=>hs (Jrz h hy hx a2 a3 hk).2)];(refine lws ?_;simp only [go_sem,simprocAttr,Jqc,decide_false,decide_true,Jqc,c3,c4,hgx,decide_true,decide_false]);(repeat' (first | ((first | (refine Jqi ?_)|(refine Jqb (hIt) ?_)|(refine Jqb (hIx) ?_)|(refine Jqa (hrec) ?_));simp only [go_sem,simprocAttr,Bool.not_true,Bool.not_true,Bool.not_false,e4,e8,en,p1]) | fail))
   ·have en:(nm'.length=0)=False:=eq_false (fun h=>hnm (List.eq_nil_of_length_eq_zero h));rw [hno (fun hn=>hnm (hn.2.1 (by unfold Jqj at *;omega)))];(refine lws ?_;simp only [go_sem,simprocAttr,Jqc,decide_false,decide_true,Jqc,c3,c4,hgx,decide_true,decide_false]);(repeat' (first | ((first | (refine Jqi ?_)|(refine Jqb (hIt) ?_)|(refine Jqb (hIx) ?_));simp only [go_sem,simprocAttr,Bool.not_true,Bool.not_true,e4,e8,en]) | fail))
  ·rw [decide_eq_false hX] at hIx;rw [hno (fun hn=>absurd (hn.1) (by unfold Jqj at *;omega))];(refine lws ?_;simp only [go_sem,simprocAttr,Jqc,decide_false,decide_true,Jqc,c3,c4,hgx,decide_true,decide_false]);(repeat' (first | ((first | (refine Jqi ?_)|(refine Jqb (hIt) ?_)|(refine Jqb (hIx) ?_));simp only [go_sem,simprocAttr]) | fail))
 by_cases o7:k=7
 ·have hYn:¬ Jqj k:=by unfold Jqj;omega
  rw [decide_eq_false hYn] at hIt;have e4:(k=4)=False:=eq_false omg;have e7:(k=7)=True:=eq_true o7;have b7:(k == 7)=true:=by rw [beq_iff_eq];exact o7
  have e8:(k=8)=False:=eq_false omg;by_cases hX:Jqj k'
  ·rw [decide_eq_true hX] at hIx;by_cases hnm:nm'=[]
   ·have en:(nm'.length=0)=True:=eq_true (by rw [hnm];rfl);have hn:qnx k A.list nm' k':=⟨by unfold Jqj at *;omega,fun _=>hnm,fun h=>absurd h (by unfold Jqj at *;omega),fun h=>absurd h (by unfold Jqj at *;omega),fun h=>absurd h (by unfold Jqj at *;omega)⟩
    obtain ⟨es',p1,p2⟩:=Jtr nm' a7;by_cases hs:∃ j,Jq6 v q j
    ·obtain ⟨j,hj⟩:=hs;rw [Jrs hj] at hrec;have hjl:=Jsk hj;obtain ⟨B,r1,r2,r3,r4,r5,r6,r7⟩:=Jso (y:=⟨k,mm,nm,s,n,c⟩) hx a2 a3 a5 a6 hn hj;(refine lws ?_;simp only [go_sem,simprocAttr,Jqc,decide_false,decide_true,Jqc,c3,c4,hgx,decide_true,decide_false]);(repeat' (first | ((first | (refine Jqi ?_)|(refine Jqb (hIt) ?_)|(refine Jqb (hIx) ?_)|(refine Jqa (hrec) ?_));simp only [go_sem,simprocAttr,Bool.not_true,w1,Bool.not_true,e4,e8,b7,en,p1]) | fail));exact ⟨(j,es',B),⟨by simp only;omega,r2,r3,hjl,r5,r6,by simp only;rw [r7];exact p2⟩,by simp only;omega,by simp only;rw [r1];exact Jqe⟩
    ·have hT:Jsv v q=.tup [.int .i64 0,.bool false]:=Jqu (fun j h=>hs ⟨j,h⟩);rw [hT] at hrec;rw [Jqu (fun j h=>hs (Jrz h hy hx a2 a3 hk).2)];(refine lws ?_;simp only [go_sem,simprocAttr,Jqc,decide_false,decide_true,Jqc,c3,c4,hgx,decide_true,decide_false]);(repeat' (first | ((first | (refine Jqi ?_)|(refine Jqb (hIt) ?_)|(refine Jqb (hIx) ?_)|(refine Jqa (hrec) ?_));simp only [go_sem,simprocAttr,Bool.not_true,Bool.not_true,Bool.not_false,e4,e8,b7,en,p1]) | fail))
   ·have en:(nm'.length=0)=False:=eq_false (fun h=>hnm (List.eq_nil_of_length_eq_zero h));rw [hno (fun hn=>hnm (hn.2.1 (by unfold Jqj at *;omega)))];(refine lws ?_;simp only [go_sem,simprocAttr,Jqc,decide_false,decide_true,Jqc,c3,c4,hgx,decide_true,decide_false]);(repeat' (first | ((first | (refine Jqi ?_)|(refine Jqb (hIt) ?_)|(refine Jqb (hIx) ?_));simp only [go_sem,simprocAttr,Bool.not_true,Bool.not_true,e4,e8,b7,en]) | fail))
  ·rw [decide_eq_false hX] at hIx;rw [hno (fun hn=>absurd (hn.1) (by unfold Jqj at *;omega))];(refine lws ?_;simp only [go_sem,simprocAttr,Jqc,decide_false,decide_true,Jqc,c3,c4,hgx,decide_true,decide_false]);(repeat' (first | ((first | (refine Jqi ?_)|(refine Jqb (hIt) ?_)|(refine Jqb (hIx) ?_));simp only [go_sem,simprocAttr,b7]) | fail))
 by_cases o8:k=8
 ·have hYn:¬ Jqj k:=by unfold Jqj;omega
  rw [decide_eq_false hYn] at hIt;have e4:(k=4)=False:=eq_false omg;have e7:(k=7)=False:=eq_false omg;have b7:(k == 7)=false:=by rw [beq_eq_false_iff_ne];exact fun h=>by rw [h] at e7;simp at e7
  have e8:(k=8)=True:=eq_true o8;by_cases hX:Jqj k'
  ·rw [decide_eq_true hX] at hIx;rw [hno (fun hn=>absurd (hn.1) (by unfold Jqj at *;omega))];(refine lws ?_;simp only [go_sem,simprocAttr,Jqc,decide_false,decide_true,Jqc,c3,c4,hgx,decide_true,decide_false]);(repeat' (first | ((first | (refine Jqi ?_)|(refine Jqb (hIt) ?_)|(refine Jqb (hIx) ?_));simp only [go_sem,simprocAttr,b7]) | fail))
  ·rw [decide_eq_false hX] at hIx;by_cases hin:nm'∈A.list.map (·.1)
   ·obtain ⟨j0,ej⟩:=J7a a7 hin;rw [hno (fun hn=>hn.2.2.2.2 o8 hin)];(refine lws ?_;simp only [go_sem,simprocAttr,Jqc,decide_false,decide_true,Jqc,c3,c4,hgx,decide_true,decide_false]);(repeat' (first | ((first | (refine Jqi ?_)|(refine Jqb (hIt) ?_)|(refine Jqb (hIx) ?_));simp only [go_sem,simprocAttr,Bool.not_true,Bool.not_true,e4,e8,b7,ej]) | fail))
   ·have ej:=J6e a7 hin;cases hvl:valid nm' with
    | false =>
     rw [hvl] at hU;rw [hno (fun hn=>by have:=hn.2.2.1 o8;rw [hvl] at this;cases this)];(refine lws ?_;simp only [go_sem,simprocAttr,Jqc,decide_false,decide_true,Jqc,c3,c4,hgx,decide_true,decide_false]);(repeat' (first | ((first | (refine Jqi ?_)|(refine Jqb (hIt) ?_)|(refine Jqb (hIx) ?_)|(refine Jqa (hU) ?_));simp only [go_sem,simprocAttr,Bool.not_true,Bool.not_true,Bool.not_false,e4,e8,b7,ej]) | fail))
    | true =>
     rw [hvl] at hU;have hn:qnx k A.list nm' k':=⟨by unfold Jqj at *;omega,fun h=>absurd o8 h,fun _=>hvl,fun h=>absurd h omg,fun _=>hin⟩
     obtain ⟨es',p1,p2⟩:=Jtr nm' a7;by_cases hs:∃ j,Jq6 v q j
     ·obtain ⟨j,hj⟩:=hs;rw [Jrs hj] at hrec;have hjl:=Jsk hj;obtain ⟨B,r1,r2,r3,r4,r5,r6,r7⟩:=Jso (y:=⟨k,mm,nm,s,n,c⟩) hx a2 a3 a5 a6 hn hj;(refine lws ?_;simp only [go_sem,simprocAttr,Jqc,decide_false,decide_true,Jqc,c3,c4,hgx,decide_true,decide_false]);(repeat' (first | ((first | (refine Jqi ?_)|(refine Jqb (hIt) ?_)|(refine Jqb (hIx) ?_)|(refine Jqa (hU) ?_)|(refine Jqa (hrec) ?_));simp only [go_sem,simprocAttr,Bool.not_true,w1,Bool.not_true,e4,e8,b7,ej,p1]) | fail));exact ⟨(j,es',B),⟨by simp only;omega,r2,r3,hjl,r5,r6,by simp only;rw [r7];exact p2⟩,by simp only;omega,by simp only;rw [r1];exact Jqe⟩
     ·have hT:Jsv v q=.tup [.int .i64 0,.bool false]:=Jqu (fun j h=>hs ⟨j,h⟩);rw [hT] at hrec;rw [Jqu (fun j h=>hs (Jrz h hy hx a2 a3 hk).2)];(refine lws ?_;simp only [go_sem,simprocAttr,Jqc,decide_false,decide_true,Jqc,c3,c4,hgx,decide_true,decide_false]);(repeat' (first | ((first | (refine Jqi ?_)|(refine Jqb (hIt) ?_)|(refine Jqb (hIx) ?_)|(refine Jqa (hU) ?_)|(refine Jqa (hrec) ?_));simp only [go_sem,simprocAttr,Bool.not_true,Bool.not_true,Bool.not_false,e4,e8,b7,ej,p1]) | fail))
 by_cases o4:k=4
 ·have hYn:¬ Jqj k:=by unfold Jqj;omega
  rw [decide_eq_false hYn] at hIt;have e4:(k=4)=True:=eq_true o4;have e7:(k=7)=False:=eq_false omg;have b7:(k == 7)=false:=by rw [beq_eq_false_iff_ne];exact fun h=>by rw [h] at e7;simp at e7
  have e8:(k=8)=False:=eq_false omg;by_cases hX:Jqj k'
  ·rw [decide_eq_true hX] at hIx;rw [hno (fun hn=>absurd (hn.1) (by unfold Jqj at *;omega))];(refine lws ?_;simp only [go_sem,simprocAttr,Jqc,decide_false,decide_true,Jqc,c3,c4,hgx,decide_true,decide_false]);(repeat' (first | ((first | (refine Jqi ?_)|(refine Jqb (hIt) ?_)|(refine Jqb (hIx) ?_));simp only [go_sem,simprocAttr,b7]) | fail))
  ·rw [decide_eq_false hX] at hIx;by_cases hz:A.len=0
   ·have ez:((A.len:Int)=0)=True:=eq_true omg;have hAl:A.list=[]:=List.eq_nil_of_length_eq_zero (by rw [Jqx];exact hz);by_cases h4:k'=4
    ·have e4':=eq_true h4;rw [hno (fun hn=>hn.2.2.2.1 o4 hAl h4)];(refine lws ?_;simp only [go_sem,simprocAttr,Jqc,decide_false,decide_true,Jqc,c3,c4,hgx,decide_true,decide_false]);(repeat' (first | ((first | (refine Jqi ?_)|(refine Jqb (hIt) ?_)|(refine Jqb (hIx) ?_));simp only [go_sem,simprocAttr,e4,b7,ez,e4']) | fail))
    ·have e4':=eq_false h4;by_cases hnm:nm'=[]
     ·have en:(nm'.length=0)=True:=eq_true (by rw [hnm];rfl);have hn:qnx k A.list nm' k':=⟨by unfold Jqj at *;omega,fun _=>hnm,fun h=>absurd h omg,fun _ _=>h4,fun h=>absurd h omg⟩
      obtain ⟨es',p1,p2⟩:=Jtr nm' a7;by_cases hs:∃ j,Jq6 v q j
      ·obtain ⟨j,hj⟩:=hs;rw [Jrs hj] at hrec;have hjl:=Jsk hj;obtain ⟨B,r1,r2,r3,r4,r5,r6,r7⟩:=Jso (y:=⟨k,mm,nm,s,n,c⟩) hx a2 a3 a5 a6 hn hj;(refine lws ?_;simp only [go_sem,simprocAttr,Jqc,decide_false,decide_true,Jqc,c3,c4,hgx,decide_true,decide_false]);(repeat' (first | ((first | (refine Jqi ?_)|(refine Jqb (hIt) ?_)|(refine Jqb (hIx) ?_)|(refine Jqa (hrec) ?_));simp only [go_sem,simprocAttr,Bool.not_true,w1,Bool.not_true,e4,e8,b7,ez,e4',en,p1]) | fail));exact ⟨(j,es',B),⟨by simp only;omega,r2,r3,hjl,r5,r6,by simp only;rw [r7];exact p2⟩,by simp only;omega,by simp only;rw [r1];exact Jqe⟩
      ·have hT:Jsv v q=.tup [.int .i64 0,.bool false]:=Jqu (fun j h=>hs ⟨j,h⟩);rw [hT] at hrec;rw [Jqu (fun j h=>hs (Jrz h hy hx a2 a3 hk).2)];(refine lws ?_;simp only [go_sem,simprocAttr,Jqc,decide_false,decide_true,Jqc,c3,c4,hgx,decide_true,decide_false]);(repeat' (first | ((first | (refine Jqi ?_)|(refine Jqb (hIt) ?_)|(refine Jqb (hIx) ?_)|(refine Jqa (hrec) ?_));simp only [go_sem,simprocAttr,Bool.not_true,Bool.not_true,Bool.not_false,e4,e8,b7,ez,e4',en,p1]) | fail))
     ·have en:(nm'.length=0)=False:=eq_false (fun h=>hnm (List.eq_nil_of_length_eq_zero h));rw [hno (fun hn=>hnm (hn.2.1 omg))];(refine lws ?_;simp only [go_sem,simprocAttr,Jqc,decide_false,decide_true,Jqc,c3,c4,hgx,decide_true,decide_false]);(repeat' (first | ((first | (refine Jqi ?_)|(refine Jqb (hIt) ?_)|(refine Jqb (hIx) ?_));simp only [go_sem,simprocAttr,Bool.not_true,Bool.not_true,e4,e8,b7,ez,e4',en]) | fail))
   ·have ez:((A.len:Int)=0)=False:=eq_false omg;have hAl:A.list≠[]:=fun h=>hz (by rw [← Jqx,h];rfl)
    by_cases hnm:nm'=[]
    ·have en:(nm'.length=0)=True:=eq_true (by rw [hnm];rfl);have hn:qnx k A.list nm' k':=⟨by unfold Jqj at *;omega,fun _=>hnm,fun h=>absurd h omg,fun _ h=>absurd h hAl,fun h=>absurd h omg⟩
     obtain ⟨es',p1,p2⟩:=Jtr nm' a7;by_cases hs:∃ j,Jq6 v q j
     ·obtain ⟨j,hj⟩:=hs;rw [Jrs hj] at hrec;have hjl:=Jsk hj;obtain ⟨B,r1,r2,r3,r4,r5,r6,r7⟩:=Jso (y:=⟨k,mm,nm,s,n,c⟩) hx a2 a3 a5 a6 hn hj;(refine lws ?_;simp only [go_sem,simprocAttr,Jqc,decide_false,decide_true,Jqc,c3,c4,hgx,decide_true,decide_false]);(repeat' (first | ((first | (refine Jqi ?_)|(refine Jqb (hIt) ?_)|(refine Jqb (hIx) ?_)|(refine Jqa (hrec) ?_));simp only [go_sem,simprocAttr,Bool.not_true,w1,Bool.not_true,e4,e8,b7,ez,en,p1]) | fail));exact ⟨(j,es',B),⟨by simp only;omega,r2,r3,hjl,r5,r6,by simp only;rw [r7];exact p2⟩,by simp only;omega,by simp only;rw [r1];exact Jqe⟩
     ·have hT:Jsv v q=.tup [.int .i64 0,.bool false]:=Jqu (fun j h=>hs ⟨j,h⟩);rw [hT] at hrec;rw [Jqu (fun j h=>hs (Jrz h hy hx a2 a3 hk).2)];(refine lws ?_;simp only [go_sem,simprocAttr,Jqc,decide_false,decide_true,Jqc,c3,c4,hgx,decide_true,decide_false]);(repeat' (first | ((first | (refine Jqi ?_)|(refine Jqb (hIt) ?_)|(refine Jqb (hIx) ?_)|(refine Jqa (hrec) ?_));simp only [go_sem,simprocAttr,Bool.not_true,Bool.not_true,Bool.not_false,e4,e8,b7,ez,en,p1]) | fail))
    ·have en:(nm'.length=0)=False:=eq_false (fun h=>hnm (List.eq_nil_of_length_eq_zero h));rw [hno (fun hn=>hnm (hn.2.1 omg))];(refine lws ?_;simp only [go_sem,simprocAttr,Jqc,decide_false,decide_true,Jqc,c3,c4,hgx,decide_true,decide_false]);(repeat' (first | ((first | (refine Jqi ?_)|(refine Jqb (hIt) ?_)|(refine Jqb (hIx) ?_));simp only [go_sem,simprocAttr,Bool.not_true,Bool.not_true,e4,e8,b7,ez,en]) | fail))
 have hYn:¬ Jqj k:=hY;have e4:(k=4)=False:=eq_false o4;have e7:(k=7)=False:=eq_false o7;have b7:(k == 7)=false:=by rw [beq_eq_false_iff_ne];exact fun h=>by rw [h] at e7;simp at e7
 have e8:(k=8)=False:=eq_false o8;rw [decide_eq_false hYn] at hIt;by_cases hX:Jqj k'
 ·rw [decide_eq_true hX] at hIx;rw [hno (fun hn=>absurd (hn.1) (by unfold Jqj at *;omega))];(refine lws ?_;simp only [go_sem,simprocAttr,Jqc,decide_false,decide_true,Jqc,c3,c4,hgx,decide_true,decide_false]);(repeat' (first | ((first | (refine Jqi ?_)|(refine Jqb (hIt) ?_)|(refine Jqb (hIx) ?_));simp only [go_sem,simprocAttr,b7]) | fail))
 ·rw [decide_eq_false hX] at hIx;by_cases hnm:nm'=[]
  ·have en:(nm'.length=0)=True:=eq_true (by rw [hnm];rfl);have hn:qnx k A.list nm' k':=⟨by unfold Jqj at *;omega,fun _=>hnm,fun h=>absurd h (by unfold Jqj at *;omega),fun h=>absurd h (by unfold Jqj at *;omega),fun h=>absurd h (by unfold Jqj at *;omega)⟩
   obtain ⟨es',p1,p2⟩:=Jtr nm' a7;by_cases hs:∃ j,Jq6 v q j
   ·obtain ⟨j,hj⟩:=hs;rw [Jrs hj] at hrec;have hjl:=Jsk hj;obtain ⟨B,r1,r2,r3,r4,r5,r6,r7⟩:=Jso (y:=⟨k,mm,nm,s,n,c⟩) hx a2 a3 a5 a6 hn hj;(refine lws ?_;simp only [go_sem,simprocAttr,Jqc,decide_false,decide_true,Jqc,c3,c4,hgx,decide_true,decide_false]);(repeat' (first | ((first | (refine Jqi ?_)|(refine Jqb (hIt) ?_)|(refine Jqb (hIx) ?_)|(refine Jqa (hrec) ?_));simp only [go_sem,simprocAttr,Bool.not_true,w1,Bool.not_true,e4,e8,b7,en,p1]) | fail));exact ⟨(j,es',B),⟨by simp only;omega,r2,r3,hjl,r5,r6,by simp only;rw [r7];exact p2⟩,by simp only;omega,by simp only;rw [r1];exact Jqe⟩
   ·have hT:Jsv v q=.tup [.int .i64 0,.bool false]:=Jqu (fun j h=>hs ⟨j,h⟩);rw [hT] at hrec;rw [Jqu (fun j h=>hs (Jrz h hy hx a2 a3 hk).2)];(refine lws ?_;simp only [go_sem,simprocAttr,Jqc,decide_false,decide_true,Jqc,c3,c4,hgx,decide_true,decide_false]);(repeat' (first | ((first | (refine Jqi ?_)|(refine Jqb (hIt) ?_)|(refine Jqb (hIx) ?_)|(refine Jqa (hrec) ?_));simp only [go_sem,simprocAttr,Bool.not_true,Bool.not_true,Bool.not_false,e4,e8,b7,en,p1]) | fail))
  ·have en:(nm'.length=0)=False:=eq_false (fun h=>hnm (List.eq_nil_of_length_eq_zero h));rw [hno (fun hn=>hnm (hn.2.1 (by unfold Jqj at *;omega)))];(refine lws ?_;simp only [go_sem,simprocAttr,Jqc,decide_false,decide_true,Jqc,c3,c4,hgx,decide_true,decide_false]);(repeat' (first | ((first | (refine Jqi ?_)|(refine Jqb (hIt) ?_)|(refine Jqb (hIx) ?_));simp only [go_sem,simprocAttr,Bool.not_true,Bool.not_true,e4,e8,b7,en]) | fail))
theorem Jy7 (v:List YRow) (hv:v.length≤10000) (hvis:Jzf v 0):Det cx 16 [.p (.sl (rowL v))] [] (.p (.bool (Jq9 v))) []:=by
 have hW:=J5w v hv v.length 0 omg hvis;by_cases hs:∃ j,Jq6 v 0 j
 ·obtain ⟨j,hj⟩:=hs;rw [Jrs hj] at hW;obtain ⟨nm,⟨k,s,n,c,K⟩,r,h1,h2,h3⟩:=hj;rw [List.drop_zero] at h1;by_cases hl:j=v.length
  ·have c1:((j:Int)=(v.length:Int))=True:=eq_true omg;have hr:r=[]:=by
    have:=congrArg List.length h1;rw [List.length_append] at this;exact List.eq_nil_of_length_eq_zero omg
   rw [hr,List.append_nil] at h1;have hg0:(rowL v)[0]? = some [.int .i64 k,.int .i64 K.len,.str nm,.str s,.int .i64 n,.int .i64 c.kind,.int .i64 c.many,.str c.name,.str c.s,.bool c.neg,.int .i64 c.e]:=by rw [h1,Jqk];rfl
   have hI:=Jwf k K.len nm s n c;by_cases hnm:nm=[]
   ·have c2:=eq_true hnm;subst hnm;by_cases hc:Jqj k
    ·rw [decide_eq_true hc] at hI;have:false=Jq9 v:=Jq4 fun h=>by rw [h1] at h;exact (Jr3.1 h).2 hc
     rw [← this];(refine bgo Tryz.func16 ?_;simp only [go_sem,simprocAttr]);(repeat' (first | ((first | (refine Jqa (hW) ?_)|(refine Jqa (hI) ?_));simp only [go_sem,simprocAttr,c1,hg0,Jqc]) | fail))
    ·rw [decide_eq_false hc] at hI;have:true=Jq9 v:=(Jrr.2 (by rw [h1];exact Jr3.2 ⟨h2,hc⟩)).symm;rw [← this];(refine bgo Tryz.func16 ?_;simp only [go_sem,simprocAttr]);(repeat' (first | ((first | (refine Jqa (hW) ?_)|(refine Jqa (hI) ?_));simp only [go_sem,simprocAttr,c1,hg0,Jqc]) | fail))
   ·have c2:=eq_false hnm;have:false=Jq9 v:=Jq4 fun h=>by
     obtain ⟨t,_,_,e⟩:=h;rw [h1] at e;exact hnm (J2x e).1
    rw [← this];(refine bgo Tryz.func16 ?_;simp only [go_sem,simprocAttr]);(repeat' (first | ((refine Jqa (hW) ?_);simp only [go_sem,simprocAttr,c1,c2,hg0,Jqc]) | fail))
  ·have c1:((j:Int)=(v.length:Int))=False:=eq_false omg;have:false=Jq9 v:=Jq4 fun h=>by
    obtain ⟨t,_,_,e⟩:=h;have:t.enc [] ++ []=(RT.mk k s n c K).enc nm ++ r:=by rw [List.append_nil,← e,h1]
    obtain ⟨_,_,h4⟩:=Jwi this;rw [← h4,List.append_nil] at h1;rw [h1] at hl;omega
   rw [← this];(refine bgo Tryz.func16 ?_;simp only [go_sem,simprocAttr]);(repeat' (first | ((refine Jqa (hW) ?_);simp only [go_sem,simprocAttr,c1,Jqc]) | fail))
 ·rw [Jqu fun j h=>hs ⟨j,h⟩] at hW;have:false=Jq9 v:=Jq4 fun h=>by
   obtain ⟨t,h1,_,e⟩:=h;exact hs ⟨_,[],t,[],by rw [List.append_nil,List.drop_zero,e],h1,rfl⟩
  rw [← this];(refine bgo Tryz.func16 ?_;simp only [go_sem,simprocAttr]);(repeat' (first | ((refine Jqa (hW) ?_);simp only [go_sem,simprocAttr]) | fail))
theorem Js8 (v:List YRow) (hv:v.length≤10000) (hf:∀ n∈v,RowFit n):Det cx 16 [.p (.sl (rowL v))] [] (.p (.bool (Jq9 v))) []:=Jy7 v hv (.inl hf)
theorem term_n {k:Int} {s:List UInt8} {n:Int} {c:Node} {m:Int} (h:Jqf k s n c m):0≤n∧n≤1000000:=by
 unfold Jqf at h
 repeat' split at h
 all_goals first
  | exact h.elim
  | (have h1:=h.1;omega)
  | (have h1:=h.2.1;omega)
  | (have h1:=h.2.2.2;omega)
  | (have h1:=h.2.2;omega)
def Jva (r:YRow):Prop:=r.s.length≤100∧r.name.length≤100∧r.c.s.length≤100∧-9223372036854775808≤r.c.e∧r.c.e≤9223372036854775807
mutual
theorem Jvr:∀ (t:RT) (nm:List UInt8),okQ t→(∀ r∈t.enc nm,Jva r)→fitQ t
 | .mk k s n c kids,nm,ho,h=>by
  obtain ⟨h1,h2,h3⟩:=Jru.1 ho;rw [Jqk] at h;obtain ⟨a,b,d,e,f⟩:=h _ List.mem_cons_self;have hn:=term_n h1;rw [fitQ];exact ⟨⟨a,d,by omega,by omega,e,f⟩,J03 kids h3 fun r hr=>h r (List.mem_cons_of_mem _ hr)⟩
theorem J03:∀ (f:RF),okQF f→(∀ r∈f.enc,Jva r)→Jro f
 | .nil,_,_=>by rw [Jro];trivial
 | .cons nm t r,ho,h=>by
  obtain ⟨h1,h2⟩:=Jqo.1 ho;rw [Jqh] at h;rw [Jro];refine ⟨?_,Jvr t nm h1 fun x hx=>h x (List.mem_append_left _ hx),J03 r h2 fun x hx=>h x (List.mem_append_right _ hx)⟩;cases t with
  | mk k s n c kids =>
   have:=h ⟨k,kids.len,nm,s,n,c⟩ (List.mem_append_left _ (by rw [Jqk];exact List.mem_cons_self));exact this.2.1
end
mutual
theorem Jtv:∀ (t:RT) (nm:List UInt8),nm.length≤100→fitQ t→∀ r∈t.enc nm,RowFit r
 | .mk k s n c kids,nm,hn,h,r,hr=>by
  rw [fitQ] at h;obtain ⟨⟨a1,a2,a3,a4,a5,a6⟩,h2⟩:=h;rw [Jqk] at hr;rcases List.mem_cons.1 hr with rfl | hr
  ·exact ⟨by simp only;omega,by simp only;omega,⟨by simp only;omega,a5,a6⟩⟩
  ·exact Jzo kids h2 r hr
theorem Jzo:∀ (f:RF),Jro f→∀ r∈f.enc,RowFit r
 | .nil,_,r,hr=>by rw [Jq0] at hr;cases hr
 | .cons nm t q,h,r,hr=>by
  rw [Jro] at h;rw [Jqh] at hr;rcases List.mem_append.1 hr with hr | hr
  ·exact Jtv t nm h.1 h.2.1 r hr
  ·exact Jzo q h.2.2 r hr
end
theorem Jxe {a b:RT} (ha:fitQ a) (hb:fitQ b):fitQ (two a b):=by
 unfold two;rw [fitQ,Jro,Jro,Jro];exact ⟨⟨by simp,by simp [Jqt],by omega,by omega,by simp [Jqt],by simp [Jqt]⟩,by simp,ha,by simp,hb,trivial⟩
theorem J48 {t u:RT} (ht:okQ t) (ct:¬ Jqj t.kind) (h1:fitQ t) (h2:fitQ u):fitQ (Jq2 t u):=by
 refine Jst (M:=fun t=>fitQ t→fitQ (Jq2 t u)) (fun t g1 g2 g3 h=>?_) (fun a b ha hb ca cb h4 ih h=>?_) _ t (Nat.le_refl _) ht ct h1
 ·rw [Jry g3];exact Jxe h h2
 ·rw [Jr1];unfold two at h;rw [fitQ,Jro,Jro] at h;exact Jxe h.2.2.1 (ih h.2.2.2.2.1)
structure FiFit (v:List YRow):Prop where
 len:v.length≤140737488355328
 row:∀ n∈v,ERow n
theorem Ju7 {v:List YRow} {m:Nat} (hv:FiFit v) (h:Jrt v m=true):v.length≤m∧∀ r∈v,Jva r:=by
 unfold Jrt at h;simp only [Bool.and_eq_true,decide_eq_true_eq,List.all_eq_true] at h;refine ⟨h.1,fun r hr=>?_⟩;have h1:=h.2 r hr;have h2:=hv.row r hr;simp only [shortY,Bool.and_eq_true,decide_eq_true_eq] at h1;exact ⟨h1.1,h1.2.1,h1.2.2,h2.e0,h2.e1⟩
theorem Jy4 {r:YRow} (h:Jva r):RowFit r:=by
 obtain ⟨a,b,c,d,e⟩:=h;exact ⟨by omega,by omega,⟨by omega,d,e⟩⟩
theorem Jsa {v:List YRow} {m:Nat} (hv:FiFit v) (h:Jsx v m=true):∃ t:RT,okQ t∧¬ Jqj t.kind∧v=t.enc []∧(t.enc []).length≤m∧fitQ t∧∀ r∈t.enc [],Jva r:=by
 unfold Jsx at h;rw [Bool.and_eq_true] at h;obtain ⟨t,h1,h2,rfl⟩:=Jrr.1 h.2;obtain ⟨a,b⟩:=Ju7 hv h.1;exact ⟨t,h1,h2,rfl,a,Jvr t [] h1 b,b⟩
def one1:Node:=⟨3,0,[],[49],false,0⟩
def idT:RT:=.mk 0 [] 0 Jqt .nil
def cmpT1:RT:=.mk 16 [46,97] 0 one1 .nil
def whereT:RT:=.mk 7 [] 0 Jqt (.cons [] cmpT1 .nil)
def fldT:RT:=.mk 1 [98] 0 Jqt .nil
def liveT:RT:=.mk 5 [] 0 Jqt (.cons [] (.mk 4 [] 0 Jqt (.cons [] whereT (.cons [] fldT .nil))) .nil)
theorem Jv2 (k:Int) (h:k≠8∨True):Jrf k RF.nil.list:=⟨fun p hp=>(by cases hp),fun _ p hp=>(by cases hp),fun _=>List.nodup_nil⟩
theorem Jx6:okQ idT:=Jru.2 ⟨by decide,Jv2 _ (.inr trivial),Jrp⟩
theorem J7e:okQ fldT:=Jru.2 ⟨by decide,Jv2 _ (.inr trivial),Jrp⟩
theorem J56:okQ cmpT1:=Jru.2 ⟨by decide +kernel,Jv2 _ (.inr trivial),Jrp⟩
theorem J4u:okQ whereT:=by
 refine Jru.2 ⟨by decide,⟨?_,fun h=>absurd h de,fun h=>absurd h de⟩,Jqo.2 ⟨J56,Jrp⟩⟩;intro p hp;simp only [RF.list,List.mem_cons,List.not_mem_nil,or_false] at hp;subst hp;exact ⟨by decide,fun _=>rfl,fun h=>absurd h de⟩
theorem Jul:okQ liveT:=by
 refine Jru.2 ⟨by decide,⟨?_,fun h=>absurd h de,fun h=>absurd h de⟩,Jqo.2 ⟨Jru.2 ⟨by decide,⟨?_,fun _ p hp=>?_,fun h=>absurd h de⟩,Jqo.2 ⟨J4u,Jqo.2 ⟨J7e,Jrp⟩⟩⟩,Jrp⟩⟩
 ·intro p hp;simp only [RF.list,List.mem_cons,List.not_mem_nil,or_false] at hp;subst hp;exact ⟨by decide,fun _=>rfl,fun h=>absurd h de⟩
 ·intro p hp;simp only [RF.list,List.mem_cons,List.not_mem_nil,or_false] at hp;rcases hp with rfl | rfl
  ·exact ⟨by decide,fun _=>rfl,fun h=>absurd h de⟩
  ·exact ⟨by decide,fun _=>rfl,fun h=>absurd h de⟩
 ·cases hp;decide
theorem J32:liveT.enc []=[⟨5,1,[],[],0,Jqt⟩,⟨4,2,[],[],0,Jqt⟩,⟨7,1,[],[],0,Jqt⟩,⟨16,0,[],[46,97],0,one1⟩,⟨1,0,[],[98],0,Jqt⟩]:=rfl
theorem J6i:idT.enc []=[⟨0,0,[],[],0,Jqt⟩]:=rfl
theorem Jx8:fitQ liveT:=Jvr liveT [] Jul (by rw [J32];unfold Jva;decide)
theorem J5n:fitQ idT:=Jvr idT [] Jx6 (by rw [J6i];unfold Jva;decide)
theorem J37:Jql liveT=[109,97,112,40,115,101,108,101,99,116,40,46,97,32,61,61,32,49,41,32,124,32,46,98,41]:=by decide +kernel
theorem Jyu:Jql (two idT (two liveT idT))=[46,32,124,32,109,97,112,40,115,101,108,101,99,116,40,46,97,32,61,61,32,49,41,32,124,32,46,98,41,32,124,32,46]:=by decide +kernel
theorem Jz7:Det cx 16 [.p .snil] [] (.p (.bool false)) []:=by
 have h:=Js8 [] sm (by intro n hn;cases hn);have hb:Jq9 []=false:=(Jq4 (by
  rintro ⟨t,_,_,e⟩;have:=Jrj t [];rw [← e] at this;simp at this)).symm
 rw [hb] at h;exact Jw3 (by simp [Aw,LLe,rowL]) h
theorem Jq1:Det cx 14 [] [] (.p (.bool true)) []:=by
 have c0:¬ Jqj idT.kind:=by decide
 have c1:¬ Jqj liveT.kind:=by decide
 have e1:Jq2 idT liveT=two idT liveT:=Jry de;have e2:Jq2 (two idT liveT) idT=two idT (two liveT idT):=by rw [Jr1,Jry de]
 have p1:=Jtw liveT de idT Jx6 c0 de;rw [e1] at p1;have p2:=Jtw idT de (two idT liveT) (Jui Jx6 Jul c0 c1 de) de de;rw [e2] at p2;have h1:=Js8 (liveT.enc []) de (Jtv liveT [] de Jx8);rw [show Jq9 (liveT.enc [])=true from Jrr.2 (Jr3.2 ⟨Jul,c1⟩)] at h1;have t1:=Jti 100 omg liveT [] Jul Jx8 de;rw [J37] at t1;have t2:=Jti 100 omg (two idT (two liveT idT)) [] (Jui Jx6 (Jui Jul Jx6 c1 c0 de) c0 de de) (Jxe J5n (Jxe Jx8 J5n)) de;rw [Jyu] at t2;have s1:=Jxf (liveT.enc []) (liveT.enc []) de de;rw [decide_eq_true rfl] at s1;have q1:Det cx 19 [.p (.sl (rowL (liveT.enc [])))] [] (.p (.sl (Jqq liveT.kids.list))) []:=Jua [] 5 [] 0 Jqt liveT.kids de;have hl:((two idT (two liveT idT)).enc []).length=9:=by decide
 have hl2:(Jqq liveT.kids.list).length=1:=by rw [Jqv];rfl
 have e3:rowL (liveT.enc [])=[[.int .i64 5,.int .i64 1,.str [],.str [],.int .i64 0,.int .i64 0,.int .i64 0,.str [],.str [],.bool false,.int .i64 0],[.int .i64 4,.int .i64 2,.str [],.str [],.int .i64 0,.int .i64 0,.int .i64 0,.str [],.str [],.bool false,.int .i64 0],[.int .i64 7,.int .i64 1,.str [],.str [],.int .i64 0,.int .i64 0,.int .i64 0,.str [],.str [],.bool false,.int .i64 0],[.int .i64 16,.int .i64 0,.str [],.str [46,97],.int .i64 0,.int .i64 3,.int .i64 0,.str [],.str [49],.bool false,.int .i64 0],[.int .i64 1,.int .i64 0,.str [],.str [98],.int .i64 0,.int .i64 0,.int .i64 0,.str [],.str [],.bool false,.int .i64 0]]:=rfl;have e4:rowL (idT.enc [])=[[.int .i64 0,.int .i64 0,.str [],.str [],.int .i64 0,.int .i64 0,.int .i64 0,.str [],.str [],.bool false,.int .i64 0]]:=rfl;rw [e3] at p1 h1 t1 s1 q1;rw [e4] at p1 p2;generalize (Jqq liveT.kids.list)=tp at q1 hl2;generalize (two idT (two liveT idT)).enc []=w at p2 t2 hl;generalize rowL ((two idT liveT).enc [])=w1 at p1 p2;(refine bgo Tryz.func14 ?_;simp only [go_sem,simprocAttr]);(repeat' (first | ((first | (refine Jqa (p1) ?_)|(refine Jqa (p2) ?_)|(refine Jqa (h1) ?_)|(refine Jqa (t1) ?_)|(refine Jqa (t2) ?_)|(refine Jqa (s1) ?_)|(refine Jqa (q1) ?_)|(refine Jqa (Jz7) ?_));simp only [go_sem,simprocAttr,Jqc,hl,hl2]) | fail))
end Go.LX
namespace Go.LX
open Go Go.Proofs Go.RowKit Go.ChangeShapes Go.WideShapes Go.ChangeAt Go.Lib
open Go.Proofs.YtgfggbndbceppaaGreatDoor
theorem cTm:Tryz.prog.cellsOf 37=11:=kr
theorem bTm:0<Tryz.prog.bytesOf 37:=by decide +kernel
def YRow.vals (r:YRow):List Value:=[.int .i64 r.kind,.int .i64 r.many,.string ⟨⟨r.name⟩⟩,.string ⟨⟨r.s⟩⟩,.int .i64 r.n,.int .i64 r.c.kind,.int .i64 r.c.many,.string ⟨⟨r.c.name⟩⟩,.string ⟨⟨r.c.s⟩⟩,.bool r.c.neg,.int .i64 r.c.e]
theorem eachTm {H:Type} {enc:TypeId×Value→H} {w:World} (fuel:Nat) (cs:List Value) (y:DataW H×List MemPlace) (h:DataW.trod enc Tryz.prog w 0 (fun _=>true) true fuel 37 cs=some y) (hz:∀ n∈y.1.weights Tryz.prog 37,n≤reachBytes) :
  ∃ x:YRow,ERow x∧cs=x.vals:=by
 obtain ⟨xs,n,_,rfl,hl,hlen,hf⟩:=DataW.trod_struct Tryz.underlying37 h;rw [cTm] at hl
 match xs,hlen,cs,hl with
 | [y0,y1,y2,y3,y4,y5],_,[a0,a1,a2,a3,a4,a5,a6,a7,a8,a9,a10],_ =>
  have g0:=hf 0 _ rfl;have g1:=hf 1 _ rfl;have g2:=hf 2 _ rfl;have g3:=hf 3 _ rfl;have g4:=hf 4 _ rfl;have g5:=hf 5 _ rfl;simp only [cBool,cStr,cInt,cNode,List.drop_zero,List.drop_succ_cons,List.take_succ_cons,List.take_zero,List.getElem?_cons_zero,List.getElem?_cons_succ] at g0 g1 g2 g3 g4 g5;obtain ⟨x0,e0,rfl,_⟩:=DataW.trod_int Tryz.underlying3 g0;obtain ⟨x1,e1,rfl,_⟩:=DataW.trod_int Tryz.underlying3 g1;obtain ⟨x2,e2,rfl,z2⟩:=DataW.trod_string Tryz.underlying9 g2;obtain ⟨x3,e3,rfl,z3⟩:=DataW.trod_string Tryz.underlying9 g3;obtain ⟨x4,e4,rfl,_⟩:=DataW.trod_int Tryz.underlying3 g4;obtain ⟨c,hc,e5⟩:=Jly _ _ _ g5 (fun n hn=>hz n (by simp [DataW.weights,DataW.weightsEach,Tryz.underlying37,hn]));cases e0;cases e1;cases e2;cases e3;cases e4;cases e5;have hm:maxLen=9223372036854775807:=by decide
  have s2:=T8 x2;have s3:=T8 x3;refine ⟨⟨x0,x1,x2.data.toList,x3.data.toList,x4,c⟩,⟨?_,?_,hc.s,hc.e0,hc.e1⟩,?_⟩
  ·show x3.data.toList.length≤_;omega
  ·show x2.data.toList.length≤_;omega
  ·simp only [YRow.vals,Jc3]
theorem J3j (w:World) (Im:Nat→Prop) (x:YRow) (j:Nat) (p:PV) (h:x.cells[j]? = some p):PRep w Im (x.vals.getD j undef) p:=by
 match j,h with
 | 0,h=>cases h;exact PRep.int _ _
 | 1,h=>cases h;exact PRep.int _ _
 | 2,h=>cases h;exact PRep.str _
 | 3,h=>cases h;exact PRep.str _
 | 4,h=>cases h;exact PRep.int _ _
 | 5,h=>cases h;exact PRep.int _ _
 | 6,h=>cases h;exact PRep.int _ _
 | 7,h=>cases h;exact PRep.str _
 | 8,h=>cases h;exact PRep.str _
 | 9,h=>cases h;exact PRep.bool _
 | 10,h=>cases h;exact PRep.int _ _
 | j+11,h=>simp [YRow.cells] at h
theorem cellFi {H:Type} {enc:TypeId×Value→H} {w:World} {b:Nat} {v:Value} (hok:Cell.okWide Tryz.prog w .any b 23 v) {fuel:Nat} {x:DataW H×List MemPlace} (h:DataW.trod enc Tryz.prog w 0 (fun _=>true) true fuel 23 [v]=some x) (hz:∀ n∈x.1.weights Tryz.prog 23,n≤reachBytes) :
  ∃ p:List YRow,FiFit p∧PRep w (Ja w) v (.sl (rowL p)):=by
 obtain ⟨p,h1,h2,h3⟩:=Xx YRow.vals YRow.cells ERow Tryz.underlying23 cTm bTm (fun _=>rfl) (fun _=>rfl) (fun x p hp=>by simp [YRow.cells] at hp;rcases hp with rfl | rfl | rfl | rfl | rfl | rfl | rfl | rfl | rfl | rfl | rfl <;> rfl) (J3j w) eachTm hok h hz;exact ⟨p,⟨h1,h2⟩,h3⟩
theorem Jvz {H:Type} {enc:TypeId×Value→H} {w:World} {b:Nat} {v:Value} {d:DataW H} {q:List MemPlace} {ts:List TypeId} {ds:List (DataW H)} (hok:Value.okWide Tryz.prog w .any b 23 v) (h:DataW.Trod enc Tryz.prog w 0 (fun _=>true) true 23 v d q)
  (hz:(DataW.weightsEach Tryz.prog ts ds).all (· ≤ reachBytes)=true) {j:Nat} (h1:ts[j]? = some 23) (h2:ds[j]? = some d):∃ p:List YRow,FiFit p∧PRep w (Ja w) v (.sl (rowL p)):=by
 simp only [Value.okWide,Tryz.underlying23] at hok;obtain ⟨fuel,h⟩:=h;rw [Jkh Tryz.underlying23 hok] at h;exact cellFi hok h (J0 hz h1 h2)
theorem J65:Tryz.prog.cellTypes Tryz.prog.depth 37=some [3,3,9,9,3,3,3,9,9,4,3]:=kr
theorem argTm {W:World} {b:Nat} {v:Value} (h:Value.okWide Tryz.prog W .any b 37 v):∃ n:YRow,v=.agg ⟨n.vals⟩∧ERow n:=by
 simp only [Value.okWide,Tryz.underlying37] at h;obtain ⟨cs,rfl,hs,ts,hts,_,hc⟩:=h;rw [cTm] at hs;rw [J65] at hts;cases hts;obtain ⟨l⟩:=cs
 match l,hs,hc with
 | [a0,a1,a2,a3,a4,a5,a6,a7,a8,a9,a10],_,hc =>
  obtain ⟨u0,g0,k0⟩:=hc 0 a0 rfl;obtain ⟨u1,g1,k1⟩:=hc 1 a1 rfl;obtain ⟨u2,g2,k2⟩:=hc 2 a2 rfl;obtain ⟨u3,g3,k3⟩:=hc 3 a3 rfl;obtain ⟨u4,g4,k4⟩:=hc 4 a4 rfl;obtain ⟨u5,g5,k5⟩:=hc 5 a5 rfl;obtain ⟨u6,g6,k6⟩:=hc 6 a6 rfl;obtain ⟨u7,g7,k7⟩:=hc 7 a7 rfl;obtain ⟨u8,g8,k8⟩:=hc 8 a8 rfl;obtain ⟨u9,g9,k9⟩:=hc 9 a9 rfl;obtain ⟨u10,g10,k10⟩:=hc 10 a10 rfl;cases g0;cases g1;cases g2;cases g3;cases g4;cases g5;cases g6;cases g7;cases g8;cases g9;cases g10;obtain ⟨x0,rfl,_⟩:=Jt4 Tryz.underlying3 k0;obtain ⟨x1,rfl,_⟩:=Jt4 Tryz.underlying3 k1;obtain ⟨x2,rfl,h2⟩:=Jxc Tryz.underlying9 k2;obtain ⟨x3,rfl,h3⟩:=Jxc Tryz.underlying9 k3;obtain ⟨x4,rfl,_⟩:=Jt4 Tryz.underlying3 k4;obtain ⟨x5,rfl,_⟩:=Jt4 Tryz.underlying3 k5;obtain ⟨x6,rfl,_⟩:=Jt4 Tryz.underlying3 k6;obtain ⟨x7,rfl,_⟩:=Jxc Tryz.underlying9 k7;obtain ⟨x8,rfl,h8⟩:=Jxc Tryz.underlying9 k8;obtain ⟨x9,rfl⟩:=J5g Tryz.underlying4 k9;obtain ⟨x10,rfl,h10⟩:=Jt4 Tryz.underlying3 k10;have e1:IntKind.i64.min = -9223372036854775808:=by decide
  have e2:IntKind.i64.max=9223372036854775807:=by decide
  unfold IntKind.has at h10;exact ⟨⟨x0,x1,x2,x3,x4,⟨x5,x6,x7,x8,x9,x10⟩⟩,rfl,⟨h3,h2,h8,by simp only;omega,by simp only;omega⟩⟩
theorem argInt {W:World} {b:Nat} {v:Value} (h:Value.okWide Tryz.prog W .any b 3 v):∃ n:Int,v=.int .i64 n∧IntKind.i64.has n:=by
 simp only [Value.okWide,Tryz.underlying3] at h;exact Jt4 Tryz.underlying3 h
theorem J34 {β:Env} {w:World} {Im:Nat→Prop} (n:YRow):LRep β w Im (.agg ⟨n.vals⟩) (.p (.agg n.cells)):=by
 refine PRep.agg _ _ rfl (by simp [YRow.cells,PV.scalar]) fun i v p hv hp=>?_
 have h:=J3j w Im n i p hp
 rwa [List.getD_eq_getElem?_getD,hv] at h
theorem J12 {W:World} (h:laidMetH Tryz.prog Rows.termTellsRow.laid W):QuoteG W (Ja W):=Jdp h
end Go.LX
namespace Go.LX
open Go Go.RowKit Go.Proofs
attribute [local irreducible] Al SWP Bi
theorem J1c (v u:List YRow) (hv:FiFit v) (hu:FiFit u):Det cx 3 [.p (.sl (rowL v)),.p (.sl (rowL u))] [] (.p (.bool true)) []:=by
 have hS1:=J1h v 30 omg (by have:=hv.len;omega) hv.row;have hS2:=J1h u 30 omg (by have:=hu.len;omega) hu.row;cases b1:Jrt v 30 with
 | false =>
  rw [b1] at hS1;(refine bgo Tryz.func3 ?_;simp only [go_sem,simprocAttr]);(repeat' (first | ((first | (refine Jqa (hS1) ?_)|(refine Jqa (Jq1) ?_));simp only [go_sem,simprocAttr]) | fail))
 | true =>
 cases b2:Jrt u 30 with
 | false =>
  rw [b1] at hS1;rw [b2] at hS2;(refine bgo Tryz.func3 ?_;simp only [go_sem,simprocAttr]);(repeat' (first | ((first | (refine Jqa (hS1) ?_)|(refine Jqa (hS2) ?_)|(refine Jqa (Jq1) ?_));simp only [go_sem,simprocAttr]) | fail))
 | true =>
 rw [b1] at hS1;rw [b2] at hS2;obtain ⟨l1,s1⟩:=Ju7 hv b1;obtain ⟨l2,s2⟩:=Ju7 hu b2;have hR:=Jwm v omg (fun n hn=>Jy4 (s1 n hn));have hF:=Js8 v omg (fun n hn=>Jy4 (s1 n hn));have hA:=Jxf v u omg omg;have hB:=Jxd v u omg omg;generalize decide (v=u)=b at hA hB;cases b3:Jq9 v with
 | false =>
  rw [b3] at hR hF;(refine bgo Tryz.func3 ?_;simp only [go_sem,simprocAttr]);(repeat' (first | ((first | (refine Jqa (hS1) ?_)|(refine Jqa (hS2) ?_)|(refine Jqa (Jq1) ?_)|(refine Jqa (hR) ?_)|(refine Jqa (hF) ?_)|(refine Jqa (hA) ?_)|(refine Jqa (hB) ?_));simp only [go_sem,simprocAttr]) | fail))
 | true =>
 rw [b3] at hR hF;obtain ⟨⟨k,s,g,c,kids⟩,ho,hc,rfl⟩:=Jrr.1 b3;have hfq:=Jvr _ [] ho s1;have hT1:=Jti 100 omg _ [] ho hfq omg;have hT2:=Jzx 100 omg _ [] ho hfq omg;have hkn:kids.enc.length≤30:=by rw [Jqk,List.length_cons] at l1;omega
 have hP1:=Jua [] k s g c kids omg;have hP2:=Jt9 [] k s g c kids omg;have hll:=Jqx kids;have hle:=Jqz kids;generalize rowL ((RT.mk k s g c kids).enc [])=rows at *
 (refine bgo Tryz.func3 ?_;simp only [go_sem,simprocAttr]);(repeat' (first | ((first | (refine Jqa (hS1) ?_)|(refine Jqa (hS2) ?_)|(refine Jqa (hR) ?_)|(refine Jqa (hF) ?_)|(refine Jqa (hA) ?_)|(refine Jqa (hB) ?_)|(refine Jqa (hP1) ?_)|(refine Jqa (hP2) ?_)|(refine Jqa (hT1) ?_)|(refine Jqa (hT2) ?_));simp only [go_sem,simprocAttr,Jqv]) | fail));refine SWP.loop (fun i:Nat=>⟨Ba 82 [(0,.p (.sl rows)),(6,.p (.sl (Jqq kids.list))),(7,.p (.sl (Jqq kids.list))),(8,.p (.int .i64 i))],[]⟩) (fun i=>i≤kids.len) (fun i=>kids.len - i) 0 Jqe (Nat.zero_le _) ?_;intro i hi;by_cases hlt:i<kids.len
 ·have c1:((i:Int)<(kids.list.length:Int))=True:=eq_true omg;obtain ⟨p,hp⟩:∃ p,kids.list[i]? = some p:=⟨_,List.getElem?_eq_getElem omg⟩
  have hpm:=List.mem_of_getElem? hp;have hgp:(Jqq kids.list)[i]? = some [.sl (rowL (p.2.enc []))]:=by unfold Jqq;rw [List.getElem?_map,hp];rfl
  obtain ⟨g1,g2,g3⟩:=Jru.1 ho;have hop:=Juf.1 g3 p hpm;rw [fitQ] at hfq;obtain ⟨f1,f2⟩:=Jts hfq.2 hpm;have hpl:(p.2.enc []).length≤30:=by have:=Jsn hpm;rw [Jrk] at this;omega
  have hX1:=Jti 100 omg p.2 [] hop f2 omg;have hX2:=Jzx 100 omg p.2 [] hop f2 omg;have hSa:=Jxd (p.2.enc []) (p.2.enc []) omg omg;rw [decide_eq_true rfl] at hSa;have w1:=wj1 (i:=i) omg;(refine lws ?_;simp only [go_sem,simprocAttr,Jqv,c1]);(repeat' (first | ((first | (refine Jqi ?_)|(refine Jqb (hX1) ?_)|(refine Jqb (hX2) ?_)|(refine Jqb (hSa) ?_));simp only [go_sem,simprocAttr,hgp,w1]) | fail));exact ⟨i+1,by omega,by omega,Jqe⟩
 ·obtain rfl:i=kids.len:=by omega
  have c1:((kids.len:Int)<(kids.list.length:Int))=False:=eq_false omg;(refine lws ?_;simp only [go_sem,simprocAttr,Jqv,c1]);(repeat' (first | ((refine Jqa (Jq1) ?_);simp only [go_sem,simprocAttr]) | fail))
theorem J10 (v u:List YRow) (hv:FiFit v) (hu:FiFit u):Det cx 4 [.p (.sl (rowL v)),.p (.sl (rowL u))] [] (.p (.bool true)) []:=by
 have hS1:=Jtz v 30 omg (by have:=hv.len;omega) hv.row;have hS2:=Jtz u 30 omg (by have:=hu.len;omega) hu.row;cases b1:Jsx v 30 with
 | false =>
  rw [b1] at hS1;(refine bgo Tryz.func4 ?_;simp only [go_sem,simprocAttr]);(repeat' (first | ((first | (refine Jqa (hS1) ?_)|(refine Jqa (Jq1) ?_));simp only [go_sem,simprocAttr]) | fail))
 | true =>
 cases b2:Jsx u 30 with
 | false =>
  rw [b1] at hS1;rw [b2] at hS2;(refine bgo Tryz.func4 ?_;simp only [go_sem,simprocAttr]);(repeat' (first | ((first | (refine Jqa (hS1) ?_)|(refine Jqa (hS2) ?_)|(refine Jqa (Jq1) ?_));simp only [go_sem,simprocAttr]) | fail))
 | true =>
 rw [b1] at hS1;rw [b2] at hS2;obtain ⟨t,ho1,hc1,rfl,l1,f1,e1⟩:=Jsa hv b1;obtain ⟨x,ho2,hc2,rfl,l2,f2,e2⟩:=Jsa hu b2;have hA:=Jtw x omg t ho1 hc1 omg;have hB:=J7b x omg t ho1 hc1 omg;have hpl:=Jtu (u:=x) ho1 hc1;have hSa:=Jxd ((Jq2 t x).enc []) ((Jq2 t x).enc []) omg omg;rw [decide_eq_true rfl] at hSa;(refine bgo Tryz.func4 ?_;simp only [go_sem,simprocAttr]);(repeat' (first | ((first | (refine Jqa (hS1) ?_)|(refine Jqa (hS2) ?_)|(refine Jqa (Jq1) ?_)|(refine Jqa (hA) ?_)|(refine Jqa (hB) ?_)|(refine Jqa (hSa) ?_));simp only [go_sem,simprocAttr]) | fail))
theorem J2r (v u w:List YRow) (hv:FiFit v) (hu:FiFit u) (hw:FiFit w):Det cx 5 [.p (.sl (rowL v)),.p (.sl (rowL u)),.p (.sl (rowL w))] [] (.p (.bool true)) []:=by
 have hS1:=Jtz v 30 omg (by have:=hv.len;omega) hv.row;have hS2:=Jtz u 30 omg (by have:=hu.len;omega) hu.row;have hS3:=Jtz w 30 omg (by have:=hw.len;omega) hw.row;cases b1:Jsx v 30 with
 | false =>
  rw [b1] at hS1;(refine bgo Tryz.func5 ?_;simp only [go_sem,simprocAttr]);(repeat' (first | ((first | (refine Jqa (hS1) ?_)|(refine Jqa (Jq1) ?_));simp only [go_sem,simprocAttr]) | fail))
 | true =>
 cases b2:Jsx u 30 with
 | false =>
  rw [b1] at hS1;rw [b2] at hS2;(refine bgo Tryz.func5 ?_;simp only [go_sem,simprocAttr]);(repeat' (first | ((first | (refine Jqa (hS1) ?_)|(refine Jqa (hS2) ?_)|(refine Jqa (Jq1) ?_));simp only [go_sem,simprocAttr]) | fail))
 | true =>
 cases b3:Jsx w 30 with
 | false =>
  rw [b1] at hS1;rw [b2] at hS2;rw [b3] at hS3;(refine bgo Tryz.func5 ?_;simp only [go_sem,simprocAttr]);(repeat' (first | ((first | (refine Jqa (hS1) ?_)|(refine Jqa (hS2) ?_)|(refine Jqa (hS3) ?_)|(refine Jqa (Jq1) ?_));simp only [go_sem,simprocAttr]) | fail))
 | true =>
 rw [b1] at hS1;rw [b2] at hS2;rw [b3] at hS3;obtain ⟨t,ho1,hc1,rfl,l1,f1,e1⟩:=Jsa hv b1;obtain ⟨x,ho2,hc2,rfl,l2,f2,e2⟩:=Jsa hu b2;obtain ⟨y,ho3,hc3,rfl,l3,f3,e3⟩:=Jsa hw b3;have hpl:=Jtu (u:=x) ho1 hc1;have hpo:=J3m ho1 hc1 ho2 hc2;have hpc:¬ Jqj (Jq2 t x).kind:=by rw [Jzm];decide
 have hpf:=J48 ho1 hc1 f1 f2;have hpl2:=Jtu (u:=y) ho2 hc2;have hpo2:=J3m ho2 hc2 ho3 hc3;have hA:=Jtw x omg t ho1 hc1 omg;have hA2:=Jtw y omg (Jq2 t x) hpo hpc omg;have hA3:=Jtw y omg x ho2 hc2 omg;have hA4:=Jtw (Jq2 x y) omg t ho1 hc1 omg;rw [J2w ho1 hc1] at hA2;have hpl4:=Jtu (u:=Jq2 x y) ho1 hc1;have hR:=Jwm ((Jq2 t x).enc []) omg (Jtv _ [] sm hpf);rw [show Jq9 ((Jq2 t x).enc [])=true from Jrr.2 (Jr3.2 ⟨hpo,hpc⟩)] at hR;have hT:=Jti 100 omg (Jq2 t x) [] hpo hpf omg;rw [J4p ho1 hc1] at hT;have hT1:=Jti 100 omg t [] ho1 f1 omg;have hT2:=Jti 100 omg x [] ho2 f2 omg;have hq1:=Jre t f1 [];have hq2:=Jre x f2 [];have hSa:=Jxd ((Jq2 t (Jq2 x y)).enc []) ((Jq2 t (Jq2 x y)).enc []) omg omg;rw [decide_eq_true rfl] at hSa;have hq1':(Jql t).length≤63000:=by omega
 have hq2':(Jql x).length≤63000:=by omega
 have wl:IntKind.i64.wrap (((t.enc []).length:Int)+((x.enc []).length:Int))=(((t.enc []).length+(x.enc []).length:Nat):Int):=by rw [Aa omg omg];omega
 have wl2:=wj1 (i:=(t.enc []).length+(x.enc []).length) omg;clear hq1 hq2;generalize Jql t=q1 at *
 generalize Jql x=q2 at *
 (refine bgo Tryz.func5 ?_;simp only [go_sem,simprocAttr]);(repeat' (first | (refine And.intro (by simp only [List.length_append,List.length_cons,List.length_nil];omega) ?_)|(refine Jqd ?_)|((first | (refine Jqa (hS1) ?_)|(refine Jqa (hS2) ?_)|(refine Jqa (hS3) ?_)|(refine Jqa (Jq1) ?_)|(refine Jqa (hA) ?_)|(refine Jqa (hA2) ?_)|(refine Jqa (hA3) ?_)|(refine Jqa (hA4) ?_)|(refine Jqa (hR) ?_)|(refine Jqa (hT) ?_)|(refine Jqa (hT1) ?_)|(refine Jqa (hT2) ?_)|(refine Jqa (hSa) ?_));simp only [go_sem,simprocAttr,Jqc,wl,wl2,hpl]) | fail))
theorem J1d (v:List YRow) (hv:FiFit v):Det cx 6 [.p (.sl (rowL v))] [] (.p (.bool true)) []:=by
 have hS1:=Jtz v 30 omg (by have:=hv.len;omega) hv.row;cases b1:Jsx v 30 with
 | false =>
  rw [b1] at hS1;(refine bgo Tryz.func6 ?_;simp only [go_sem,simprocAttr]);(repeat' (first | ((first | (refine Jqa (hS1) ?_)|(refine Jqa (Jq1) ?_));simp only [go_sem,simprocAttr]) | fail))
 | true =>
 rw [b1] at hS1;obtain ⟨⟨k,s,g,c,kids⟩,ho,hc,rfl,l1,f1,e1⟩:=Jsa hv b1;have hkn:kids.enc.length≤30:=by rw [Jqk,List.length_cons] at l1;omega
 have hP1:=Jua [] k s g c kids omg;have hll:=Jqx kids;have hle:=Jqz kids;have hlen:((RT.mk k s g c kids).enc []).length=kids.enc.length+1:=by rw [Jqk];rfl
 have hSa:=Jxf ((RT.mk k s g c kids).enc []) ((RT.mk k s g c kids).enc []) omg omg;rw [decide_eq_true rfl] at hSa;have hg0:(rowL ((RT.mk k s g c kids).enc []))[0]? = some [.int .i64 k,.int .i64 kids.len,.str [],.str s,.int .i64 g,.int .i64 c.kind,.int .i64 c.many,.str c.name,.str c.s,.bool c.neg,.int .i64 c.e]:=by rw [Jqk];rfl
 have hrl:(rowL ((RT.mk k s g c kids).enc [])).length=kids.enc.length+1:=by rw [Jqc,hlen]
 generalize rowL ((RT.mk k s g c kids).enc [])=rows at *
 have hpe:Jq3 0 kids.list kids.len=kids.enc.length+1:=by
  unfold Jq3;rw [List.take_of_length_le omg,Jxl];omega
 have hpb:∀ i,i≤kids.len→Jq3 0 kids.list i≤31:=fun i hi=>by
  by_cases h:i=kids.len
  ·rw [h,hpe];omega
  ·have:=Jx5 (i:=0) (l:=kids.list) (q:=i) (r:=kids.len) omg omg;omega
 (refine bgo Tryz.func6 ?_;simp only [go_sem,simprocAttr]);(repeat' (first | ((first | (refine Jqa (hS1) ?_)|(refine Jqa (hP1) ?_));simp only [go_sem,simprocAttr]) | fail));refine SWP.loop (fun i:Nat=>⟨Ba 75 [(0,.p (.sl rows)),(3,.p (.sl (Jqq kids.list))),(4,.p (.int .i64 (Jq3 0 kids.list i))),(5,.p (.int .i64 i))],[]⟩) (fun i=>i≤kids.len) (fun i=>kids.len - i) 0 (by rw [Ju6];exact Jqe) (Nat.zero_le _) ?_;intro i hi;by_cases hlt:i<kids.len
 ·have c1:((i:Int)<(kids.list.length:Int))=True:=eq_true omg;obtain ⟨⟨nm',k',s',g',c',kids'⟩,hp⟩:∃ p,kids.list[i]? = some p:=⟨_,List.getElem?_eq_getElem omg⟩
  have hpm:=List.mem_of_getElem? hp;have hgp:(Jqq kids.list)[i]? = some [.sl (rowL ((RT.mk k' s' g' c' kids').enc []))]:=by unfold Jqq;rw [List.getElem?_map,hp];rfl
  obtain ⟨g1,g2,g3⟩:=Jru.1 ho;have hop:=Juf.1 g3 _ hpm;simp only at hop;rw [fitQ] at f1;obtain ⟨f3,f2⟩:=Jts f1.2 hpm;simp only at f2;have hps:=Jt7 (i:=0) hp;simp only at hps;have hlr:=Jrk (.mk k' s' g' c' kids') nm';have hb:=hpb (i+1) omg;have hpos:=Jrj (.mk k' s' g' c' kids') [];have hW:=Jy5 ((RT.mk k' s' g' c' kids').enc []) omg (Jtv _ [] sm f2);rw [show Jsy ((RT.mk k' s' g' c' kids').enc [])=true from Jsu.2 (Jyi.2 hop)] at hW;have hF:=Js8 ((RT.mk k' s' g' c' kids').enc []) omg (Jtv _ [] sm f2);have hI:=Jz5 k' kids'.len [] s' g' c';have hgx:(rowL ((RT.mk k' s' g' c' kids').enc []))[0]? = some [.int .i64 k',.int .i64 kids'.len,.str [],.str s',.int .i64 g',.int .i64 c'.kind,.int .i64 c'.many,.str c'.name,.str c'.s,.bool c'.neg,.int .i64 c'.e]:=by rw [Jqk];rfl
  have hxl:(rowL ((RT.mk k' s' g' c' kids').enc [])).length=((RT.mk k' s' g' c' kids').enc nm').length:=by rw [Jqc,hlr]
  have hxr:Jq9 ((RT.mk k' s' g' c' kids').enc []) = !decide (Jqj k'):=by
   rw [Bool.eq_iff_iff,Jrr,Jr3];simp [hop,RT.kind]
  rw [hxr] at hF;have w1:=wj1 (i:=i) omg;have w2:IntKind.i64.wrap ((Jq3 0 kids.list i:Int)+(((RT.mk k' s' g' c' kids').enc nm').length:Int))=((Jq3 0 kids.list (i+1):Nat):Int):=by rw [Aa omg omg];omega
  have c2:((((RT.mk k' s' g' c' kids').enc nm').length:Int)=0)=False:=eq_false omg;generalize rowL ((RT.mk k' s' g' c' kids').enc [])=xs at *
  by_cases hcx:Jqj k'
  ·rw [decide_eq_true hcx] at hI hF;(refine lws ?_;simp only [go_sem,simprocAttr,Jqv,c1,hgp,hxl,w2]);(repeat' (first | ((first | (refine Jqi ?_)|(refine Jqb (hW) ?_)|(refine Jqb (hF) ?_)|(refine Jqb (hI) ?_));simp only [go_sem,simprocAttr,c2,hgp,hgx,hxl,w1,Bool.not_true]) | fail));exact ⟨i+1,by omega,by omega,Jqe⟩
  ·rw [decide_eq_false hcx] at hI hF;(refine lws ?_;simp only [go_sem,simprocAttr,Jqv,c1,hgp,hxl,w2]);(repeat' (first | ((first | (refine Jqi ?_)|(refine Jqb (hW) ?_)|(refine Jqb (hF) ?_)|(refine Jqb (hI) ?_));simp only [go_sem,simprocAttr,c2,hgp,hgx,hxl,w1,Bool.not_false]) | fail));exact ⟨i+1,by omega,by omega,Jqe⟩
 ·obtain rfl:i=kids.len:=by omega
  have c1:((kids.len:Int)<(kids.list.length:Int))=False:=eq_false omg;(refine lws ?_;simp only [go_sem,simprocAttr,Jqv,hpe,hll]);(repeat' (first | (apply iteI <;> intro h)|(refine J0k ?_;intro b hb)|(refine Jqd ?_)|((first | (refine Jqa (Jq1) ?_)|(refine Jqa (hSa) ?_));simp only [go_sem,simprocAttr,Jqv,hrl,hg0,hll])|(exfalso;omega)))
end Go.LX
