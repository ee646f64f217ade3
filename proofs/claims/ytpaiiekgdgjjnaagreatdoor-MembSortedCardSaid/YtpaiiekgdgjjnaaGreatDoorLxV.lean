/- Membership: rows, place by place. -/
import Derived.Test.YtpaiiekgdgjjnaaGreatDoorLxU
import Derived.Test.YtpaiiekgdgjjnaaGreatDoorLxL
import Derived.Test.YtpaiiekgdgjjnaaGreatDoorProg
import Derived.Test.YtpaiiekgdgjjnaaGreatDoorLxQ
import Derived.Test.YtpaiiekgdgjjnaaGreatDoorLxT
import Derived.Test.YtpaiiekgdgjjnaaGreatDoorLxO
import Derived.Test.YtpaiiekgdgjjnaaGreatDoorLxR
import Derived.Test.YtpaiiekgdgjjnaaGreatDoorLxS
import Derived.Test.YtpaiiekgdgjjnaaGreatDoorLxN
set_option linter.unusedSimpArgs false
set_option linter.unusedVariables false
set_option linter.unusedSectionVars false
set_option linter.unnecessarySimpa false
namespace Go.LX
open Go
def idxF (b:Nat→Bool):Nat→Nat→Int
 | 0,_=>-1
 | k+1,i=>if b i=true then idxF b k (i+1) else i
def allF (b:Nat→Bool):Nat→Nat→Bool
 | 0,_=>true
 | k+1,i=>b i && allF b k (i+1)
theorem Jux {b:Nat→Bool}:∀ {k i:Nat},decide (0≤idxF b k i) = !allF b k i
 | 0,i=>rfl
 | k+1,i=>by
  rw [idxF,allF];cases b i
  ·simp
  ·simp only [if_true,Bool.true_and];exact Jux
theorem Jxs {α:Type} {P:α→Bool} {d:α}:∀ {l m:List α} {i:Nat},l.drop i=m→allF (fun j=>P (l.getD j d)) m.length i=m.all P
 | l,[],i,_=>rfl
 | l,x :: m,i,h=>by
  have hx:l.getD i d=x:=by
   have:=congrArg (·[0]?) h;simp only [List.getElem?_drop,Nat.add_zero,List.getElem?_cons_zero] at this;rw [List.getD_eq_getElem?_getD,this];rfl
  rw [List.length_cons,allF,List.all_cons,hx,Jxs (l:=l) (m:=m) (i:=i+1) (by rw [← List.drop_drop,h];rfl)]
def keyK (t:Tree):List UInt8:=match entK t with
 | some p=>p.1
 | none=>[]
def kd0:KT:=([],.mk 0 [] false 0 .nil)
def entB (P:Tree→Bool) (l:List KT) (i:Nat):Bool:=match entK (l.getD i kd0).2 with
 | none=>false
 | some (key,x)=>(if i=0 then true else Op.bytesLess (keyK (l.getD (i - 1) kd0).2) key) && P x
theorem Jui {α:Type} {l:List α} {i:Nat} {x d:α} (h:l[i]? = some x):l.getD i d=x:=by rw [List.getD_eq_getElem?_getD,h];rfl
theorem J4y {P:Tree→Bool} {l:List KT}:∀ {m:List KT} {i:Nat} {last:Option (List UInt8)},l.drop i=m→last=(if i=0 then none else some (keyK (l.getD (i - 1) kd0).2))→allF (entB P l) m.length i=entS P last m
 | [],i,last,_,_=>by rw [entS];rfl
 | q :: m,i,last,h,hl=>by
  have hq:l.getD i kd0=q:=Jui (by have:=congrArg (·[0]?) h;simpa using this);rw [List.length_cons,allF,entS,entB,hq];cases hk:entK q.2 with
  | none=>rfl
  | some p =>
   obtain ⟨key,x⟩:=p;simp only;have ih:=J4y (P:=P) (l:=l) (m:=m) (i:=i+1) (last:=some key) (by rw [← List.drop_drop,h];rfl) (by simp only [Nat.add_one_ne_zero,if_false,Nat.add_sub_cancel];rw [hq,keyK,hk]);rw [ih,Bool.and_assoc];congr 1;subst hl;unfold Jtg;by_cases h0:i=0
   ·rw [if_pos h0,if_pos h0]
   ·rw [if_neg h0,if_neg h0]
def grpH (s:List UInt8) (q:KT):Tree:=Jv2 (Jrt s q.2.kids.list)
def grpB (P:Tree→Bool) (s:List UInt8) (l:List KT) (i:Nat):Bool :=
 Jsd P (l.getD i kd0) && (((Jrt s (l.getD i kd0).2.kids.list).all fun k=>Jv4 k (grpH s (l.getD i kd0))) && (if i=0 then true else decide (cmpT (grpH s (l.getD (i - 1) kd0)) (grpH s (l.getD i kd0))<0)))
theorem J04 {P:Tree→Bool} {s:List UInt8} {l:List KT}:∀ {m:List KT} {i:Nat} {last:Option Tree},l.drop i=m→last=(if i=0 then none else some (grpH s (l.getD (i - 1) kd0)))→allF (grpB P s l) m.length i=Jtv P s last m
 | [],i,last,_,_=>by rw [Jtv];rfl
 | q :: m,i,last,h,hl=>by
  have hq:l.getD i kd0=q:=Jui (by have:=congrArg (·[0]?) h;simpa using this);rw [List.length_cons,allF,Jtv,grpB,hq];have ih:=J04 (P:=P) (s:=s) (l:=l) (m:=m) (i:=i+1) (last:=some (grpH s q)) (by rw [← List.drop_drop,h];rfl) (by simp only [Nat.add_one_ne_zero,if_false,Nat.add_sub_cancel];rw [hq]);rw [ih,Bool.and_assoc,Bool.and_assoc];congr 3;subst hl;unfold Jy9;by_cases h0:i=0
  ·rw [if_pos h0,if_pos h0]
  ·rw [if_neg h0,if_neg h0];rfl
def objB (kids:List KT) (rows:List RKT) (i:Nat):Bool:=match rows[i]? with
 | some r=>Jw2 kids r.1 (inTy r.2)
 | none=>true
theorem J36 {kids:List KT} {rows:List RKT}:∀ {m:List RKT} {i:Nat},rows.drop i=m→allF (objB kids rows) m.length i=objS kids m (m.map fun p=>inTy p.2)
 | [],i,_=>by rw [List.map_nil,objS];rfl;simp
 | r :: m,i,h=>by
  have hr:rows[i]? = some r:=by have:=congrArg (·[0]?) h;simpa using this
  rw [List.length_cons,allF,List.map_cons,objS,objB,hr,J36 (m:=m) (i:=i+1) (by rw [← List.drop_drop,h];rfl)]
end Go.LX
namespace Go.LX
open Go Go.Proofs
@[go_sem] theorem f_a60:B2 Tryz.prog 60=some false:=krf
@[go_sem] theorem f_c60:Tryz.prog.cellsOf 60=1:=krf
@[go_sem] theorem f_a111:B2 Tryz.prog 111=some false:=krf
@[go_sem] theorem f_c111:Tryz.prog.cellsOf 111=1:=krf
end Go.LX
set_option maxRecDepth 100000
set_option maxHeartbeats 2000000
namespace Go.LX
open Go Go.RowKit Go.Proofs
attribute [local irreducible] Al SWP Bi
theorem J50 (g:FuncId) (hk:cx.kind g=0) (T0:TypeId) (x:PV) (c0 d0:PV) (b:Bool) (h:Det cx g [.p x,.ptr 1000 0 0] [(1000,.var T0 [.p c0])] (.p (.bool b)) [(1000,.var T0 [.p d0])]) :
  Det cx 140 [.p x,.ptr 1000 0 0] [(1000,.var 60 [.fn g [1001]]),(1001,.var T0 [.p c0])] (.p (.bool (!b))) [(1000,.var 60 [.fn g [1001]]),(1001,.var T0 [.p d0])]:=by
 (refine bgo Tryz.func140 ?_;simp only [go_sem,simprocAttr,hk]);(repeat' (first | ((refine Jqa (h) ?_);simp only [go_sem,simprocAttr]) | fail))
theorem J52 (g:FuncId) (hk:cx.kind g=0) (T0 T1 T2:TypeId) (x:PV) (c0 c1 c2 d0 d1 d2:PV) (b:Bool) (h:Det cx g [.p x,.ptr 1000 0 0,.ptr 1001 0 0,.ptr 1002 0 0] [(1000,.var T0 [.p c0]),(1001,.var T1 [.p c1]),(1002,.var T2 [.p c2])] (.p (.bool b)) [(1000,.var T0 [.p d0]),(1001,.var T1 [.p d1]),(1002,.var T2 [.p d2])]) :
  Det cx 140 [.p x,.ptr 1000 0 0] [(1000,.var 60 [.fn g [1001,1002,1003]]),(1001,.var T0 [.p c0]),(1002,.var T1 [.p c1]),(1003,.var T2 [.p c2])] (.p (.bool (!b))) [(1000,.var 60 [.fn g [1001,1002,1003]]),(1001,.var T0 [.p d0]),(1002,.var T1 [.p d1]),(1003,.var T2 [.p d2])]:=by
 (refine bgo Tryz.func140 ?_;simp only [go_sem,simprocAttr,hk]);(repeat' (first | ((refine Jqa (h) ?_);simp only [go_sem,simprocAttr]) | fail))
theorem Jyr (g:FuncId) (hk:cx.kind g=0) (T0 T1 T2:TypeId) (es:List (List PV)) (h1:∀ q∈es,∃ x,q=[x]) (hl:es.length≤1000000) (c0:Nat→PV) (c1:Nat→PV) (c2:Nat→PV) (b:Nat→Bool) (Pre:Nat→Prop) (h0:Pre 0) (hc:∀ (i:Nat) (x:PV),es[i]? = some [x]→Pre i→∃ d0 d1 d2,Det cx g [.p x,.ptr 1000 0 0,.ptr 1001 0 0,.ptr 1002 0 0] [(1000,.var T0 [.p (c0 i)]),(1001,.var T1 [.p (c1 i)]),(1002,.var T2 [.p (c2 i)])] (.p (.bool (b i))) [(1000,.var T0 [.p d0]),(1001,.var T1 [.p d1]),(1002,.var T2 [.p d2])]∧(b i=true→d0=c0 (i+1)∧d1=c1 (i+1)∧d2=c2 (i+1)∧Pre (i+1))) :
  Det cx 209 [.p (.sl es),.fn 140 [1000]] [(1000,.var 60 [.fn g [1001,1002,1003]]),(1001,.var T0 [.p (c0 0)]),(1002,.var T1 [.p (c1 0)]),(1003,.var T2 [.p (c2 0)])] (.p (.int .i64 (idxF b es.length 0))) []:=by
 refine Al.sub (Post:=fun m _=>m=.p (.int .i64 (idxF b es.length 0))) ?_ (fun m q hm=>⟨[],List.nil_sublist _,hm,rfl⟩);(refine bgo Tryz.func209 ?_;simp only [go_sem,simprocAttr]);refine SWP.loop (fun i:Nat=>⟨Ba 19 [(0,.p (.sl es)),(1,.fn 140 [1000]),(7,.p (.int .i64 es.length)),(8,.p (.int .i64 i))],[(1000,.var 60 [.fn g [1001,1002,1003]]),(1001,.var T0 [.p (c0 i)]),(1002,.var T1 [.p (c1 i)]),(1003,.var T2 [.p (c2 i)])]⟩) (fun i=>i≤es.length∧Pre i∧idxF b es.length 0=idxF b (es.length - i) i) (fun i=>es.length - i) 0 Jqb ⟨Nat.zero_le _,h0,rfl⟩ ?_;rintro i ⟨h2,h3,h4⟩;by_cases hi:¬ i<es.length
 ·have c9:((i:Int)<(es.length:Int))=False:=eq_false omg;rw [show es.length - i=0 by omega,idxF] at h4;(refine lws ?_;simp only [go_sem,simprocAttr,c9]);rw [h4]
 ·have hi:=Decidable.not_not.1 hi;have c9:((i:Int)<(es.length:Int))=True:=eq_true omg;obtain ⟨q,hq⟩:∃ q,es[i]? = some q:=⟨_,List.getElem?_eq_getElem hi⟩
  obtain ⟨x,rfl⟩:=h1 q (List.mem_of_getElem? hq);obtain ⟨d0,d1,d2,hd,hb⟩:=hc i x hq h3;obtain ⟨k,hk1⟩:∃ k,es.length - i=k+1:=⟨es.length - i - 1,by omega⟩
  rw [hk1,idxF] at h4;have hA:=J52 g hk T0 T1 T2 x (c0 i) (c1 i) (c2 i) d0 d1 d2 (b i) hd;cases hbi:b i with
  | false =>
   rw [hbi] at hA h4;(refine lws ?_;simp only [go_sem,simprocAttr,c9,hq]);(repeat' (first | ((refine Jqa (hA) ?_);simp only [go_sem,simprocAttr,Bool.not_false]) | fail));rw [h4];rfl
  | true =>
   obtain ⟨rfl,rfl,rfl,hp⟩:=hb hbi;rw [hbi,if_pos rfl] at h4;rw [hbi] at hA;(refine lws ?_;simp only [go_sem,simprocAttr,c9,hq,wj1 (i:=i) omg]);(repeat' (first | ((refine Jqa (hA) ?_);simp only [go_sem,simprocAttr,wj1 (i:=i) omg,Bool.not_true]) | fail));exact ⟨i+1,⟨by omega,hp,by rw [h4,show es.length - (i+1)=k by omega]⟩,by omega,Jqb⟩
theorem Jwd (g:FuncId) (hk:cx.kind g=0) (T0 T1 T2:TypeId) (es:List (List PV)) (h1:∀ q∈es,∃ x,q=[x]) (hl:es.length≤1000000) (c0:Nat→PV) (c1:Nat→PV) (c2:Nat→PV) (b:Nat→Bool) (Pre:Nat→Prop) (h0:Pre 0) (hc:∀ (i:Nat) (x:PV),es[i]? = some [x]→Pre i→∃ d0 d1 d2,Det cx g [.p x,.ptr 1000 0 0,.ptr 1001 0 0,.ptr 1002 0 0] [(1000,.var T0 [.p (c0 i)]),(1001,.var T1 [.p (c1 i)]),(1002,.var T2 [.p (c2 i)])] (.p (.bool (b i))) [(1000,.var T0 [.p d0]),(1001,.var T1 [.p d1]),(1002,.var T2 [.p d2])]∧(b i=true→d0=c0 (i+1)∧d1=c1 (i+1)∧d2=c2 (i+1)∧Pre (i+1))) :
  Det cx 139 [.p (.sl es),.fn 140 [1000]] [(1000,.var 60 [.fn g [1001,1002,1003]]),(1001,.var T0 [.p (c0 0)]),(1002,.var T1 [.p (c1 0)]),(1003,.var T2 [.p (c2 0)])] (.p (.bool (!allF b es.length 0))) []:=by
 refine Al.sub (Post:=fun m _=>m=.p (.bool (!allF b es.length 0))) ?_ (fun m q hm=>⟨[],List.nil_sublist _,hm,rfl⟩);have hI:=Jyr g hk T0 T1 T2 es h1 hl c0 c1 c2 b Pre h0 hc;(refine bgo Tryz.func139 ?_;simp only [go_sem,simprocAttr]);(repeat' (first | ((refine Jqa (hI) ?_);simp only [go_sem,simprocAttr]) | fail));rw [← Jux]
theorem J1q (g:FuncId) (hk:cx.kind g=0) (T0 T1 T2:TypeId) (es:List (List PV)) (h1:∀ q∈es,∃ x,q=[x]) (hl:es.length≤1000000) (c0:Nat→PV) (c1:Nat→PV) (c2:Nat→PV) (b:Nat→Bool) (Pre:Nat→Prop) (h0:Pre 0) (hc:∀ (i:Nat) (x:PV),es[i]? = some [x]→Pre i→∃ d0 d1 d2,Det cx g [.p x,.ptr 1000 0 0,.ptr 1001 0 0,.ptr 1002 0 0] [(1000,.var T0 [.p (c0 i)]),(1001,.var T1 [.p (c1 i)]),(1002,.var T2 [.p (c2 i)])] (.p (.bool (b i))) [(1000,.var T0 [.p d0]),(1001,.var T1 [.p d1]),(1002,.var T2 [.p d2])]∧(b i=true→d0=c0 (i+1)∧d1=c1 (i+1)∧d2=c2 (i+1)∧Pre (i+1))) :
  Det cx 58 [.p (.sl es),.fn g [1000,1001,1002]] [(1000,.var T0 [.p (c0 0)]),(1001,.var T1 [.p (c1 0)]),(1002,.var T2 [.p (c2 0)])] (.p (.bool (allF b es.length 0))) []:=by
 refine Al.sub (Post:=fun m _=>m=.p (.bool (allF b es.length 0))) ?_ (fun m q hm=>⟨[],List.nil_sublist _,hm,rfl⟩);have hI:=Jwd g hk T0 T1 T2 es h1 hl c0 c1 c2 b Pre h0 hc;(refine bgo Tryz.func58 ?_;simp only [go_sem,simprocAttr]);(repeat' (first | ((refine Jqa (hI) ?_);simp only [go_sem,simprocAttr]) | fail))
 all_goals (cases allF b es.length 0 <;> rfl)
theorem J35 (g:FuncId) (hk:cx.kind g=0) (T0 T1 T2:TypeId) (x:PV) (c0 c1 c2 d0 d1 d2:PV) (b:Bool) (h:Det cx g [.p x,.ptr 1000 0 0,.ptr 1001 0 0,.ptr 1002 0 0] [(1000,.var T0 [.p c0]),(1001,.var T1 [.p c1]),(1002,.var T2 [.p c2])] (.p (.bool b)) [(1000,.var T0 [.p d0]),(1001,.var T1 [.p d1]),(1002,.var T2 [.p d2])]) :
  Det cx 207 [.p x,.ptr 1000 0 0] [(1000,.var 111 [.fn g [1001,1002,1003]]),(1001,.var T0 [.p c0]),(1002,.var T1 [.p c1]),(1003,.var T2 [.p c2])] (.p (.bool (!b))) [(1000,.var 111 [.fn g [1001,1002,1003]]),(1001,.var T0 [.p d0]),(1002,.var T1 [.p d1]),(1003,.var T2 [.p d2])]:=by
 (refine bgo Tryz.func207 ?_;simp only [go_sem,simprocAttr,hk]);(repeat' (first | ((refine Jqa (h) ?_);simp only [go_sem,simprocAttr]) | fail))
theorem Jxk (g:FuncId) (hk:cx.kind g=0) (T0 T1 T2:TypeId) (es:List (List PV)) (h1:∀ q∈es,∃ x,q=[x]) (hl:es.length≤1000000) (c0:Nat→PV) (c1:Nat→PV) (c2:Nat→PV) (b:Nat→Bool) (Pre:Nat→Prop) (h0:Pre 0) (hc:∀ (i:Nat) (x:PV),es[i]? = some [x]→Pre i→∃ d0 d1 d2,Det cx g [.p x,.ptr 1000 0 0,.ptr 1001 0 0,.ptr 1002 0 0] [(1000,.var T0 [.p (c0 i)]),(1001,.var T1 [.p (c1 i)]),(1002,.var T2 [.p (c2 i)])] (.p (.bool (b i))) [(1000,.var T0 [.p d0]),(1001,.var T1 [.p d1]),(1002,.var T2 [.p d2])]∧(b i=true→d0=c0 (i+1)∧d1=c1 (i+1)∧d2=c2 (i+1)∧Pre (i+1))) :
  Det cx 250 [.p (.sl es),.fn 207 [1000]] [(1000,.var 111 [.fn g [1001,1002,1003]]),(1001,.var T0 [.p (c0 0)]),(1002,.var T1 [.p (c1 0)]),(1003,.var T2 [.p (c2 0)])] (.p (.int .i64 (idxF b es.length 0))) []:=by
 refine Al.sub (Post:=fun m _=>m=.p (.int .i64 (idxF b es.length 0))) ?_ (fun m q hm=>⟨[],List.nil_sublist _,hm,rfl⟩);(refine bgo Tryz.func250 ?_;simp only [go_sem,simprocAttr]);refine SWP.loop (fun i:Nat=>⟨Ba 19 [(0,.p (.sl es)),(1,.fn 207 [1000]),(7,.p (.int .i64 es.length)),(8,.p (.int .i64 i))],[(1000,.var 111 [.fn g [1001,1002,1003]]),(1001,.var T0 [.p (c0 i)]),(1002,.var T1 [.p (c1 i)]),(1003,.var T2 [.p (c2 i)])]⟩) (fun i=>i≤es.length∧Pre i∧idxF b es.length 0=idxF b (es.length - i) i) (fun i=>es.length - i) 0 Jqb ⟨Nat.zero_le _,h0,rfl⟩ ?_;rintro i ⟨h2,h3,h4⟩;by_cases hi:¬ i<es.length
 ·have c9:((i:Int)<(es.length:Int))=False:=eq_false omg;rw [show es.length - i=0 by omega,idxF] at h4;(refine lws ?_;simp only [go_sem,simprocAttr,c9]);rw [h4]
 ·have hi:=Decidable.not_not.1 hi;have c9:((i:Int)<(es.length:Int))=True:=eq_true omg;obtain ⟨q,hq⟩:∃ q,es[i]? = some q:=⟨_,List.getElem?_eq_getElem hi⟩
  obtain ⟨x,rfl⟩:=h1 q (List.mem_of_getElem? hq);obtain ⟨d0,d1,d2,hd,hb⟩:=hc i x hq h3;obtain ⟨k,hk1⟩:∃ k,es.length - i=k+1:=⟨es.length - i - 1,by omega⟩
  rw [hk1,idxF] at h4;have hA:=J35 g hk T0 T1 T2 x (c0 i) (c1 i) (c2 i) d0 d1 d2 (b i) hd;cases hbi:b i with
  | false =>
   rw [hbi] at hA h4;(refine lws ?_;simp only [go_sem,simprocAttr,c9,hq]);(repeat' (first | ((refine Jqa (hA) ?_);simp only [go_sem,simprocAttr,Bool.not_false]) | fail));rw [h4];rfl
  | true =>
   obtain ⟨rfl,rfl,rfl,hp⟩:=hb hbi;rw [hbi,if_pos rfl] at h4;rw [hbi] at hA;(refine lws ?_;simp only [go_sem,simprocAttr,c9,hq,wj1 (i:=i) omg]);(repeat' (first | ((refine Jqa (hA) ?_);simp only [go_sem,simprocAttr,wj1 (i:=i) omg,Bool.not_true]) | fail));exact ⟨i+1,⟨by omega,hp,by rw [h4,show es.length - (i+1)=k by omega]⟩,by omega,Jqb⟩
theorem Jvw (g:FuncId) (hk:cx.kind g=0) (T0 T1 T2:TypeId) (es:List (List PV)) (h1:∀ q∈es,∃ x,q=[x]) (hl:es.length≤1000000) (c0:Nat→PV) (c1:Nat→PV) (c2:Nat→PV) (b:Nat→Bool) (Pre:Nat→Prop) (h0:Pre 0) (hc:∀ (i:Nat) (x:PV),es[i]? = some [x]→Pre i→∃ d0 d1 d2,Det cx g [.p x,.ptr 1000 0 0,.ptr 1001 0 0,.ptr 1002 0 0] [(1000,.var T0 [.p (c0 i)]),(1001,.var T1 [.p (c1 i)]),(1002,.var T2 [.p (c2 i)])] (.p (.bool (b i))) [(1000,.var T0 [.p d0]),(1001,.var T1 [.p d1]),(1002,.var T2 [.p d2])]∧(b i=true→d0=c0 (i+1)∧d1=c1 (i+1)∧d2=c2 (i+1)∧Pre (i+1))) :
  Det cx 206 [.p (.sl es),.fn 207 [1000]] [(1000,.var 111 [.fn g [1001,1002,1003]]),(1001,.var T0 [.p (c0 0)]),(1002,.var T1 [.p (c1 0)]),(1003,.var T2 [.p (c2 0)])] (.p (.bool (!allF b es.length 0))) []:=by
 refine Al.sub (Post:=fun m _=>m=.p (.bool (!allF b es.length 0))) ?_ (fun m q hm=>⟨[],List.nil_sublist _,hm,rfl⟩);have hI:=Jxk g hk T0 T1 T2 es h1 hl c0 c1 c2 b Pre h0 hc;(refine bgo Tryz.func206 ?_;simp only [go_sem,simprocAttr]);(repeat' (first | ((refine Jqa (hI) ?_);simp only [go_sem,simprocAttr]) | fail));rw [← Jux]
theorem J6r (g:FuncId) (hk:cx.kind g=0) (T0 T1 T2:TypeId) (es:List (List PV)) (h1:∀ q∈es,∃ x,q=[x]) (hl:es.length≤1000000) (c0:Nat→PV) (c1:Nat→PV) (c2:Nat→PV) (b:Nat→Bool) (Pre:Nat→Prop) (h0:Pre 0) (hc:∀ (i:Nat) (x:PV),es[i]? = some [x]→Pre i→∃ d0 d1 d2,Det cx g [.p x,.ptr 1000 0 0,.ptr 1001 0 0,.ptr 1002 0 0] [(1000,.var T0 [.p (c0 i)]),(1001,.var T1 [.p (c1 i)]),(1002,.var T2 [.p (c2 i)])] (.p (.bool (b i))) [(1000,.var T0 [.p d0]),(1001,.var T1 [.p d1]),(1002,.var T2 [.p d2])]∧(b i=true→d0=c0 (i+1)∧d1=c1 (i+1)∧d2=c2 (i+1)∧Pre (i+1))) :
  Det cx 131 [.p (.sl es),.fn g [1000,1001,1002]] [(1000,.var T0 [.p (c0 0)]),(1001,.var T1 [.p (c1 0)]),(1002,.var T2 [.p (c2 0)])] (.p (.bool (allF b es.length 0))) []:=by
 refine Al.sub (Post:=fun m _=>m=.p (.bool (allF b es.length 0))) ?_ (fun m q hm=>⟨[],List.nil_sublist _,hm,rfl⟩);have hI:=Jvw g hk T0 T1 T2 es h1 hl c0 c1 c2 b Pre h0 hc;(refine bgo Tryz.func131 ?_;simp only [go_sem,simprocAttr]);(repeat' (first | ((refine Jqa (hI) ?_);simp only [go_sem,simprocAttr]) | fail))
 all_goals (cases allF b es.length 0 <;> rfl)
theorem Jyt (g:FuncId) (hk:cx.kind g=0) (T0:TypeId) (c:PV) (es:List (List PV)) (h1:∀ q∈es,∃ x,q=[x]) (hl:es.length≤1000000) (b:Nat→Bool) (hc:∀ (i:Nat) (x:PV),es[i]? = some [x]→Det cx g [.p x,.ptr 1000 0 0] [(1000,.var T0 [.p c])] (.p (.bool (b i))) [(1000,.var T0 [.p c])]) :
  Det cx 209 [.p (.sl es),.fn 140 [1000]] [(1000,.var 60 [.fn g [1001]]),(1001,.var T0 [.p c])] (.p (.int .i64 (idxF b es.length 0))) [(1000,.var 60 [.fn g [1001]]),(1001,.var T0 [.p c])]:=by
 (refine bgo Tryz.func209 ?_;simp only [go_sem,simprocAttr]);refine SWP.loop (fun i:Nat=>⟨Ba 19 [(0,.p (.sl es)),(1,.fn 140 [1000]),(7,.p (.int .i64 es.length)),(8,.p (.int .i64 i))],[(1000,.var 60 [.fn g [1001]]),(1001,.var T0 [.p c])]⟩) (fun i=>i≤es.length∧idxF b es.length 0=idxF b (es.length - i) i) (fun i=>es.length - i) 0 Jqb ⟨Nat.zero_le _,rfl⟩ ?_;rintro i ⟨h2,h4⟩;by_cases hi:¬ i<es.length
 ·have c9:((i:Int)<(es.length:Int))=False:=eq_false omg;rw [show es.length - i=0 by omega,idxF] at h4;(refine lws ?_;simp only [go_sem,simprocAttr,c9]);rw [h4]
 ·have hi:=Decidable.not_not.1 hi;have c9:((i:Int)<(es.length:Int))=True:=eq_true omg;obtain ⟨q,hq⟩:∃ q,es[i]? = some q:=⟨_,List.getElem?_eq_getElem hi⟩
  obtain ⟨x,rfl⟩:=h1 q (List.mem_of_getElem? hq);have hd:=hc i x hq;obtain ⟨k,hk1⟩:∃ k,es.length - i=k+1:=⟨es.length - i - 1,by omega⟩
  rw [hk1,idxF] at h4;have hA:=J50 g hk T0 x c c (b i) hd;cases hbi:b i with
  | false =>
   rw [hbi] at hA h4;(refine lws ?_;simp only [go_sem,simprocAttr,c9,hq]);(repeat' (first | ((refine Jqa (hA) ?_);simp only [go_sem,simprocAttr,Bool.not_false]) | fail));rw [h4];rfl
  | true =>
   rw [hbi,if_pos rfl] at h4;rw [hbi] at hA;(refine lws ?_;simp only [go_sem,simprocAttr,c9,hq,wj1 (i:=i) omg]);(repeat' (first | ((refine Jqa (hA) ?_);simp only [go_sem,simprocAttr,wj1 (i:=i) omg,Bool.not_true]) | fail));exact ⟨i+1,⟨by omega,by rw [h4,show es.length - (i+1)=k by omega]⟩,by omega,Jqb⟩
theorem Jwc (g:FuncId) (hk:cx.kind g=0) (T0:TypeId) (c:PV) (es:List (List PV)) (h1:∀ q∈es,∃ x,q=[x]) (hl:es.length≤1000000) (b:Nat→Bool) (hc:∀ (i:Nat) (x:PV),es[i]? = some [x]→Det cx g [.p x,.ptr 1000 0 0] [(1000,.var T0 [.p c])] (.p (.bool (b i))) [(1000,.var T0 [.p c])]) :
  Det cx 139 [.p (.sl es),.fn 140 [1000]] [(1000,.var 60 [.fn g [1001]]),(1001,.var T0 [.p c])] (.p (.bool (!allF b es.length 0))) [(1000,.var 60 [.fn g [1001]]),(1001,.var T0 [.p c])]:=by
 have hI:=Jyt g hk T0 c es h1 hl b hc;(refine bgo Tryz.func139 ?_;simp only [go_sem,simprocAttr]);(repeat' (first | ((refine Jqa (hI) ?_);simp only [go_sem,simprocAttr]) | fail));rw [← Jux]
theorem Jxt (g:FuncId) (hk:cx.kind g=0) (T0:TypeId) (c:PV) (es:List (List PV)) (h1:∀ q∈es,∃ x,q=[x]) (hl:es.length≤1000000) (b:Nat→Bool) (hc:∀ (i:Nat) (x:PV),es[i]? = some [x]→Det cx g [.p x,.ptr 1000 0 0] [(1000,.var T0 [.p c])] (.p (.bool (b i))) [(1000,.var T0 [.p c])]) :
  Det cx 58 [.p (.sl es),.fn g [1000]] [(1000,.var T0 [.p c])] (.p (.bool (allF b es.length 0))) [(1000,.var T0 [.p c])]:=by
 have hI:=Jwc g hk T0 c es h1 hl b hc;(refine bgo Tryz.func58 ?_;simp only [go_sem,simprocAttr]);(repeat' (first | ((refine Jqa (hI) ?_);simp only [go_sem,simprocAttr]) | fail))
 all_goals (cases allF b es.length 0 <;> rfl)
theorem Jz8 {k:Int} {s:List UInt8} {g:Bool} {e m:Int} (h:G3 k s g e m) (hk:k<5):k=0∨k=1∨k=2∨k=3∨k=4:=by
 unfold G3 at h;split at h
 ·omega
 ·split at h
  ·omega
  ·split at h
   ·omega
   ·split at h
    ·omega
    ·exact h.elim
theorem J4r {s:List UInt8} {g:Bool} {e:Int} (h:Yz s g e):Jrk ⟨3,0,[],s,g,e⟩=true:=(J56 _).2 (Jsi h)
theorem J9h (k:Int) (s:List UInt8) (g:Bool) (e:Int) (h:G3 k s g e 0) (hk:k<5) (hs:s.length≤1000000):Det cx 247 [.p (.agg [.int .i64 k,.int .i64 0,.str [],.str s,.bool g,.int .i64 e])] [] (.p (.bool true)) []:=by
 rcases Jz8 h hk with rfl | rfl | rfl | rfl | rfl
 ·obtain ⟨rfl,rfl,rfl⟩:s=[]∧g=false∧e=0:=by simpa [G3] using h
  (refine bgo Tryz.func247 ?_;simp only [go_sem,simprocAttr])
  all_goals (first | rfl | simp)
 ·obtain ⟨rfl,rfl,rfl⟩:s=[]∧g=false∧e=0:=by simpa [G3] using h
  (refine bgo Tryz.func247 ?_;simp only [go_sem,simprocAttr])
  all_goals (first | rfl | simp)
 ·obtain ⟨rfl,rfl,rfl⟩:s=[]∧g=false∧e=0:=by simpa [G3] using h
  (refine bgo Tryz.func247 ?_;simp only [go_sem,simprocAttr])
  all_goals (first | rfl | simp)
 ·have hn:=Jtc h rfl;have hR:=J5t ⟨3,0,[],s,g,e⟩ hs;rw [J4r hn,Js3] at hR;(refine bgo Tryz.func247 ?_;simp only [go_sem,simprocAttr]);(repeat' (first | ((refine Jqa (hR) ?_);simp only [go_sem,simprocAttr]) | fail))
  all_goals (first | rfl | simp)
 ·obtain ⟨hv,rfl,rfl⟩:valid s=true∧g=false∧e=0:=by simpa [G3] using h
  have hV:=Fi s omg;rw [hv] at hV;(refine bgo Tryz.func247 ?_;simp only [go_sem,simprocAttr]);(repeat' (first | ((refine Jqa (hV) ?_);simp only [go_sem,simprocAttr]) | fail))
  all_goals (first | rfl | simp)
def stk2 (k:Int):List (List PV):=[[.int .i64 5,.int .i64 0,.bool false,.str []],[.int .i64 k,.int .i64 0,.bool true,.str []]]
theorem J0u (a:Int) (b:Bool) (c:List UInt8):Det cx 249 [.p (.agg [.int .i64 a,.int .i64 0,.bool b,.str c])] [] (.p (.bool false)) []:=by
 (refine bgo Tryz.func249 ?_;simp only [go_sem,simprocAttr])
 skip
theorem J4o (k:Int):Det cx 289 [.p (.sl (stk2 k)),.fn 249 []] [] (.p (.int .i64 (-1))) []:=by
 have hl2:(stk2 k).length=2:=rfl;(refine bgo Tryz.func289 ?_;simp only [go_sem,simprocAttr,hl2]);refine SWP.loop (fun i:Nat=>⟨Ba 19 [(0,.p (.sl (stk2 k))),(1,.fn 249 []),(7,.p (.int .i64 2)),(8,.p (.int .i64 i))],[]⟩) (fun i=>i≤2) (fun i=>2 - i) 0 Jqb (Nat.zero_le _) ?_;rintro i hi;have hcase:i=0∨i=1∨i=2:=by omega
 rcases hcase with rfl | rfl | rfl
 ·have h0:(stk2 k)[0]? = some [.int .i64 5,.int .i64 0,.bool false,.str []]:=rfl;have w0:IntKind.i64.wrap 1=1:=by decide
  (refine lws ?_;simp only [go_sem,simprocAttr,h0]);(repeat' (first | ((refine Jqa (J0u _ _ _) ?_);simp only [go_sem,simprocAttr,w0]) | fail));exact ⟨1,by omega,by omega,Jqb⟩
 ·have h0:(stk2 k)[1]? = some [.int .i64 k,.int .i64 0,.bool true,.str []]:=rfl;have w0:IntKind.i64.wrap (1+1)=2:=by decide
  have w1:IntKind.i64.wrap 2=2:=by decide
  (refine lws ?_;simp only [go_sem,simprocAttr,h0]);(repeat' (first | ((refine Jqa (J0u _ _ _) ?_);simp only [go_sem,simprocAttr,w1]) | fail));exact ⟨2,by omega,by omega,Jqb⟩
 ·(refine lws ?_;simp only [go_sem,simprocAttr])
  skip
theorem Jz1 (k:Int):Det cx 248 [.p (.sl (stk2 k)),.fn 249 []] [] (.p (.bool false)) []:=by
 (refine bgo Tryz.func248 ?_;simp only [go_sem,simprocAttr]);(repeat' (first | ((refine Jqa (J4o k) ?_);simp only [go_sem,simprocAttr]) | fail))
theorem J76 (k:Int) (s:List UInt8) (g:Bool) (e:Int) (h:G3 k s g e 0) (hk:k<5) (hs:s.length≤1000000):Det cx 201 [.p (.sl [[.int .i64 k,.int .i64 0,.str [],.str s,.bool g,.int .i64 e]])] [] (.p (.bool true)) []:=by
 have hP:=J9h k s g e h hk hs;have hC:=Jz1 k;(refine bgo Tryz.func201 ?_;simp only [go_sem,simprocAttr]);refine SWP.loop (fun i:Nat=>if i=0 then ⟨Ba 123 [(0,.p (.sl [[.int .i64 k,.int .i64 0,.str [],.str s,.bool g,.int .i64 e]])),(3,.own 9 0 1),(10,.p (.sl [[.int .i64 k,.int .i64 0,.str [],.str s,.bool g,.int .i64 e]])),(11,.p (.int .i64 1)),(12,.p (.int .i64 0))],[(9,.row 212 4 [[.int .i64 5,.int .i64 1,.bool false,.str []]])]⟩ else ⟨Ba 123 [(0,.p (.sl [[.int .i64 k,.int .i64 0,.str [],.str s,.bool g,.int .i64 e]])),(3,.own 113 0 2),(11,.p (.int .i64 1)),(12,.p (.int .i64 1))],[(113,.row 212 4 (stk2 k))]⟩) (fun i=>i≤1) (fun i=>1 - i) 0 (by rw [if_pos rfl];exact Jqb) (Nat.zero_le _) ?_;rintro i hi;have hcase:i=0∨i=1:=by omega
 rcases hcase with rfl | rfl
 ·rw [if_pos rfl];(refine lws ?_;simp only [go_sem,simprocAttr]);refine SWP.loop (fun _:Unit=>⟨Ba 123 [(0,.p (.sl [[.int .i64 k,.int .i64 0,.str [],.str s,.bool g,.int .i64 e]])),(3,.own 9 0 1),(5,.ptr 5 0 0),(10,.p (.sl [[.int .i64 k,.int .i64 0,.str [],.str s,.bool g,.int .i64 e]])),(11,.p (.int .i64 1)),(12,.p (.int .i64 0))],[(5,.var 29 [.p (.int .i64 k),.p (.int .i64 0),.p (.str []),.p (.str s),.p (.bool g),.p (.int .i64 e)]),(9,.row 212 4 [[.int .i64 5,.int .i64 1,.bool false,.str []]])]⟩) (fun _=>True) (fun _=>0) () Jqb trivial ?_;rintro _ _;have e1:((1:Nat):Int)=1:=rfl;have e2:((2:Nat):Int)=2:=rfl;have w0:IntKind.i64.wrap 0=0:=by decide
  have w1:IntKind.i64.wrap 1=1:=by decide
  have hk6:(k=6)=False:=eq_false omg;(refine lws ?_;simp only [go_sem,simprocAttr,e1,w0]);(repeat' (first | ((first | (refine Jqk ?_)|(refine Jqa (hP) ?_));simp only [go_sem,simprocAttr,e1,w0,decide_false,Bool.not_false,Bool.not_true]) | fail));refine J4m 6 [0,4,5] (.node 1 (.node 2 (.node 3 (.node 6 (.node 7 (.node 8 (.node 9 .leaf .nil) .nil) .nil) .nil) (.node 6 (.node 3 (.node 7 (.node 8 (.node 9 .leaf .nil) .nil) .nil) .nil) .nil)) (.node 6 (.node 2 (.node 3 (.node 7 (.node 8 (.node 9 .leaf .nil) .nil) .nil) .nil) .nil) .nil)) (.node 2 (.node 1 (.node 3 (.node 6 (.node 7 (.node 8 (.node 9 .leaf .nil) .nil) .nil) .nil) (.node 6 (.node 3 (.node 7 (.node 8 (.node 9 .leaf .nil) .nil) .nil) .nil) .nil)) (.node 3 (.node 1 (.node 6 (.node 7 (.node 8 (.node 9 .leaf .nil) .nil) .nil) .nil) (.node 6 (.node 1 (.node 7 (.node 8 (.node 9 .leaf .nil) .nil) .nil) .nil) .nil)) (.node 6 (.node 1 (.node 3 (.node 7 (.node 8 (.node 9 .leaf .nil) .nil) .nil) .nil) (.node 3 (.node 1 (.node 7 (.node 8 (.node 9 .leaf .nil) .nil) .nil) .nil) .nil)) .nil))) (.node 6 (.node 1 (.node 2 (.node 3 (.node 7 (.node 8 (.node 9 .leaf .nil) .nil) .nil) .nil) .nil) (.node 2 (.node 1 (.node 3 (.node 7 (.node 8 (.node 9 .leaf .nil) .nil) .nil) .nil) (.node 3 (.node 1 (.node 7 (.node 8 (.node 9 .leaf .nil) .nil) .nil) .nil) .nil)) .nil)) .nil))) 7 hm rfl krf krf ?_;simp only [go_sem,simprocAttr,w1];(repeat' (refine And.intro ?_ ?_))
  all_goals first
   | (intro q hq;simp at hq;rw [hq];rfl)
   | (
    refine ⟨1,by omega,by omega,?_⟩;rw [if_neg de];unfold stk2;exact Jqb)
 ·rw [if_neg de];have hl2:(stk2 k).length=2:=rfl;have ht2:(stk2 k).take 2=stk2 k:=rfl;have hle:(2≤2)=True:=eq_true (Nat.le_refl 2);(refine lws ?_;simp only [go_sem,simprocAttr,hl2,ht2,hle]);(repeat' (first | ((refine Jqa (hC) ?_);simp only [go_sem,simprocAttr]) | fail))
theorem Jwn {n:Node} (h:Jrb n):n.many=0:=by
 obtain ⟨hk,_,h⟩:=h;unfold G3 at h;split at h
 ·exact h.1
 ·split at h
  ·exact h.1
  ·split at h
   ·exact h.2.1
   ·split at h
    ·omega
    ·exact h.elim
theorem J82 (n:Node) (h:n.kind<5→Jrb n) (hs:n.s.length≤1000000):Det cx 125 [.p (.agg [.int .i64 n.kind,.int .i64 n.many,.str n.name,.str n.s,.bool n.neg,.int .i64 n.e])] [] (.p (.bool (decide (n.kind<5)))) []:=by
 by_cases hk:n.kind<5
 ·have hp:=h hk;have hmz:=Jwn hp;obtain ⟨_,hn,ho⟩:=hp;rw [hmz] at ho;have hR:=J76 n.kind n.s n.neg n.e ho hk hs;have c1:(n.kind<5)=True:=eq_true hk;rw [hmz,hn];(refine bgo Tryz.func125 ?_;simp only [go_sem,simprocAttr,c1,decide_true]);(repeat' (first | ((refine Jqa (hR) ?_);simp only [go_sem,simprocAttr]) | fail))
  all_goals (first | rfl | simp [hk])
 ·have c1:(n.kind<5)=False:=eq_false hk;(refine bgo Tryz.func125 ?_;simp only [go_sem,simprocAttr,c1,decide_false])
  all_goals (first | rfl | simp [hk])
theorem Jzc {n:Node} (h:Jrb n):okT (ndT n):=by
 have hm:=Jwn h;obtain ⟨hk,hn,ho⟩:=h;rw [hm] at ho;exact Lu.2 ⟨ho,Sb _,I6⟩
theorem Jt7 {n:Node} (h:Jrb n):(ndT n).enc []=[n]:=by
 have hm:=Jwn h;obtain ⟨hk,hn,ho⟩:=h;rw [ndT,A6,Bl];cases n;simp only at hm hn;subst hm;subst hn;rfl
theorem Jy2 {n:Node} (h:Jrb n):valL ((ndT n).enc [])=[[.int .i64 n.kind,.int .i64 n.many,.str n.name,.str n.s,.bool n.neg,.int .i64 n.e]]:=by rw [Jt7 h];rfl
theorem d_Holds (a n:Int×Node) (ha:Jrn a.1 a.2) (hn:Jrb n.2):Det cx 128 [.p (.agg [.int .i64 a.1,.int .i64 a.2.kind,.int .i64 a.2.many,.str a.2.name,.str a.2.s,.bool a.2.neg,.int .i64 a.2.e]),.p (.agg [.int .i64 n.2.kind,.int .i64 n.2.many,.str n.2.name,.str n.2.s,.bool n.2.neg,.int .i64 n.2.e])] [] (.p (.bool (Js2 a n.2))) []:=by
 obtain ⟨a0,a5,hap⟩:=ha;have hC:=d_Cmp 1 (ndT n.2) (ndT a.2) (by rw [Jt7 hn];simp) (Jzc hn) (Jzc hap) (by rw [Jt7 hn];simp) (by rw [Jt7 hap];simp);rw [Jy2 hn,Jy2 hap] at hC;have hcase:a.1=0∨a.1=1∨a.1=2∨a.1=3∨a.1=4∨a.1=5:=by omega
 rw [show Js2 a n.2=J18 a.1 (cmpT (ndT n.2) (ndT a.2)) from rfl];generalize cmpT (ndT n.2) (ndT a.2)=c at hC ⊢;rcases hcase with h | h | h | h | h | h <;> rw [h]
 all_goals
  (refine bgo Tryz.func128 ?_;simp only [go_sem,simprocAttr]);(repeat' (first | ((refine Jqa (hC) ?_);simp only [go_sem,simprocAttr]) | fail))
  all_goals first
   | rfl
   | (simp [J18];done)
   | (by_cases hc:c=0 <;> simp [J18,hc])
theorem J77 (a:Int×Node) (n:Node) (ha:Jrn a.1 a.2) (hn:Jrb n):Det cx 127 [.p (.agg [.int .i64 a.1,.int .i64 a.2.kind,.int .i64 a.2.many,.str a.2.name,.str a.2.s,.bool a.2.neg,.int .i64 a.2.e]),.ptr 1000 0 0] [(1000,.var 29 [.p (.int .i64 n.kind),.p (.int .i64 n.many),.p (.str n.name),.p (.str n.s),.p (.bool n.neg),.p (.int .i64 n.e)])] (.p (.bool (!Js2 a n))) [(1000,.var 29 [.p (.int .i64 n.kind),.p (.int .i64 n.many),.p (.str n.name),.p (.str n.s),.p (.bool n.neg),.p (.int .i64 n.e)])]:=by
 have hH:=d_Holds a (0,n) ha hn;(refine bgo Tryz.func127 ?_;simp only [go_sem,simprocAttr]);(repeat' (first | ((refine Jqa (hH) ?_);simp only [go_sem,simprocAttr]) | fail))
def memF (l:List (Int×Node)) (n:Node) (i:Nat):Bool:=match l[i]? with
 | some a=>Js2 a n
 | none=>true
theorem Jz3 {l:List (Int×Node)} {n:Node}:∀ {m:List (Int×Node)} {i:Nat},l.drop i=m→allF (memF l n) m.length i=m.all fun a=>Js2 a n
 | [],i,_=>rfl
 | a :: m,i,h=>by
  have ha:l[i]? = some a:=by have:=congrArg (·[0]?) h;simpa using this
  rw [List.length_cons,allF,List.all_cons,memF,ha,Jz3 (m:=m) (i:=i+1) (by rw [← List.drop_drop,h];rfl)]
theorem J5g (l:List (Int×Node)) (n:Node) (hl:l.length≤1000000) (ha:∀ a∈l,Jrn a.1 a.2) (hn:Jrb n):Det cx 202 [.p (.sl (Jrg l)),.fn 127 [1000]] [(1000,.var 29 [.p (.int .i64 n.kind),.p (.int .i64 n.many),.p (.str n.name),.p (.str n.s),.p (.bool n.neg),.p (.int .i64 n.e)])] (.p (.int .i64 (idxF (memF l n) l.length 0))) [(1000,.var 29 [.p (.int .i64 n.kind),.p (.int .i64 n.many),.p (.str n.name),.p (.str n.s),.p (.bool n.neg),.p (.int .i64 n.e)])]:=by
 (refine bgo Tryz.func202 ?_;simp only [go_sem,simprocAttr,Jqx]);refine SWP.loop (fun i:Nat=>⟨Ba 19 [(0,.p (.sl (Jrg l))),(1,.fn 127 [1000]),(7,.p (.int .i64 l.length)),(8,.p (.int .i64 i))],[(1000,.var 29 [.p (.int .i64 n.kind),.p (.int .i64 n.many),.p (.str n.name),.p (.str n.s),.p (.bool n.neg),.p (.int .i64 n.e)])]⟩) (fun i=>i≤l.length∧idxF (memF l n) l.length 0=idxF (memF l n) (l.length - i) i) (fun i=>l.length - i) 0 Jqb ⟨Nat.zero_le _,rfl⟩ ?_;rintro i ⟨h2,h4⟩;by_cases hi:¬ i<l.length
 ·have c9:((i:Int)<(l.length:Int))=False:=eq_false omg;rw [show l.length - i=0 by omega,idxF] at h4;(refine lws ?_;simp only [go_sem,simprocAttr,c9]);rw [h4]
 ·have hi:=Decidable.not_not.1 hi;have c9:((i:Int)<(l.length:Int))=True:=eq_true omg;obtain ⟨a,hq⟩:∃ a,l[i]? = some a:=⟨_,List.getElem?_eq_getElem hi⟩
  obtain ⟨k,hk1⟩:∃ k,l.length - i=k+1:=⟨l.length - i - 1,by omega⟩
  have hg:=Jvq hq;have hA:=J77 a n (ha a (List.mem_of_getElem? hq)) hn;rw [hk1,idxF,show memF l n i=Js2 a n by rw [memF,hq]] at h4;cases hb:Js2 a n with
  | false =>
   rw [hb] at hA h4;(refine lws ?_;simp only [go_sem,simprocAttr,c9,hg]);(repeat' (first | ((refine Jqa (hA) ?_);simp only [go_sem,simprocAttr,Bool.not_false]) | fail));rw [h4];rfl
  | true =>
   rw [hb,if_pos rfl] at h4;rw [hb] at hA;(refine lws ?_;simp only [go_sem,simprocAttr,c9,hg,wj1 (i:=i) omg]);(repeat' (first | ((refine Jqa (hA) ?_);simp only [go_sem,simprocAttr,wj1 (i:=i) omg,Bool.not_true]) | fail));exact ⟨i+1,⟨by omega,by rw [h4,show l.length - (i+1)=k by omega]⟩,by omega,Jqb⟩
theorem Jza (l:List (Int×Node)) (n:Node) (hl:l.length≤1000000) (ha:∀ a∈l,Jrn a.1 a.2) (hn:Jrb n):Det cx 126 [.p (.sl (Jrg l)),.fn 127 [1000]] [(1000,.var 29 [.p (.int .i64 n.kind),.p (.int .i64 n.many),.p (.str n.name),.p (.str n.s),.p (.bool n.neg),.p (.int .i64 n.e)])] (.p (.bool (!l.all fun a=>Js2 a n))) [(1000,.var 29 [.p (.int .i64 n.kind),.p (.int .i64 n.many),.p (.str n.name),.p (.str n.s),.p (.bool n.neg),.p (.int .i64 n.e)])]:=by
 have hI:=J5g l n hl ha hn;(refine bgo Tryz.func126 ?_;simp only [go_sem,simprocAttr]);(repeat' (first | ((refine Jqa (hI) ?_);simp only [go_sem,simprocAttr]) | fail));rw [← Jz3 (l:=l) (m:=l) (i:=0) rfl,← Jux]
theorem shr_fin:∀ (m:Fin 32) (k:Fin 5),decide (IntKind.i64.wrap ((BitVec.ofInt (B0 .i64) (((m.val:Int)).fdiv (2 ^ min k.val (B0 .i64))) &&& BitVec.ofInt (B0 .i64) 1).toNat:Int)=0) = !Jv1 m.val k.val:=by decide +kernel
theorem shr_bit {m k:Int} (h0:0≤m) (hm':m≤31) (k0:0≤k) (k5:k<5):(IntKind.i64.wrap ((BitVec.ofInt (B0 .i64) (m.fdiv (2 ^ min k.toNat (B0 .i64))) &&& BitVec.ofInt (B0 .i64) 1).toNat:Int)=0) ↔ Jv1 m k=false:=by
 obtain ⟨a,rfl⟩:∃ a:Nat,m=a:=⟨m.toNat,by omega⟩
 obtain ⟨b,rfl⟩:∃ b:Nat,k=b:=⟨k.toNat,by omega⟩
 have:=shr_fin ⟨a,by omega⟩ ⟨b,by omega⟩;simp only [Int.toNat_natCast] at this ⊢;cases hl:Jv1 (a:Int) (b:Int) <;> rw [hl] at this <;> simpa using this
theorem J9p (mask:Int) (l:List (Int×Node)) (n:Node) (h0:0≤mask) (hmk:mask≤31) (hl:l.length≤1000000) (ha:∀ a∈l,Jrn a.1 a.2) (hn:n.kind<5→Jrb n) (hs:n.s.length≤1000000) (hk0:0≤n.kind):Det cx 50 [.p (.int .i64 mask),.p (.sl (Jrg l)),.p (.agg [.int .i64 n.kind,.int .i64 n.many,.str n.name,.str n.s,.bool n.neg,.int .i64 n.e])] [] (.p (.bool (Jq1 mask l n))) []:=by
 have hP:=J82 n hn hs;by_cases hk:n.kind<5
 ·have hC:=Jza l n hl ha (hn hk);have hb:=shr_bit h0 hmk hk0 hk;rw [decide_eq_true hk] at hP;have hmm:Jq1 mask l n=(Jv1 mask n.kind && l.all fun a=>Js2 a n):=by
   unfold Jq1;rw [decide_eq_true (hn hk),Bool.true_and]
  rw [hmm];(refine bgo Tryz.func50 ?_;simp only [go_sem,simprocAttr]);(repeat' (first | (apply iteI <;> intro h)|(refine Jqe ?_)|((first | (refine Jqa (hP) ?_)|(refine Jqa (hC) ?_));simp only [go_sem,simprocAttr]) | fail))
  ·rw [hb.1 h];rfl
  ·have:Jv1 mask n.kind=true:=by
    cases hl2:Jv1 mask n.kind with
    | true=>rfl
    | false=>exact absurd (hb.2 hl2) h
   rw [this,Bool.true_and,Bool.not_not]
 ·rw [decide_eq_false hk] at hP;have hno:Jq1 mask l n=false:=by
   unfold Jq1;rw [decide_eq_false (fun h=>hk h.1)];rfl
  rw [hno];(refine bgo Tryz.func50 ?_;simp only [go_sem,simprocAttr]);(repeat' (first | ((refine Jqa (hP) ?_);simp only [go_sem,simprocAttr]) | fail))
theorem J4v {n:Node} (hk:n.kind<5):Jw [n]=decide (Jrb n):=by
 rw [Bool.eq_iff_iff,Iq,decide_eq_true_eq];constructor
 ·rintro ⟨t,ht,h⟩;cases t with
  | mk k s g e kids =>
   rw [A6] at h;have h1:=(List.cons.inj h).1;have h2:=(List.cons.inj h).2;cases kids with
   | nil =>
    subst h1;exact ⟨hk,rfl,(Lu.1 ht).1⟩
   | cons a b c =>
    rw [A0] at h2;have:=congrArg List.length h2;have hp:=Et b a;simp at this;omega
 ·intro h;exact ⟨ndT n,Jzc h,(Jt7 h).symm⟩
theorem Jwy (n:Node) (hf:NodeFit n):Det cx 142 [.p (.agg [.int .i64 n.kind,.int .i64 n.many,.str n.name,.str n.s,.bool n.neg,.int .i64 n.e])] [] (.p (.bool (decide (Jrb n)))) []:=by
 by_cases hk:n.kind<5
 ·have hR:=Jp [n] sm (by intro x hx;simp at hx;subst hx;exact hf);rw [J4v hk,show valL [n]=[[.int .i64 n.kind,.int .i64 n.many,.str n.name,.str n.s,.bool n.neg,.int .i64 n.e]] from rfl] at hR;have c1:(n.kind<5)=True:=eq_true hk;(refine bgo Tryz.func142 ?_;simp only [go_sem,simprocAttr,c1,decide_true]);(repeat' (first | ((refine Jqa (hR) ?_);simp only [go_sem,simprocAttr]) | fail))
 ·have c1:(n.kind<5)=False:=eq_false hk;rw [decide_eq_false (fun h=>hk h.1)];(refine bgo Tryz.func142 ?_;simp only [go_sem,simprocAttr,c1,decide_false])
  skip
theorem half_pow (m i:Nat):m / 2 ^ i / 2=m / 2 ^ (i+1):=by rw [Nat.div_div_eq_div_mul,Nat.pow_succ]
theorem td2 (q:Nat):(q:Int).tdiv 2=((q / 2:Nat):Int):=by
 rw [Int.tdiv_eq_ediv_of_nonneg omg];omega
theorem tm2 (q:Nat):(q:Int).tmod 2=((q % 2:Nat):Int):=by
 rw [Int.tmod_eq_emod_of_nonneg omg];omega
theorem wtd2 {q:Nat} (h:q≤1000):IntKind.i64.wrap ((q:Int).tdiv 2)=((q / 2:Nat):Int):=by
 rw [td2,Aa omg omg]
theorem wtm2 (q:Nat):IntKind.i64.wrap ((q:Int).tmod 2)=((q % 2:Nat):Int):=by
 rw [tm2,Aa omg omg]
theorem beq_one (r:Nat):((r:Int) == 1)=decide (r=1):=by
 by_cases h:r=1
 ·simp [h]
 ·simp [h];omega
theorem d_Lets (m k:Nat) (hm':m≤1000) (hk:k≤100):Det cx 143 [.p (.int .i64 m),.p (.int .i64 k)] [] (.p (.bool (Jv1 m k))) []:=by
 (refine bgo Tryz.func143 ?_;simp only [go_sem,simprocAttr]);refine SWP.loop (fun i:Nat=>⟨Ba 16 [(0,.p (.int .i64 (m / 2 ^ i:Nat))),(1,.p (.int .i64 k)),(5,.p (.int .i64 i))],[]⟩) (fun i=>i≤k) (fun i=>k - i) 0 (by rw [Nat.pow_zero,Nat.div_one];exact Jqb) (Nat.zero_le _) ?_;rintro i hi;have hle:m / 2 ^ i≤m:=Nat.div_le_self _ _;by_cases hlt:i<k
 ·have c1:((i:Int)<(k:Int))=True:=eq_true omg;have w1:IntKind.i64.wrap (((m / 2 ^ i:Nat):Int).tdiv 2)=((m / 2 ^ (i+1):Nat):Int):=by
   rw [← half_pow];exact wtd2 (Nat.le_trans hle hm')
  (refine lws ?_;simp only [go_sem,simprocAttr,c1,w1,wj1 (i:=i) omg]);exact ⟨i+1,by omega,by omega,Jqb⟩
 ·have hik:i=k:=by omega
  subst hik;have c1:((i:Int)<(i:Int))=False:=eq_false omg;have w2:=wtm2 (m / 2 ^ i);have w3:=tm2 (m / 2 ^ i);(refine lws ?_;simp only [go_sem,simprocAttr,c1,w3]);unfold Jv1;simp only [Int.toNat_natCast];exact beq_one _
theorem d_Says (n c:Int):Det cx 106 [.p (.int .i64 n),.p (.int .i64 c)] [] (.p (.bool (J18 n c))) []:=by
 (refine bgo Tryz.func106 ?_;simp only [go_sem,simprocAttr]);(repeat' (apply iteI <;> intro h))
 all_goals (unfold J18)
 all_goals (simp only [*,if_true,if_false])
 all_goals first
  | rfl
  | (by_cases hc:c=0 <;> simp [hc])
theorem J5u (a:Int×Node) (n:Node) (ha:Jrn a.1 a.2) (hn:Jrb n):Det cx 144 [.p (.agg [.int .i64 a.1,.int .i64 a.2.kind,.int .i64 a.2.many,.str a.2.name,.str a.2.s,.bool a.2.neg,.int .i64 a.2.e]),.p (.agg [.int .i64 n.kind,.int .i64 n.many,.str n.name,.str n.s,.bool n.neg,.int .i64 n.e])] [] (.p (.bool (Js2 a n))) []:=by
 obtain ⟨a0,a5,hap⟩:=ha;have hC:=Jx5 1 (ndT n) (ndT a.2) (by rw [Jt7 hn];simp) (Jzc hn) (Jzc hap) (by rw [Jt7 hn];simp) (by rw [Jt7 hap];simp);rw [Jy2 hn,Jy2 hap] at hC;have hS:=d_Says a.1 (cmpT (ndT n) (ndT a.2));(refine bgo Tryz.func144 ?_;simp only [go_sem,simprocAttr]);(repeat' (first | ((first | (refine Jqk ?_)|(refine Jqd (hC) ?_)|(refine Jqd (hS) ?_));simp only [go_sem,simprocAttr]) | fail))
 all_goals rfl
theorem J3t (m:Nat) (l:List (Int×Node)) (n:Node) (hmk:m≤1000) (hl:l.length≤1000000) (ha:∀ a∈l,Jrn a.1 a.2) (hf:NodeFit n):Det cx 61 [.p (.int .i64 m),.p (.sl (Jrg l)),.p (.agg [.int .i64 n.kind,.int .i64 n.many,.str n.name,.str n.s,.bool n.neg,.int .i64 n.e])] [] (.p (.bool (Jq1 m l n))) []:=by
 have hP:=Jwy n hf;by_cases hp:Jrb n
 ·rw [decide_eq_true hp] at hP;obtain ⟨j,hj,hj5⟩:∃ j:Nat,n.kind=j∧j<5:=by
   have:=Jz8 hp.2.2 hp.1;exact ⟨n.kind.toNat,by omega,by omega⟩
  have hLt:=d_Lets m j hmk omg;rw [← hj] at hLt;cases hlt:Jv1 m n.kind with
  | false =>
   rw [hlt] at hLt;rw [show Jq1 m l n=false by unfold Jq1;rw [hlt];simp];(refine bgo Tryz.func61 ?_;simp only [go_sem,simprocAttr]);(repeat' (first | ((first | (refine Jqa (hP) ?_)|(refine Jqa (hLt) ?_));simp only [go_sem,simprocAttr]) | fail))
  | true =>
   rw [hlt] at hLt;rw [show Jq1 m l n=l.all fun a=>Js2 a n by unfold Jq1;rw [hlt,decide_eq_true hp];rfl];rw [← Jz3 (l:=l) (m:=l) (i:=0) rfl];(refine bgo Tryz.func61 ?_;simp only [go_sem,simprocAttr]);(repeat' (first | ((first | (refine Jqa (hP) ?_)|(refine Jqa (hLt) ?_));simp only [go_sem,simprocAttr]) | fail));refine SWP.loop (fun i:Nat=>⟨Ba 31 [(1,.p (.sl (Jrg l))),(5,.ptr 5 0 0),(7,.p (.int .i64 i))],[(5,.var 29 [.p (.int .i64 n.kind),.p (.int .i64 n.many),.p (.str n.name),.p (.str n.s),.p (.bool n.neg),.p (.int .i64 n.e)])]⟩) (fun i=>i≤l.length∧allF (memF l n) l.length 0=allF (memF l n) (l.length - i) i) (fun i=>l.length - i) 0 Jqb ⟨Nat.zero_le _,rfl⟩ ?_;rintro i ⟨h2,h4⟩;by_cases hi:¬ i<l.length
   ·have c9:((i:Int)<(l.length:Int))=False:=eq_false omg;rw [show l.length - i=0 by omega,allF] at h4;(refine lws ?_;simp only [go_sem,simprocAttr,Jqx,c9]);rw [h4]
   ·have hi:=Decidable.not_not.1 hi;have c9:((i:Int)<(l.length:Int))=True:=eq_true omg;obtain ⟨a,hq⟩:∃ a,l[i]? = some a:=⟨_,List.getElem?_eq_getElem hi⟩
    obtain ⟨k,hk1⟩:∃ k,l.length - i=k+1:=⟨l.length - i - 1,by omega⟩
    have hg:=Jvq hq;have hH:=J5u a n (ha a (List.mem_of_getElem? hq)) hp;rw [hk1,allF,show memF l n i=Js2 a n by rw [memF,hq]] at h4;cases hb:Js2 a n with
    | false =>
     rw [hb] at hH h4;(refine lws ?_;simp only [go_sem,simprocAttr,Jqx,c9]);(repeat' (first | ((first | (refine Jqk ?_)|(refine Jqd (hH) ?_));simp only [go_sem,simprocAttr,hg,Bool.not_false]) | fail));rw [h4];rfl
    | true =>
     rw [hb,Bool.true_and] at h4;rw [hb] at hH;(refine lws ?_;simp only [go_sem,simprocAttr,Jqx,c9,wj1 (i:=i) omg]);(repeat' (first | ((first | (refine Jqk ?_)|(refine Jqd (hH) ?_));simp only [go_sem,simprocAttr,hg,wj1 (i:=i) omg,Bool.not_true]) | fail));exact ⟨i+1,⟨by omega,by rw [h4,show l.length - (i+1)=k by omega]⟩,by omega,Jqb⟩
 ·rw [decide_eq_false hp] at hP;rw [show Jq1 m l n=false by unfold Jq1;rw [decide_eq_false hp];rfl];(refine bgo Tryz.func61 ?_;simp only [go_sem,simprocAttr]);(repeat' (first | ((refine Jqa (hP) ?_);simp only [go_sem,simprocAttr]) | fail))
theorem Jw0 (s:List UInt8):(Je s).1.length≤20∧∀ x∈(Je s).1,Bc x:=by
 by_cases h:(Je s).2.2=0
 ·obtain ⟨_,h2,_⟩:=J7u h;exact h2
 ·obtain ⟨_,h2,_⟩:=J7r h;rw [h2];exact ⟨by simp,by simp⟩
theorem J39:∀ {p:List Step} {t:Tree} {e:Nat},getT p t=.error e→e=5∨e=6
 | [],t,e,h=>by cases h
 | x :: p,t,e,h=>by
  rw [getT] at h;cases hi:inT t x with
  | error e'=>rw [hi] at h;cases h;exact M2 hi
  | ok w=>rw [hi] at h;exact J39 h
theorem d_Key (s:List UInt8) (v:Tree) (hs:s.length≤1000000) (hv:(v.enc []).length≤1000000):Det cx 20 [.p (.str s),.p (.sl (valL (v.enc [])))] [] (.p (.sl (valL (keyV s v)))) []:=by
 obtain ⟨hl,hok⟩:=Jw0 s;have hR:=Jjx s hs;have hG:=M1 (Je s).1 v omg hok hv;cases hg:getT (Je s).1 v with
 | ok u =>
  rw [hg] at hG;simp only [getR] at hG;rw [show keyV s v=u.enc [] by unfold keyV;rw [hg]];(refine bgo Tryz.func20 ?_;simp only [go_sem,simprocAttr]);(repeat' (first | ((first | (refine Jqa (hR) ?_)|(refine Jqa (hG) ?_));simp only [go_sem,simprocAttr]) | fail))
 | error e =>
  rw [hg] at hG;simp only [getR] at hG;rw [show keyV s v=[] by unfold keyV;rw [hg]];have he:=J39 hg;have c1:((e:Int)=0)=False:=eq_false omg;refine Det.weak ?_;(refine bgo Tryz.func20 ?_;simp only [go_sem,simprocAttr]);(repeat' (first | ((first | (refine Jqa (hR) ?_)|(refine Jqa (hG) ?_));simp only [go_sem,simprocAttr,c1,not_false_eq_true]) | fail));exact J7z .nil
def Jt3 (s:List UInt8) (l:List KT):List (List PV):=l.map fun q=>[.sl (valL (keyV s q.2))]
@[simp] theorem keysL_nil (s:List UInt8):Jt3 s []=[]:=rfl
@[simp] theorem Jxy (s:List UInt8) (l:List KT):(Jt3 s l).length=l.length:=by simp [Jt3]
theorem J6c {s:List UInt8} {l:List KT} {k:Nat} {p:KT} (h:l[k]? = some p):Jt3 s (l.take (k+1))=Jt3 s (l.take k) ++ [[.sl (valL (keyV s p.2))]]:=by
 rw [List.take_add_one,h];simp [Jt3]
theorem J4a (s:List UInt8) (l:List KT) (hs:s.length≤1000000) (hl:l.length≤1000000) (hv:∀ q∈l,(q.2.enc []).length≤1000000):Det cx 60 [.p (.str s),.p (.sl (A4 l))] [] (.p (.sl (Jt3 s l))) []:=by
 (refine bgo Tryz.func60 ?_;simp only [go_sem,simprocAttr,A5]);refine Jq0 (Jv8 _ (i:=5) (d:=19) 25 1 (.inl de) rfl) ?_;simp only [St.nilOwn,St.nilReg,go_sem,simprocAttr,A5];refine SWP.loop (fun k:Nat=>⟨Ba 22 [(0,.p (.str s)),(5,.own 19 0 k),(8,.p (.sl (A4 l))),(9,.p (.int .i64 l.length)),(10,.p (.int .i64 k))],[(19,.row 25 1 (Jt3 s (l.take k)))]⟩) (fun k=>k≤l.length) (fun k=>l.length - k) 0 Jqb (Nat.zero_le _) ?_;rintro k hk;by_cases hlt:¬ k<l.length
 ·have hk2:k=l.length:=by omega
  subst hk2;have c1:((l.length:Int)<(l.length:Int))=False:=eq_false omg;have ht1:l.take l.length=l:=List.take_of_length_le (Nat.le_refl _);have ht2:(Jt3 s l).take l.length=Jt3 s l:=List.take_of_length_le (by rw [Jxy];omega);have hle:(l.length≤l.length)=True:=eq_true (Nat.le_refl _);(refine lws ?_;simp only [go_sem,simprocAttr,c1,ht1,ht2,Jxy,hle])
  skip
 ·have hlt:=Decidable.not_not.1 hlt;have c1:((k:Int)<(l.length:Int))=True:=eq_true omg;obtain ⟨p,hp⟩:∃ p,l[k]? = some p:=⟨_,List.getElem?_eq_getElem hlt⟩
  have hg:=Hx hp;have hK:=d_Key s p.2 hs (hv p (List.mem_of_getElem? hp));have hpl:(Jt3 s (l.take k)).length=k:=by rw [Jxy,List.length_take];omega
  have htk:=J6c (s:=s) hp;(refine lws ?_;simp only [go_sem,simprocAttr,c1,hg,wj1 (i:=k) omg]);(repeat' (first | ((refine Jqa (hK) ?_);simp only [go_sem,simprocAttr,hpl,wj1 (i:=k) omg]) | fail));exact ⟨by simp,by omega,by omega,k+1,by omega,by omega,by rw [htk];exact Jqb⟩
theorem J2r (v u:List Node) (hv:v.length≤1000000) (hu:u.length≤1000000):Det cx 208 [.p (.sl (valL v)),.p (.sl (valL u))] [] (.p (.bool (decide (v=u)))) []:=by
 by_cases hl:v.length=u.length
 ·have c0:((v.length:Int)=(u.length:Int))=True:=eq_true omg;(refine bgo Tryz.func208 ?_;simp only [go_sem,simprocAttr,A7,c0,not_true_eq_false]);refine SWP.loop (fun i:Nat=>⟨Ba 26 [(0,.p (.sl (valL v))),(1,.p (.sl (valL u))),(11,.p (.sl (valL v))),(12,.p (.int .i64 v.length)),(13,.p (.int .i64 i))],[]⟩) (fun i=>i≤v.length∧v.take i=u.take i) (fun i=>v.length - i) 0 Jqb ⟨Nat.zero_le _,rfl⟩ ?_;rintro i ⟨h1,h3⟩;by_cases hi:¬ i<v.length
  ·have c1:((i:Int)<(v.length:Int))=False:=eq_false omg;(refine lws ?_;simp only [go_sem,simprocAttr,decide_false,c1]);rw [List.take_of_length_le omg,List.take_of_length_le omg] at h3;exact (decide_eq_true h3).symm
  ·have hi:=Decidable.not_not.1 hi;have c1:((i:Int)<(v.length:Int))=True:=eq_true omg;obtain ⟨x,hx⟩:∃ x,v[i]? = some x:=⟨_,List.getElem?_eq_getElem hi⟩
   obtain ⟨y,hy⟩:∃ y,u[i]? = some y:=⟨_,List.getElem?_eq_getElem omg⟩
   have hgx:=P8 hx;have hgy:=P8 hy;have w1:=wi1 (i:=i) omg;(refine lws ?_;simp only [go_sem,simprocAttr,c1]);(repeat' (first | (apply iteI <;> intro h)|((refine Jqk ?_);simp only [go_sem,simprocAttr,Jma,hgx,hgy,w1]) | fail))
   ·have hxy:=(show ¬ x=y by assumption)
    refine (decide_eq_false fun e=>hxy ?_).symm;subst e;rw [hx] at hy;exact Option.some.inj hy
   ·have hxy:=Decidable.not_not.1 (show ¬ ¬ x=y by assumption);subst hxy;refine ⟨i+1,⟨by omega,?_⟩,by omega,Jqb⟩;rw [List.take_add_one,List.take_add_one,h3,hx,hy]
 ·have c0:((v.length:Int)=(u.length:Int))=False:=eq_false omg;(refine bgo Tryz.func208 ?_;simp only [go_sem,simprocAttr,A7,c0,not_false_eq_true]);exact (decide_eq_false fun e=>hl (by rw [e])).symm
theorem d_vSame (v u:List Node) (hv:v.length≤1000000) (hu:u.length≤1000000):Det cx 138 [.p (.sl (valL v)),.p (.sl (valL u))] [] (.p (.bool (decide (v=u)))) []:=by
 (refine bgo Tryz.func138 ?_;simp only [go_sem,simprocAttr]);(repeat' (first | ((refine Jqa (J2r v u hv hu) ?_);simp only [go_sem,simprocAttr]) | fail))
def Jzu (t:Tree) (name:List UInt8):Option Tree:=if t.kind=6 then Ch name t.kids.list else none
theorem Jwr (t:Tree) (name:List UInt8) (hv:(t.enc []).length≤1000000):Det cx 133 [.p (.sl (valL (t.enc []))),.p (.str name)] [] (Oo (Jzu t name)) []:=by
 cases t with
 | mk k s g e kids =>
 rw [A6,List.length_cons] at hv;by_cases hk:k=6
 ·subst hk;exact Jdk [] s g e kids name omg
 ·have hf:Jzu (.mk k s g e kids) name=none:=if_neg hk;have hg:=Cc [] k s g e kids;have c1:(k=6)=False:=eq_false hk;rw [hf,Oo];(refine bgo Tryz.func133 ?_;simp only [go_sem,simprocAttr,hg,c1,not_false_eq_true])
  skip
theorem J3e (v:List YRow) (i:Nat) (nm:List UInt8) (t:RT) (rest:List YRow) (hv:v.length≤1000000) (h:v.drop i=t.enc nm ++ rest):Det cx 73 [.p (.sl (rowL v)),.p (.int .i64 i)] [] (.p (.int .i64 (i+(t.enc nm).length:Nat))) []:=by
 (refine bgo Tryz.func73 ?_;simp only [go_sem,simprocAttr]);have hp:=Jso t nm;have hb:=Jvf h (fun e=>by have e2:(t.enc nm ++ rest).length=0:=(by rw [e];rfl);rw [List.length_append] at e2;omega);rw [List.length_append] at hb;refine SWP.loop (fun x:Nat×Nat×RF=>⟨Ba 41 [(0,.p (.sl (rowL v))),(1,.p (.int .i64 x.1)),(5,.p (.int .i64 x.2.1))],[]⟩) (fun x=>x.2.1=x.2.2.len∧v.drop x.1=x.2.2.enc ++ rest∧x.1+x.2.2.enc.length=i+(t.enc nm).length) (fun x=>x.2.2.enc.length) (i,1,.cons nm t .nil) Jqb ⟨rfl,by simp [Jqg,Jq2,h],by simp [Jqg,Jq2]⟩ ?_;rintro ⟨j,left,F⟩ ⟨h0,h1,h2⟩;simp only at h0 h1 h2
 match F,h0,h1,h2 with
 | .nil,h0,h1,h2 =>
  rw [Jq2] at h2;simp only [RF.len] at h0;subst h0;have c0:((0:Int)<((0:Nat):Int))=False:=eq_false omg;(refine lws ?_;simp only [go_sem,simprocAttr]);simp only [List.length_nil] at h2;omega
 | .cons nm' (.mk k s g e kids) r,h0,h1,h2 =>
  rw [Jr3] at h0;rw [Jqg,Jqo] at h1 h2;have hg:=Jsa h1;rw [Jq9] at hg;simp only [List.length_cons,List.length_append] at h2;have hl1:=Jq3 kids;have hl2:=Jq3 r;have w0:IntKind.i64.wrap ((left:Int) - 1)=(r.len:Int):=by rw [Aa omg omg];omega
  have w1:IntKind.i64.wrap ((r.len:Int)+(kids.len:Int))=((r.len+kids.len:Nat):Int):=by rw [Aa omg omg];omega
  (refine lws ?_;simp only [go_sem,simprocAttr,wj1 (i:=j) omg,hg,w0,w1,Jqi]);(repeat' (first | (apply iteI <;> intro h)|(exfalso;omega)))
  ·exact ⟨(j+1,r.len+kids.len,kids.app r),⟨by simp only [Jsb];omega,by
    simp only [Jqr];rw [← List.drop_drop,h1];simp,by simp only [Jqr,List.length_append];omega⟩,by simp only [Jqr,Jqg,Jqo,List.length_append,List.length_cons];omega,Jqb⟩
theorem J5x (v:List YRow) (hv:v.length≤10000):Det cx 73 [.p (.sl (rowL v)),.p (.int .i64 0)] [] (.p (.int .i64 (Jsw v 0 1))) []:=by
 (refine bgo Tryz.func73 ?_;simp only [go_sem,simprocAttr]);refine SWP.loop (fun x:Nat×Nat=>⟨Ba 41 [(0,.p (.sl (rowL v))),(1,.p (.int .i64 x.1)),(5,.p (.int .i64 x.2))],[]⟩) (fun x=>x.1≤v.length∧x.2≤1+x.1 * 10000∧Jsw v x.1 x.2=Jsw v 0 1) (fun x=>v.length - x.1) (0,1) Jqb ⟨Nat.zero_le _,by simp,rfl⟩ ?_;rintro ⟨i,o⟩ ⟨h1,h2,h3⟩;simp only at h1 h2 h3;by_cases ho:o=0
 ·subst ho;rw [J5z] at h3;have c0:((0:Int)<((0:Nat):Int))=False:=eq_false omg;(refine lws ?_;simp only [go_sem,simprocAttr]);rw [h3]
 ·have c0:((0:Int)<(o:Int))=True:=eq_true omg;by_cases hi:¬ i<v.length
  ·have c1:((v.length:Int)≤(i:Int))=True:=eq_true omg;rw [J8e omg omg] at h3;(refine lws ?_;simp only [go_sem,simprocAttr,Jqi,c0,c1]);rw [← h3]
  ·have hi:=Decidable.not_not.1 hi;have c1:((v.length:Int)≤(i:Int))=False:=eq_false omg;obtain ⟨n,hn⟩:∃ n,v[i]? = some n:=⟨_,List.getElem?_eq_getElem hi⟩
   have hg:=Jue hn;by_cases hb:n.many<0∨(v.length:Int)<n.many
   ·rw [J7w hn omg hb] at h3;by_cases hb1:n.many<0
    ·have c2:(n.many<0)=True:=eq_true hb1;(refine lws ?_;simp only [go_sem,simprocAttr,Jqi,c0,c1,c2,hg]);rw [← h3]
    ·have c2:(n.many<0)=False:=eq_false hb1;have c3:((v.length:Int)<n.many)=True:=eq_true omg;(refine lws ?_;simp only [go_sem,simprocAttr,Jqi,c0,c1,c2,c3,hg]);rw [← h3]
   ·have c2:(n.many<0)=False:=eq_false omg;have c3:((v.length:Int)<n.many)=False:=eq_false omg;obtain ⟨o',rfl⟩:∃ o',o=o'+1:=⟨o - 1,by omega⟩
    rw [J6d hn hb] at h3;have w1:IntKind.i64.wrap (((o'+1:Nat):Int) - 1)=(o':Int):=by rw [Aa omg omg];omega
    have w2:IntKind.i64.wrap ((o':Int)+n.many)=((o'+n.many.toNat:Nat):Int):=by rw [Aa omg omg];omega
    have w3:=wj1 (i:=i) omg;(refine lws ?_;simp only [go_sem,simprocAttr,Jqi,c0,c1,c2,c3,hg,w1,w2,w3]);exact ⟨(i+1,o'+n.many.toNat),⟨by simp only;omega,by simp only;omega,h3⟩,by simp only;omega,Jqb⟩
theorem J1t {v:List YRow} {j:Nat} {nm:List UInt8} {t:RT} {b:List YRow} (h:v.drop j=t.enc nm ++ b):∃ (k n:Int) (s:List UInt8) (g:Int) (e:Node),(rowL v)[j]? = some [.int .i64 k,.int .i64 n,.str nm,.str s,.int .i64 g,.int .i64 e.kind,.int .i64 e.many,.str e.name,.str e.s,.bool e.neg,.int .i64 e.e]:=by
 cases t with
 | mk k s g e kids =>
  rw [Jqo] at h;exact ⟨k,kids.len,s,g,e,Jsa h⟩
theorem J4d (nm:List UInt8) (kd:Int) (s:List UInt8) (g:Int) (e:Node) (kids:RF) (hv:kids.enc.length≤999999) (hk1:kd≠1):Det cx 23 [.p (.sl (rowL ((RT.mk kd s g e kids).enc nm)))] [] (.p (.sl (Jqu kids.list))) []:=by
 have hl:=Jq3 kids;have hkl:=Jrc kids;generalize hvv:(RT.mk kd s g e kids).enc nm=v;have h0:v.drop 0=⟨kd,kids.len,nm,s,g,e⟩ :: kids.enc:=by rw [← hvv,Jqo];rfl
 have hg0:=Jsa h0;rw [Jq9] at hg0;have hvl:v.length=kids.enc.length+1:=by rw [← hvv,Jqo];rfl
 have hk2:(kd=1)=False:=eq_false hk1;(refine bgo Tryz.func23 ?_;simp only [go_sem,simprocAttr]);refine Jq0 (B1 [(9,44)] _ sm) ?_;simp only [go_sem,simprocAttr];refine SWP.loop (fun x:Nat×Nat×RF=>⟨Ba 47 [(0,.p (.sl (rowL v))),(3,.own 44 0 x.1),(4,.p (.int .i64 x.2.1)),(5,.p (.int .i64 x.1))],[(44,.row 23 1 (Jqu (kids.list.take x.1)))]⟩) (fun x=>x.1+x.2.2.len=kids.len∧v.drop x.2.1=x.2.2.enc∧x.2.1+x.2.2.enc.length=v.length∧kids.list.drop x.1=x.2.2.list) (fun x=>x.2.2.enc.length) (0,1,kids) Jqb ⟨by simp,by rw [← hvv,Jqo];rfl,by simp only;omega,rfl⟩ ?_;rintro ⟨k,j,F⟩ ⟨h1,h2,h3,h4⟩;simp only at h1 h2 h3 h4 ⊢
 match F,h1,h2,h3,h4 with
 | .nil,h1,h2,h3,h4 =>
  simp only [RF.len] at h1;have hkk:k=kids.len:=by omega
  subst hkk;have hpl:(kids.len≤(Jqu (kids.list.take kids.len)).length)=True:=eq_true (by rw [Jrm,List.length_take];omega);have htk:(Jqu (kids.list.take kids.len)).take kids.len=Jqu kids.list:=by
   rw [List.take_of_length_le (by rw [Jrm,List.length_take];omega),List.take_of_length_le omg]
  (refine lws ?_;simp only [go_sem,simprocAttr,hg0,hk2,not_false_eq_true,hpl,htk]);(repeat' (first | (apply iteI <;> intro h)|(exact True.intro)|(exfalso;omega)))
  skip
 | .cons nm' (.mk k' s' g' e' kids') r,h1,h2,h3,h4 =>
  rw [Jr3] at h1;rw [Jqg] at h2 h3;rw [List.length_append] at h3;have hkk:kids.list[k]? = some (nm',.mk k' s' g' e' kids'):=by
   have:=congrArg (·[0]?) h4;simpa [RF.list] using this
  have hpk:=Jyc hkk;rw [Jqo,Jua,Jq9] at hpk;have hpl:(Jqu (kids.list.take k)).length=k:=by rw [Jrm,List.length_take];omega
  have hs:=J1r h2;have hel:((RT.mk k' s' g' e' kids').enc nm').length=kids'.enc.length+1:=by rw [Jqo];rfl
  have hs':((rowL v).drop j).take (j+((RT.mk k' s' g' e' kids').enc nm').length - j)=[.int .i64 k',.int .i64 kids'.len,.str nm',.str s',.int .i64 g',.int .i64 e'.kind,.int .i64 e'.many,.str e'.name,.str e'.s,.bool e'.neg,.int .i64 e'.e] :: rowL kids'.enc:=by
   rw [Nat.add_sub_cancel_left,hs,Jqo,Jua,Jq9]
  have h6:∀ q∈[.int .i64 k',.int .i64 kids'.len,.str nm',.str s',.int .i64 g',.int .i64 e'.kind,.int .i64 e'.many,.str e'.name,.str e'.s,.bool e'.neg,.int .i64 e'.e] :: rowL kids'.enc,q.length=11:=fun q hq=>Jun ((RT.mk k' s' g' e' kids').enc nm') q (by rw [Jqo];exact hq)
  have htk:(rowL kids'.enc).take kids'.enc.length=rowL kids'.enc:=List.take_of_length_le sm;(refine lws ?_;simp only [go_sem,simprocAttr,hg0,hk2,not_false_eq_true,wj1 (i:=k) omg,hpl,Nat.le_refl]);(repeat' (first | (refine And.intro (Jun _) ?_)|(apply iteI <;> intro h)|(refine Jqe ?_)|((refine Jqa (J3e v j nm' (.mk k' s' g' e' kids') r.enc omg h2) ?_);simp only [go_sem,simprocAttr,not_false_eq_true,wj1 (i:=k) omg,hs',htk,hpl,Jqi,Nat.le_refl])|(exfalso;omega)));refine ⟨by simp,by omega,by omega,(k+1,j+((RT.mk k' s' g' e' kids').enc nm').length,r),⟨by simp only;omega,by simp only;rw [← List.drop_drop,h2,List.drop_left],by simp only;omega,by simp only;rw [← List.drop_drop,h4];rfl⟩,by have:=Jso (.mk k' s' g' e' kids') nm';simp only [Jqg,List.length_append];omega,?_⟩;simp only;rw [hpk];exact Jqb
def J58 (l:List (List UInt8×RT)):List (List PV):=l.map fun p=>[.str p.1]
@[simp] theorem tnameL_nil:J58 []=[]:=rfl
theorem tnameL_len (l:List (List UInt8×RT)):(J58 l).length=l.length:=by simp [J58]
end Go.LX
