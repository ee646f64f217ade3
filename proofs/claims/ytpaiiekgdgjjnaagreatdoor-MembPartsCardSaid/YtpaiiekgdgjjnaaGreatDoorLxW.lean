/- Membership: closures that are asked of all of a row. -/
import Derived.Test.YtpaiiekgdgjjnaaGreatDoorLxV
import Derived.Test.YtpaiiekgdgjjnaaGreatDoorLxR
import Derived.Test.YtpaiiekgdgjjnaaGreatDoorLxU
import Derived.Test.YtpaiiekgdgjjnaaGreatDoorLxO
import Derived.Test.YtpaiiekgdgjjnaaGreatDoorLxS
import Derived.Test.YtpaiiekgdgjjnaaGreatDoorLxT
import Derived.Test.YtpaiiekgdgjjnaaGreatDoorLxN
set_option linter.unusedSimpArgs false
set_option linter.unusedVariables false
set_option linter.unusedSectionVars false
set_option linter.unnecessarySimpa false
set_option maxRecDepth 100000
set_option maxHeartbeats 2000000
namespace Go.LX
open Go Go.RowKit Go.Proofs
attribute [local irreducible] Al SWP Bi
theorem J4b (g:FuncId) (hk:cx.kind g=0) (T0:TypeId) (x:PV) (c0 d0:PV) (b:Bool) (h:Det cx g [.p x,.ptr 1000 0 0] [(1000,.var T0 [.p c0])] (.p (.bool b)) [(1000,.var T0 [.p d0])]) :
  Det cx 140 [.p x,.ptr 1000 0 0] [(1000,.var 60 [.fn g [1001]]),(1001,.var T0 [.p c0])] (.p (.bool (!b))) [(1000,.var 60 [.fn g [1001]]),(1001,.var T0 [.p d0])]:=by
 (refine Jqa false [] Tryz.func140 ?_;refine Ae hm _ _ _ ?_;simp only [Tryz.ntmps140,Tryz.results140,go_sem,simprocAttr,hk])
 (repeat' (first | ((refine Det.use (h) ?_);simp only [go_sem,simprocAttr]) | fail))
theorem J4f (g:FuncId) (hk:cx.kind g=0) (T0 T1 T2:TypeId) (x:PV) (c0 c1 c2 d0 d1 d2:PV) (b:Bool) (h:Det cx g [.p x,.ptr 1000 0 0,.ptr 1001 0 0,.ptr 1002 0 0] [(1000,.var T0 [.p c0]),(1001,.var T1 [.p c1]),(1002,.var T2 [.p c2])] (.p (.bool b)) [(1000,.var T0 [.p d0]),(1001,.var T1 [.p d1]),(1002,.var T2 [.p d2])]) :
  Det cx 140 [.p x,.ptr 1000 0 0] [(1000,.var 60 [.fn g [1001,1002,1003]]),(1001,.var T0 [.p c0]),(1002,.var T1 [.p c1]),(1003,.var T2 [.p c2])] (.p (.bool (!b))) [(1000,.var 60 [.fn g [1001,1002,1003]]),(1001,.var T0 [.p d0]),(1002,.var T1 [.p d1]),(1003,.var T2 [.p d2])]:=by
 (refine Jqa false [] Tryz.func140 ?_;refine Ae hm _ _ _ ?_;simp only [Tryz.ntmps140,Tryz.results140,go_sem,simprocAttr,hk])
 (repeat' (first | ((refine Det.use (h) ?_);simp only [go_sem,simprocAttr]) | fail))
theorem Jxp (g:FuncId) (hk:cx.kind g=0) (T0 T1 T2:TypeId) (es:List (List PV)) (h1:∀ q∈es,∃ x,q=[x]) (hl:es.length≤1000000) (c0:Nat→PV) (c1:Nat→PV) (c2:Nat→PV) (b:Nat→Bool) (Pre:Nat→Prop) (h0:Pre 0) (hc:∀ (i:Nat) (x:PV),es[i]? = some [x]→Pre i→∃ d0 d1 d2,Det cx g [.p x,.ptr 1000 0 0,.ptr 1001 0 0,.ptr 1002 0 0] [(1000,.var T0 [.p (c0 i)]),(1001,.var T1 [.p (c1 i)]),(1002,.var T2 [.p (c2 i)])] (.p (.bool (b i))) [(1000,.var T0 [.p d0]),(1001,.var T1 [.p d1]),(1002,.var T2 [.p d2])]∧(b i=true→d0=c0 (i+1)∧d1=c1 (i+1)∧d2=c2 (i+1)∧Pre (i+1))) :
  Det cx 209 [.p (.sl es),.fn 140 [1000]] [(1000,.var 60 [.fn g [1001,1002,1003]]),(1001,.var T0 [.p (c0 0)]),(1002,.var T1 [.p (c1 0)]),(1003,.var T2 [.p (c2 0)])] (.p (.int .i64 (idxF b es.length 0))) []:=by
 refine Al.sub (Post:=fun m _=>m=.p (.int .i64 (idxF b es.length 0))) ?_ (fun m q hm=>⟨[],List.nil_sublist _,hm,rfl⟩)
 (refine Jqa false [] Tryz.func209 ?_;refine Ae hm _ _ _ ?_;simp only [Tryz.ntmps209,Tryz.results209,go_sem,simprocAttr])
 skip
 refine SWP.loop (fun i:Nat=>⟨Ba 19 [(0,.p (.sl es)),(1,.fn 140 [1000]),(7,.p (.int .i64 es.length)),(8,.p (.int .i64 i))],[(1000,.var 60 [.fn g [1001,1002,1003]]),(1001,.var T0 [.p (c0 i)]),(1002,.var T1 [.p (c1 i)]),(1003,.var T2 [.p (c2 i)])]⟩) (fun i=>i≤es.length∧Pre i∧idxF b es.length 0=idxF b (es.length - i) i) (fun i=>es.length - i) 0 Jqb ⟨Nat.zero_le _,h0,rfl⟩ ?_
 rintro i ⟨h2,h3,h4⟩
 by_cases hi:¬ i<es.length
 ·have c9:((i:Int)<(es.length:Int))=False:=eq_false (by omega)
  rw [show es.length - i=0 by omega,idxF] at h4
  (refine Ae hm _ _ _ ?_;simp only [go_sem,simprocAttr,c9])
  skip
  rw [h4]
 ·have hi:=Decidable.not_not.1 hi
  have c9:((i:Int)<(es.length:Int))=True:=eq_true (by omega)
  obtain ⟨q,hq⟩:∃ q,es[i]? = some q:=⟨_,List.getElem?_eq_getElem hi⟩
  obtain ⟨x,rfl⟩:=h1 q (List.mem_of_getElem? hq)
  obtain ⟨d0,d1,d2,hd,hb⟩:=hc i x hq h3
  obtain ⟨k,hk1⟩:∃ k,es.length - i=k+1:=⟨es.length - i - 1,by omega⟩
  rw [hk1,idxF] at h4
  have hA:=J4f g hk T0 T1 T2 x (c0 i) (c1 i) (c2 i) d0 d1 d2 (b i) hd
  cases hbi:b i with
  | false =>
   rw [hbi] at hA h4
   (refine Ae hm _ _ _ ?_;simp only [go_sem,simprocAttr,c9,hq])
   (repeat' (first | ((refine Det.use (hA) ?_);simp only [go_sem,simprocAttr,Bool.not_false]) | fail))
   rw [h4];rfl
  | true =>
   obtain ⟨rfl,rfl,rfl,hp⟩:=hb hbi
   rw [hbi,if_pos rfl] at h4
   rw [hbi] at hA
   (refine Ae hm _ _ _ ?_;simp only [go_sem,simprocAttr,c9,hq,wj1 (i:=i) (by omega)])
   (repeat' (first | ((refine Det.use (hA) ?_);simp only [go_sem,simprocAttr,wj1 (i:=i) (by omega),Bool.not_true]) | fail))
   exact ⟨i+1,⟨by omega,hp,by rw [h4,show es.length - (i+1)=k by omega]⟩,by omega,Jqb⟩
theorem Jve (g:FuncId) (hk:cx.kind g=0) (T0 T1 T2:TypeId) (es:List (List PV)) (h1:∀ q∈es,∃ x,q=[x]) (hl:es.length≤1000000) (c0:Nat→PV) (c1:Nat→PV) (c2:Nat→PV) (b:Nat→Bool) (Pre:Nat→Prop) (h0:Pre 0) (hc:∀ (i:Nat) (x:PV),es[i]? = some [x]→Pre i→∃ d0 d1 d2,Det cx g [.p x,.ptr 1000 0 0,.ptr 1001 0 0,.ptr 1002 0 0] [(1000,.var T0 [.p (c0 i)]),(1001,.var T1 [.p (c1 i)]),(1002,.var T2 [.p (c2 i)])] (.p (.bool (b i))) [(1000,.var T0 [.p d0]),(1001,.var T1 [.p d1]),(1002,.var T2 [.p d2])]∧(b i=true→d0=c0 (i+1)∧d1=c1 (i+1)∧d2=c2 (i+1)∧Pre (i+1))) :
  Det cx 139 [.p (.sl es),.fn 140 [1000]] [(1000,.var 60 [.fn g [1001,1002,1003]]),(1001,.var T0 [.p (c0 0)]),(1002,.var T1 [.p (c1 0)]),(1003,.var T2 [.p (c2 0)])] (.p (.bool (!allF b es.length 0))) []:=by
 refine Al.sub (Post:=fun m _=>m=.p (.bool (!allF b es.length 0))) ?_ (fun m q hm=>⟨[],List.nil_sublist _,hm,rfl⟩)
 have hI:=Jxp g hk T0 T1 T2 es h1 hl c0 c1 c2 b Pre h0 hc
 (refine Jqa false [] Tryz.func139 ?_;refine Ae hm _ _ _ ?_;simp only [Tryz.ntmps139,Tryz.results139,go_sem,simprocAttr])
 (repeat' (first | ((refine Det.use (hI) ?_);simp only [go_sem,simprocAttr]) | fail))
 rw [← Jun]
theorem J01 (g:FuncId) (hk:cx.kind g=0) (T0 T1 T2:TypeId) (es:List (List PV)) (h1:∀ q∈es,∃ x,q=[x]) (hl:es.length≤1000000) (c0:Nat→PV) (c1:Nat→PV) (c2:Nat→PV) (b:Nat→Bool) (Pre:Nat→Prop) (h0:Pre 0) (hc:∀ (i:Nat) (x:PV),es[i]? = some [x]→Pre i→∃ d0 d1 d2,Det cx g [.p x,.ptr 1000 0 0,.ptr 1001 0 0,.ptr 1002 0 0] [(1000,.var T0 [.p (c0 i)]),(1001,.var T1 [.p (c1 i)]),(1002,.var T2 [.p (c2 i)])] (.p (.bool (b i))) [(1000,.var T0 [.p d0]),(1001,.var T1 [.p d1]),(1002,.var T2 [.p d2])]∧(b i=true→d0=c0 (i+1)∧d1=c1 (i+1)∧d2=c2 (i+1)∧Pre (i+1))) :
  Det cx 58 [.p (.sl es),.fn g [1000,1001,1002]] [(1000,.var T0 [.p (c0 0)]),(1001,.var T1 [.p (c1 0)]),(1002,.var T2 [.p (c2 0)])] (.p (.bool (allF b es.length 0))) []:=by
 refine Al.sub (Post:=fun m _=>m=.p (.bool (allF b es.length 0))) ?_ (fun m q hm=>⟨[],List.nil_sublist _,hm,rfl⟩)
 have hI:=Jve g hk T0 T1 T2 es h1 hl c0 c1 c2 b Pre h0 hc
 (refine Jqa false [] Tryz.func58 ?_;refine Ae hm _ _ _ ?_;simp only [Tryz.ntmps58,Tryz.results58,go_sem,simprocAttr])
 (repeat' (first | ((refine Det.use (hI) ?_);simp only [go_sem,simprocAttr]) | fail))
 all_goals (cases allF b es.length 0 <;> rfl)
theorem J19 (g:FuncId) (hk:cx.kind g=0) (T0 T1 T2:TypeId) (x:PV) (c0 c1 c2 d0 d1 d2:PV) (b:Bool) (h:Det cx g [.p x,.ptr 1000 0 0,.ptr 1001 0 0,.ptr 1002 0 0] [(1000,.var T0 [.p c0]),(1001,.var T1 [.p c1]),(1002,.var T2 [.p c2])] (.p (.bool b)) [(1000,.var T0 [.p d0]),(1001,.var T1 [.p d1]),(1002,.var T2 [.p d2])]) :
  Det cx 207 [.p x,.ptr 1000 0 0] [(1000,.var 111 [.fn g [1001,1002,1003]]),(1001,.var T0 [.p c0]),(1002,.var T1 [.p c1]),(1003,.var T2 [.p c2])] (.p (.bool (!b))) [(1000,.var 111 [.fn g [1001,1002,1003]]),(1001,.var T0 [.p d0]),(1002,.var T1 [.p d1]),(1003,.var T2 [.p d2])]:=by
 (refine Jqa false [] Tryz.func207 ?_;refine Ae hm _ _ _ ?_;simp only [Tryz.ntmps207,Tryz.results207,go_sem,simprocAttr,hk])
 (repeat' (first | ((refine Det.use (h) ?_);simp only [go_sem,simprocAttr]) | fail))
theorem Jwl (g:FuncId) (hk:cx.kind g=0) (T0 T1 T2:TypeId) (es:List (List PV)) (h1:∀ q∈es,∃ x,q=[x]) (hl:es.length≤1000000) (c0:Nat→PV) (c1:Nat→PV) (c2:Nat→PV) (b:Nat→Bool) (Pre:Nat→Prop) (h0:Pre 0) (hc:∀ (i:Nat) (x:PV),es[i]? = some [x]→Pre i→∃ d0 d1 d2,Det cx g [.p x,.ptr 1000 0 0,.ptr 1001 0 0,.ptr 1002 0 0] [(1000,.var T0 [.p (c0 i)]),(1001,.var T1 [.p (c1 i)]),(1002,.var T2 [.p (c2 i)])] (.p (.bool (b i))) [(1000,.var T0 [.p d0]),(1001,.var T1 [.p d1]),(1002,.var T2 [.p d2])]∧(b i=true→d0=c0 (i+1)∧d1=c1 (i+1)∧d2=c2 (i+1)∧Pre (i+1))) :
  Det cx 250 [.p (.sl es),.fn 207 [1000]] [(1000,.var 111 [.fn g [1001,1002,1003]]),(1001,.var T0 [.p (c0 0)]),(1002,.var T1 [.p (c1 0)]),(1003,.var T2 [.p (c2 0)])] (.p (.int .i64 (idxF b es.length 0))) []:=by
 refine Al.sub (Post:=fun m _=>m=.p (.int .i64 (idxF b es.length 0))) ?_ (fun m q hm=>⟨[],List.nil_sublist _,hm,rfl⟩)
 (refine Jqa false [] Tryz.func250 ?_;refine Ae hm _ _ _ ?_;simp only [Tryz.ntmps250,Tryz.results250,go_sem,simprocAttr])
 skip
 refine SWP.loop (fun i:Nat=>⟨Ba 19 [(0,.p (.sl es)),(1,.fn 207 [1000]),(7,.p (.int .i64 es.length)),(8,.p (.int .i64 i))],[(1000,.var 111 [.fn g [1001,1002,1003]]),(1001,.var T0 [.p (c0 i)]),(1002,.var T1 [.p (c1 i)]),(1003,.var T2 [.p (c2 i)])]⟩) (fun i=>i≤es.length∧Pre i∧idxF b es.length 0=idxF b (es.length - i) i) (fun i=>es.length - i) 0 Jqb ⟨Nat.zero_le _,h0,rfl⟩ ?_
 rintro i ⟨h2,h3,h4⟩
 by_cases hi:¬ i<es.length
 ·have c9:((i:Int)<(es.length:Int))=False:=eq_false (by omega)
  rw [show es.length - i=0 by omega,idxF] at h4
  (refine Ae hm _ _ _ ?_;simp only [go_sem,simprocAttr,c9])
  skip
  rw [h4]
 ·have hi:=Decidable.not_not.1 hi
  have c9:((i:Int)<(es.length:Int))=True:=eq_true (by omega)
  obtain ⟨q,hq⟩:∃ q,es[i]? = some q:=⟨_,List.getElem?_eq_getElem hi⟩
  obtain ⟨x,rfl⟩:=h1 q (List.mem_of_getElem? hq)
  obtain ⟨d0,d1,d2,hd,hb⟩:=hc i x hq h3
  obtain ⟨k,hk1⟩:∃ k,es.length - i=k+1:=⟨es.length - i - 1,by omega⟩
  rw [hk1,idxF] at h4
  have hA:=J19 g hk T0 T1 T2 x (c0 i) (c1 i) (c2 i) d0 d1 d2 (b i) hd
  cases hbi:b i with
  | false =>
   rw [hbi] at hA h4
   (refine Ae hm _ _ _ ?_;simp only [go_sem,simprocAttr,c9,hq])
   (repeat' (first | ((refine Det.use (hA) ?_);simp only [go_sem,simprocAttr,Bool.not_false]) | fail))
   rw [h4];rfl
  | true =>
   obtain ⟨rfl,rfl,rfl,hp⟩:=hb hbi
   rw [hbi,if_pos rfl] at h4
   rw [hbi] at hA
   (refine Ae hm _ _ _ ?_;simp only [go_sem,simprocAttr,c9,hq,wj1 (i:=i) (by omega)])
   (repeat' (first | ((refine Det.use (hA) ?_);simp only [go_sem,simprocAttr,wj1 (i:=i) (by omega),Bool.not_true]) | fail))
   exact ⟨i+1,⟨by omega,hp,by rw [h4,show es.length - (i+1)=k by omega]⟩,by omega,Jqb⟩
theorem Ju4 (g:FuncId) (hk:cx.kind g=0) (T0 T1 T2:TypeId) (es:List (List PV)) (h1:∀ q∈es,∃ x,q=[x]) (hl:es.length≤1000000) (c0:Nat→PV) (c1:Nat→PV) (c2:Nat→PV) (b:Nat→Bool) (Pre:Nat→Prop) (h0:Pre 0) (hc:∀ (i:Nat) (x:PV),es[i]? = some [x]→Pre i→∃ d0 d1 d2,Det cx g [.p x,.ptr 1000 0 0,.ptr 1001 0 0,.ptr 1002 0 0] [(1000,.var T0 [.p (c0 i)]),(1001,.var T1 [.p (c1 i)]),(1002,.var T2 [.p (c2 i)])] (.p (.bool (b i))) [(1000,.var T0 [.p d0]),(1001,.var T1 [.p d1]),(1002,.var T2 [.p d2])]∧(b i=true→d0=c0 (i+1)∧d1=c1 (i+1)∧d2=c2 (i+1)∧Pre (i+1))) :
  Det cx 206 [.p (.sl es),.fn 207 [1000]] [(1000,.var 111 [.fn g [1001,1002,1003]]),(1001,.var T0 [.p (c0 0)]),(1002,.var T1 [.p (c1 0)]),(1003,.var T2 [.p (c2 0)])] (.p (.bool (!allF b es.length 0))) []:=by
 refine Al.sub (Post:=fun m _=>m=.p (.bool (!allF b es.length 0))) ?_ (fun m q hm=>⟨[],List.nil_sublist _,hm,rfl⟩)
 have hI:=Jwl g hk T0 T1 T2 es h1 hl c0 c1 c2 b Pre h0 hc
 (refine Jqa false [] Tryz.func206 ?_;refine Ae hm _ _ _ ?_;simp only [Tryz.ntmps206,Tryz.results206,go_sem,simprocAttr])
 (repeat' (first | ((refine Det.use (hI) ?_);simp only [go_sem,simprocAttr]) | fail))
 rw [← Jun]
theorem J4m (g:FuncId) (hk:cx.kind g=0) (T0 T1 T2:TypeId) (es:List (List PV)) (h1:∀ q∈es,∃ x,q=[x]) (hl:es.length≤1000000) (c0:Nat→PV) (c1:Nat→PV) (c2:Nat→PV) (b:Nat→Bool) (Pre:Nat→Prop) (h0:Pre 0) (hc:∀ (i:Nat) (x:PV),es[i]? = some [x]→Pre i→∃ d0 d1 d2,Det cx g [.p x,.ptr 1000 0 0,.ptr 1001 0 0,.ptr 1002 0 0] [(1000,.var T0 [.p (c0 i)]),(1001,.var T1 [.p (c1 i)]),(1002,.var T2 [.p (c2 i)])] (.p (.bool (b i))) [(1000,.var T0 [.p d0]),(1001,.var T1 [.p d1]),(1002,.var T2 [.p d2])]∧(b i=true→d0=c0 (i+1)∧d1=c1 (i+1)∧d2=c2 (i+1)∧Pre (i+1))) :
  Det cx 131 [.p (.sl es),.fn g [1000,1001,1002]] [(1000,.var T0 [.p (c0 0)]),(1001,.var T1 [.p (c1 0)]),(1002,.var T2 [.p (c2 0)])] (.p (.bool (allF b es.length 0))) []:=by
 refine Al.sub (Post:=fun m _=>m=.p (.bool (allF b es.length 0))) ?_ (fun m q hm=>⟨[],List.nil_sublist _,hm,rfl⟩)
 have hI:=Ju4 g hk T0 T1 T2 es h1 hl c0 c1 c2 b Pre h0 hc
 (refine Jqa false [] Tryz.func131 ?_;refine Ae hm _ _ _ ?_;simp only [Tryz.ntmps131,Tryz.results131,go_sem,simprocAttr])
 (repeat' (first | ((refine Det.use (hI) ?_);simp only [go_sem,simprocAttr]) | fail))
 all_goals (cases allF b es.length 0 <;> rfl)
theorem Jxo (g:FuncId) (hk:cx.kind g=0) (T0:TypeId) (c:PV) (es:List (List PV)) (h1:∀ q∈es,∃ x,q=[x]) (hl:es.length≤1000000) (b:Nat→Bool) (hc:∀ (i:Nat) (x:PV),es[i]? = some [x]→Det cx g [.p x,.ptr 1000 0 0] [(1000,.var T0 [.p c])] (.p (.bool (b i))) [(1000,.var T0 [.p c])]) :
  Det cx 209 [.p (.sl es),.fn 140 [1000]] [(1000,.var 60 [.fn g [1001]]),(1001,.var T0 [.p c])] (.p (.int .i64 (idxF b es.length 0))) [(1000,.var 60 [.fn g [1001]]),(1001,.var T0 [.p c])]:=by
 (refine Jqa false [] Tryz.func209 ?_;refine Ae hm _ _ _ ?_;simp only [Tryz.ntmps209,Tryz.results209,go_sem,simprocAttr])
 skip
 refine SWP.loop (fun i:Nat=>⟨Ba 19 [(0,.p (.sl es)),(1,.fn 140 [1000]),(7,.p (.int .i64 es.length)),(8,.p (.int .i64 i))],[(1000,.var 60 [.fn g [1001]]),(1001,.var T0 [.p c])]⟩) (fun i=>i≤es.length∧idxF b es.length 0=idxF b (es.length - i) i) (fun i=>es.length - i) 0 Jqb ⟨Nat.zero_le _,rfl⟩ ?_
 rintro i ⟨h2,h4⟩
 by_cases hi:¬ i<es.length
 ·have c9:((i:Int)<(es.length:Int))=False:=eq_false (by omega)
  rw [show es.length - i=0 by omega,idxF] at h4
  (refine Ae hm _ _ _ ?_;simp only [go_sem,simprocAttr,c9])
  skip
  rw [h4]
 ·have hi:=Decidable.not_not.1 hi
  have c9:((i:Int)<(es.length:Int))=True:=eq_true (by omega)
  obtain ⟨q,hq⟩:∃ q,es[i]? = some q:=⟨_,List.getElem?_eq_getElem hi⟩
  obtain ⟨x,rfl⟩:=h1 q (List.mem_of_getElem? hq)
  have hd:=hc i x hq
  obtain ⟨k,hk1⟩:∃ k,es.length - i=k+1:=⟨es.length - i - 1,by omega⟩
  rw [hk1,idxF] at h4
  have hA:=J4b g hk T0 x c c (b i) hd
  cases hbi:b i with
  | false =>
   rw [hbi] at hA h4
   (refine Ae hm _ _ _ ?_;simp only [go_sem,simprocAttr,c9,hq])
   (repeat' (first | ((refine Det.use (hA) ?_);simp only [go_sem,simprocAttr,Bool.not_false]) | fail))
   rw [h4];rfl
  | true =>
   rw [hbi,if_pos rfl] at h4
   rw [hbi] at hA
   (refine Ae hm _ _ _ ?_;simp only [go_sem,simprocAttr,c9,hq,wj1 (i:=i) (by omega)])
   (repeat' (first | ((refine Det.use (hA) ?_);simp only [go_sem,simprocAttr,wj1 (i:=i) (by omega),Bool.not_true]) | fail))
   exact ⟨i+1,⟨by omega,by rw [h4,show es.length - (i+1)=k by omega]⟩,by omega,Jqb⟩
theorem Jvp (g:FuncId) (hk:cx.kind g=0) (T0:TypeId) (c:PV) (es:List (List PV)) (h1:∀ q∈es,∃ x,q=[x]) (hl:es.length≤1000000) (b:Nat→Bool) (hc:∀ (i:Nat) (x:PV),es[i]? = some [x]→Det cx g [.p x,.ptr 1000 0 0] [(1000,.var T0 [.p c])] (.p (.bool (b i))) [(1000,.var T0 [.p c])]) :
  Det cx 139 [.p (.sl es),.fn 140 [1000]] [(1000,.var 60 [.fn g [1001]]),(1001,.var T0 [.p c])] (.p (.bool (!allF b es.length 0))) [(1000,.var 60 [.fn g [1001]]),(1001,.var T0 [.p c])]:=by
 have hI:=Jxo g hk T0 c es h1 hl b hc
 (refine Jqa false [] Tryz.func139 ?_;refine Ae hm _ _ _ ?_;simp only [Tryz.ntmps139,Tryz.results139,go_sem,simprocAttr])
 (repeat' (first | ((refine Det.use (hI) ?_);simp only [go_sem,simprocAttr]) | fail))
 rw [← Jun]
theorem Jwu (g:FuncId) (hk:cx.kind g=0) (T0:TypeId) (c:PV) (es:List (List PV)) (h1:∀ q∈es,∃ x,q=[x]) (hl:es.length≤1000000) (b:Nat→Bool) (hc:∀ (i:Nat) (x:PV),es[i]? = some [x]→Det cx g [.p x,.ptr 1000 0 0] [(1000,.var T0 [.p c])] (.p (.bool (b i))) [(1000,.var T0 [.p c])]) :
  Det cx 58 [.p (.sl es),.fn g [1000]] [(1000,.var T0 [.p c])] (.p (.bool (allF b es.length 0))) [(1000,.var T0 [.p c])]:=by
 have hI:=Jvp g hk T0 c es h1 hl b hc
 (refine Jqa false [] Tryz.func58 ?_;refine Ae hm _ _ _ ?_;simp only [Tryz.ntmps58,Tryz.results58,go_sem,simprocAttr])
 (repeat' (first | ((refine Det.use (hI) ?_);simp only [go_sem,simprocAttr]) | fail))
 all_goals (cases allF b es.length 0 <;> rfl)
end Go.LX
set_option maxRecDepth 100000
set_option maxHeartbeats 2000000
namespace Go.LX
open Go Go.RowKit Go.Proofs
attribute [local irreducible] Al SWP Bi
theorem Jzl {k:Int} {s:List UInt8} {g:Bool} {e m:Int} (h:G3 k s g e m) (hk:k<5):k=0∨k=1∨k=2∨k=3∨k=4:=by
 unfold G3 at h
 split at h
 ·omega
 ·split at h
  ·omega
  ·split at h
   ·omega
   ·split at h
    ·omega
    ·exact h.elim
theorem J2o {s:List UInt8} {g:Bool} {e:Int} (h:Yz s g e):Jq8 ⟨3,0,[],s,g,e⟩=true:=(J38 _).2 (Jr2 h)
theorem J9k (k:Int) (s:List UInt8) (g:Bool) (e:Int) (h:G3 k s g e 0) (hk:k<5) (hs:s.length≤1000000):Det cx 247 [.p (.agg [.int .i64 k,.int .i64 0,.str [],.str s,.bool g,.int .i64 e])] [] (.p (.bool true)) []:=by
 rcases Jzl h hk with rfl | rfl | rfl | rfl | rfl
 ·obtain ⟨rfl,rfl,rfl⟩:s=[]∧g=false∧e=0:=by simpa [G3] using h
  (refine Jqa false [] Tryz.func247 ?_;refine Ae hm _ _ _ ?_;simp only [Tryz.ntmps247,Tryz.results247,go_sem,simprocAttr])
  skip
  all_goals (first | rfl | simp)
 ·obtain ⟨rfl,rfl,rfl⟩:s=[]∧g=false∧e=0:=by simpa [G3] using h
  (refine Jqa false [] Tryz.func247 ?_;refine Ae hm _ _ _ ?_;simp only [Tryz.ntmps247,Tryz.results247,go_sem,simprocAttr])
  skip
  all_goals (first | rfl | simp)
 ·obtain ⟨rfl,rfl,rfl⟩:s=[]∧g=false∧e=0:=by simpa [G3] using h
  (refine Jqa false [] Tryz.func247 ?_;refine Ae hm _ _ _ ?_;simp only [Tryz.ntmps247,Tryz.results247,go_sem,simprocAttr])
  skip
  all_goals (first | rfl | simp)
 ·have hn:=Jsy h rfl
  have hR:=J39 ⟨3,0,[],s,g,e⟩ hs
  rw [J2o hn,Jsv] at hR
  (refine Jqa false [] Tryz.func247 ?_;refine Ae hm _ _ _ ?_;simp only [Tryz.ntmps247,Tryz.results247,go_sem,simprocAttr])
  (repeat' (first | ((refine Det.use (hR) ?_);simp only [go_sem,simprocAttr]) | fail))
  all_goals (first | rfl | simp)
 ·obtain ⟨hv,rfl,rfl⟩:valid s=true∧g=false∧e=0:=by simpa [G3] using h
  have hV:=Fi s (by omega)
  rw [hv] at hV
  (refine Jqa false [] Tryz.func247 ?_;refine Ae hm _ _ _ ?_;simp only [Tryz.ntmps247,Tryz.results247,go_sem,simprocAttr])
  (repeat' (first | ((refine Det.use (hV) ?_);simp only [go_sem,simprocAttr]) | fail))
  all_goals (first | rfl | simp)
def stk2 (k:Int):List (List PV):=[[.int .i64 5,.int .i64 0,.bool false,.str []],[.int .i64 k,.int .i64 0,.bool true,.str []]]
theorem Jyq (a:Int) (b:Bool) (c:List UInt8):Det cx 249 [.p (.agg [.int .i64 a,.int .i64 0,.bool b,.str c])] [] (.p (.bool false)) []:=by
 (refine Jqa false [] Tryz.func249 ?_;refine Ae hm _ _ _ ?_;simp only [Tryz.ntmps249,Tryz.results249,go_sem,simprocAttr])
 skip
theorem J2g (k:Int):Det cx 289 [.p (.sl (stk2 k)),.fn 249 []] [] (.p (.int .i64 (-1))) []:=by
 have hl2:(stk2 k).length=2:=rfl
 (refine Jqa false [] Tryz.func289 ?_;refine Ae hm _ _ _ ?_;simp only [Tryz.ntmps289,Tryz.results289,go_sem,simprocAttr,hl2])
 skip
 refine SWP.loop (fun i:Nat=>⟨Ba 19 [(0,.p (.sl (stk2 k))),(1,.fn 249 []),(7,.p (.int .i64 2)),(8,.p (.int .i64 i))],[]⟩) (fun i=>i≤2) (fun i=>2 - i) 0 Jqb (Nat.zero_le _) ?_
 rintro i hi
 have hcase:i=0∨i=1∨i=2:=by omega
 rcases hcase with rfl | rfl | rfl
 ·have h0:(stk2 k)[0]? = some [.int .i64 5,.int .i64 0,.bool false,.str []]:=rfl
  have w0:IntKind.i64.wrap 1=1:=by decide
  (refine Ae hm _ _ _ ?_;simp only [go_sem,simprocAttr,h0])
  (repeat' (first | ((refine Det.use (Jyq _ _ _) ?_);simp only [go_sem,simprocAttr,w0]) | fail))
  exact ⟨1,by omega,by omega,Jqb⟩
 ·have h0:(stk2 k)[1]? = some [.int .i64 k,.int .i64 0,.bool true,.str []]:=rfl
  have w0:IntKind.i64.wrap (1+1)=2:=by decide
  have w1:IntKind.i64.wrap 2=2:=by decide
  (refine Ae hm _ _ _ ?_;simp only [go_sem,simprocAttr,h0])
  (repeat' (first | ((refine Det.use (Jyq _ _ _) ?_);simp only [go_sem,simprocAttr,w1]) | fail))
  exact ⟨2,by omega,by omega,Jqb⟩
 ·(refine Ae hm _ _ _ ?_;simp only [go_sem,simprocAttr])
  skip
theorem Jys (k:Int):Det cx 248 [.p (.sl (stk2 k)),.fn 249 []] [] (.p (.bool false)) []:=by
 (refine Jqa false [] Tryz.func248 ?_;refine Ae hm _ _ _ ?_;simp only [Tryz.ntmps248,Tryz.results248,go_sem,simprocAttr])
 (repeat' (first | ((refine Det.use (J2g k) ?_);simp only [go_sem,simprocAttr]) | fail))
theorem J6t (k:Int) (s:List UInt8) (g:Bool) (e:Int) (h:G3 k s g e 0) (hk:k<5) (hs:s.length≤1000000):Det cx 201 [.p (.sl [[.int .i64 k,.int .i64 0,.str [],.str s,.bool g,.int .i64 e]])] [] (.p (.bool true)) []:=by
 have hP:=J9k k s g e h hk hs
 have hC:=Jys k
 (refine Jqa false [] Tryz.func201 ?_;refine Ae hm _ _ _ ?_;simp only [Tryz.ntmps201,Tryz.results201,go_sem,simprocAttr])
 skip
 refine SWP.loop (fun i:Nat=>if i=0 then ⟨Ba 123 [(0,.p (.sl [[.int .i64 k,.int .i64 0,.str [],.str s,.bool g,.int .i64 e]])),(3,.own 9 0 1),(10,.p (.sl [[.int .i64 k,.int .i64 0,.str [],.str s,.bool g,.int .i64 e]])),(11,.p (.int .i64 1)),(12,.p (.int .i64 0))],[(9,.row 212 4 [[.int .i64 5,.int .i64 1,.bool false,.str []]])]⟩ else ⟨Ba 123 [(0,.p (.sl [[.int .i64 k,.int .i64 0,.str [],.str s,.bool g,.int .i64 e]])),(3,.own 113 0 2),(11,.p (.int .i64 1)),(12,.p (.int .i64 1))],[(113,.row 212 4 (stk2 k))]⟩) (fun i=>i≤1) (fun i=>1 - i) 0 (by rw [if_pos rfl];exact Jqb) (Nat.zero_le _) ?_
 rintro i hi
 have hcase:i=0∨i=1:=by omega
 rcases hcase with rfl | rfl
 ·rw [if_pos rfl]
  (refine Ae hm _ _ _ ?_;simp only [go_sem,simprocAttr])
  refine SWP.loop (fun _:Unit=>⟨Ba 123 [(0,.p (.sl [[.int .i64 k,.int .i64 0,.str [],.str s,.bool g,.int .i64 e]])),(3,.own 9 0 1),(5,.ptr 5 0 0),(10,.p (.sl [[.int .i64 k,.int .i64 0,.str [],.str s,.bool g,.int .i64 e]])),(11,.p (.int .i64 1)),(12,.p (.int .i64 0))],[(5,.var 29 [.p (.int .i64 k),.p (.int .i64 0),.p (.str []),.p (.str s),.p (.bool g),.p (.int .i64 e)]),(9,.row 212 4 [[.int .i64 5,.int .i64 1,.bool false,.str []]])]⟩) (fun _=>True) (fun _=>0) () Jqb trivial ?_
  rintro _ _
  have e1:((1:Nat):Int)=1:=rfl
  have e2:((2:Nat):Int)=2:=rfl
  have w0:IntKind.i64.wrap 0=0:=by decide
  have w1:IntKind.i64.wrap 1=1:=by decide
  have hk6:(k=6)=False:=eq_false (by omega)
  (refine Ae hm _ _ _ ?_;simp only [go_sem,simprocAttr,e1,w0])
  (repeat' (first | ((first | (refine Jqd hm ?_)|(refine Det.use (hP) ?_));simp only [go_sem,simprocAttr,e1,w0,decide_false,Bool.not_false,Bool.not_true]) | fail))
  refine J2z 6 [0,4,5] (.node 1 (.node 2 (.node 3 (.node 6 (.node 7 (.node 8 (.node 9 .leaf .nil) .nil) .nil) .nil) (.node 6 (.node 3 (.node 7 (.node 8 (.node 9 .leaf .nil) .nil) .nil) .nil) .nil)) (.node 6 (.node 2 (.node 3 (.node 7 (.node 8 (.node 9 .leaf .nil) .nil) .nil) .nil) .nil) .nil)) (.node 2 (.node 1 (.node 3 (.node 6 (.node 7 (.node 8 (.node 9 .leaf .nil) .nil) .nil) .nil) (.node 6 (.node 3 (.node 7 (.node 8 (.node 9 .leaf .nil) .nil) .nil) .nil) .nil)) (.node 3 (.node 1 (.node 6 (.node 7 (.node 8 (.node 9 .leaf .nil) .nil) .nil) .nil) (.node 6 (.node 1 (.node 7 (.node 8 (.node 9 .leaf .nil) .nil) .nil) .nil) .nil)) (.node 6 (.node 1 (.node 3 (.node 7 (.node 8 (.node 9 .leaf .nil) .nil) .nil) .nil) (.node 3 (.node 1 (.node 7 (.node 8 (.node 9 .leaf .nil) .nil) .nil) .nil) .nil)) .nil))) (.node 6 (.node 1 (.node 2 (.node 3 (.node 7 (.node 8 (.node 9 .leaf .nil) .nil) .nil) .nil) .nil) (.node 2 (.node 1 (.node 3 (.node 7 (.node 8 (.node 9 .leaf .nil) .nil) .nil) .nil) (.node 3 (.node 1 (.node 7 (.node 8 (.node 9 .leaf .nil) .nil) .nil) .nil) .nil)) .nil)) .nil))) 7 hm rfl (by kernel_rfl) (by kernel_rfl) ?_
  simp only [go_sem,simprocAttr,w1]
  (repeat' (refine And.intro ?_ ?_))
  all_goals first
   | (intro q hq;simp at hq;rw [hq];rfl)
   | (
    refine ⟨1,by omega,by omega,?_⟩
    rw [if_neg (by decide)]
    unfold stk2
    exact Jqb)
 ·rw [if_neg (by decide)]
  have hl2:(stk2 k).length=2:=rfl
  have ht2:(stk2 k).take 2=stk2 k:=rfl
  have hle:(2≤2)=True:=eq_true (Nat.le_refl 2)
  (refine Ae hm _ _ _ ?_;simp only [go_sem,simprocAttr,hl2,ht2,hle])
  (repeat' (first | ((refine Det.use (hC) ?_);simp only [go_sem,simprocAttr]) | fail))
theorem Jvl {n:Node} (h:Jq0 n):n.many=0:=by
 obtain ⟨hk,_,h⟩:=h
 unfold G3 at h
 split at h
 ·exact h.1
 ·split at h
  ·exact h.1
  ·split at h
   ·exact h.2.1
   ·split at h
    ·omega
    ·exact h.elim
theorem J55 (n:Node) (h:n.kind<5→Jq0 n) (hs:n.s.length≤1000000):Det cx 125 [.p (.agg [.int .i64 n.kind,.int .i64 n.many,.str n.name,.str n.s,.bool n.neg,.int .i64 n.e])] [] (.p (.bool (decide (n.kind<5)))) []:=by
 by_cases hk:n.kind<5
 ·have hp:=h hk
  have hmz:=Jvl hp
  obtain ⟨_,hn,ho⟩:=hp
  rw [hmz] at ho
  have hR:=J6t n.kind n.s n.neg n.e ho hk hs
  have c1:(n.kind<5)=True:=eq_true hk
  rw [hmz,hn]
  (refine Jqa false [] Tryz.func125 ?_;refine Ae hm _ _ _ ?_;simp only [Tryz.ntmps125,Tryz.results125,go_sem,simprocAttr,c1,decide_true])
  (repeat' (first | ((refine Det.use (hR) ?_);simp only [go_sem,simprocAttr]) | fail))
  all_goals (first | rfl | simp [hk])
 ·have c1:(n.kind<5)=False:=eq_false hk
  (refine Jqa false [] Tryz.func125 ?_;refine Ae hm _ _ _ ?_;simp only [Tryz.ntmps125,Tryz.results125,go_sem,simprocAttr,c1,decide_false])
  skip
  all_goals (first | rfl | simp [hk])
theorem Jyi {n:Node} (h:Jq0 n):okT (ndT n):=by
 have hm:=Jvl h
 obtain ⟨hk,hn,ho⟩:=h
 rw [hm] at ho
 exact Lu.2 ⟨ho,Sb _,I6⟩
theorem Jtl {n:Node} (h:Jq0 n):(ndT n).enc []=[n]:=by
 have hm:=Jvl h
 obtain ⟨hk,hn,ho⟩:=h
 rw [ndT,A6,Bl]
 cases n
 simp only at hm hn
 subst hm;subst hn
 rfl
theorem Jxt {n:Node} (h:Jq0 n):valL ((ndT n).enc [])=[[.int .i64 n.kind,.int .i64 n.many,.str n.name,.str n.s,.bool n.neg,.int .i64 n.e]]:=by rw [Jtl h];rfl
theorem Kaf (a n:Int×Node) (ha:Jrb a.1 a.2) (hn:Jq0 n.2):Det cx 128 [.p (.agg [.int .i64 a.1,.int .i64 a.2.kind,.int .i64 a.2.many,.str a.2.name,.str a.2.s,.bool a.2.neg,.int .i64 a.2.e]),.p (.agg [.int .i64 n.2.kind,.int .i64 n.2.many,.str n.2.name,.str n.2.s,.bool n.2.neg,.int .i64 n.2.e])] [] (.p (.bool (Jsn a n.2))) []:=by
 obtain ⟨a0,a5,hap⟩:=ha
 have hC:=J7m 1 (ndT n.2) (ndT a.2) (by rw [Jtl hn];simp) (Jyi hn) (Jyi hap) (by rw [Jtl hn];simp) (by rw [Jtl hap];simp)
 rw [Jxt hn,Jxt hap] at hC
 have hcase:a.1=0∨a.1=1∨a.1=2∨a.1=3∨a.1=4∨a.1=5:=by omega
 rw [show Jsn a n.2=J0u a.1 (cmpT (ndT n.2) (ndT a.2)) from rfl]
 generalize cmpT (ndT n.2) (ndT a.2)=c at hC ⊢
 rcases hcase with h | h | h | h | h | h <;> rw [h]
 all_goals
  (refine Jqa false [] Tryz.func128 ?_;refine Ae hm _ _ _ ?_;simp only [Tryz.ntmps128,Tryz.results128,go_sem,simprocAttr])
  (repeat' (first | ((refine Det.use (hC) ?_);simp only [go_sem,simprocAttr]) | fail))
  all_goals first
   | rfl
   | (simp [J0u];done)
   | (by_cases hc:c=0 <;> simp [J0u,hc])
theorem J62 (a:Int×Node) (n:Node) (ha:Jrb a.1 a.2) (hn:Jq0 n):Det cx 127 [.p (.agg [.int .i64 a.1,.int .i64 a.2.kind,.int .i64 a.2.many,.str a.2.name,.str a.2.s,.bool a.2.neg,.int .i64 a.2.e]),.ptr 1000 0 0] [(1000,.var 29 [.p (.int .i64 n.kind),.p (.int .i64 n.many),.p (.str n.name),.p (.str n.s),.p (.bool n.neg),.p (.int .i64 n.e)])] (.p (.bool (!Jsn a n))) [(1000,.var 29 [.p (.int .i64 n.kind),.p (.int .i64 n.many),.p (.str n.name),.p (.str n.s),.p (.bool n.neg),.p (.int .i64 n.e)])]:=by
 have hH:=Kaf a (0,n) ha hn
 (refine Jqa false [] Tryz.func127 ?_;refine Ae hm _ _ _ ?_;simp only [Tryz.ntmps127,Tryz.results127,go_sem,simprocAttr])
 (repeat' (first | ((refine Det.use (hH) ?_);simp only [go_sem,simprocAttr]) | fail))
def memF (l:List (Int×Node)) (n:Node) (i:Nat):Bool:=match l[i]? with
 | some a=>Jsn a n
 | none=>true
theorem Jzs {l:List (Int×Node)} {n:Node}:∀ {m:List (Int×Node)} {i:Nat},l.drop i=m→allF (memF l n) m.length i=m.all fun a=>Jsn a n
 | [],i,_=>rfl
 | a :: m,i,h=>by
  have ha:l[i]? = some a:=by have:=congrArg (·[0]?) h;simpa using this
  rw [List.length_cons,allF,List.all_cons,memF,ha,Jzs (m:=m) (i:=i+1) (by rw [← List.drop_drop,h];rfl)]
theorem J3s (l:List (Int×Node)) (n:Node) (hl:l.length≤1000000) (ha:∀ a∈l,Jrb a.1 a.2) (hn:Jq0 n):Det cx 202 [.p (.sl (Jq3 l)),.fn 127 [1000]] [(1000,.var 29 [.p (.int .i64 n.kind),.p (.int .i64 n.many),.p (.str n.name),.p (.str n.s),.p (.bool n.neg),.p (.int .i64 n.e)])] (.p (.int .i64 (idxF (memF l n) l.length 0))) [(1000,.var 29 [.p (.int .i64 n.kind),.p (.int .i64 n.many),.p (.str n.name),.p (.str n.s),.p (.bool n.neg),.p (.int .i64 n.e)])]:=by
 (refine Jqa false [] Tryz.func202 ?_;refine Ae hm _ _ _ ?_;simp only [Tryz.ntmps202,Tryz.results202,go_sem,simprocAttr,Jqn])
 skip
 refine SWP.loop (fun i:Nat=>⟨Ba 19 [(0,.p (.sl (Jq3 l))),(1,.fn 127 [1000]),(7,.p (.int .i64 l.length)),(8,.p (.int .i64 i))],[(1000,.var 29 [.p (.int .i64 n.kind),.p (.int .i64 n.many),.p (.str n.name),.p (.str n.s),.p (.bool n.neg),.p (.int .i64 n.e)])]⟩) (fun i=>i≤l.length∧idxF (memF l n) l.length 0=idxF (memF l n) (l.length - i) i) (fun i=>l.length - i) 0 Jqb ⟨Nat.zero_le _,rfl⟩ ?_
 rintro i ⟨h2,h4⟩
 by_cases hi:¬ i<l.length
 ·have c9:((i:Int)<(l.length:Int))=False:=eq_false (by omega)
  rw [show l.length - i=0 by omega,idxF] at h4
  (refine Ae hm _ _ _ ?_;simp only [go_sem,simprocAttr,c9])
  skip
  rw [h4]
 ·have hi:=Decidable.not_not.1 hi
  have c9:((i:Int)<(l.length:Int))=True:=eq_true (by omega)
  obtain ⟨a,hq⟩:∃ a,l[i]? = some a:=⟨_,List.getElem?_eq_getElem hi⟩
  obtain ⟨k,hk1⟩:∃ k,l.length - i=k+1:=⟨l.length - i - 1,by omega⟩
  have hg:=Jus hq
  have hA:=J62 a n (ha a (List.mem_of_getElem? hq)) hn
  rw [hk1,idxF,show memF l n i=Jsn a n by rw [memF,hq]] at h4
  cases hb:Jsn a n with
  | false =>
   rw [hb] at hA h4
   (refine Ae hm _ _ _ ?_;simp only [go_sem,simprocAttr,c9,hg])
   (repeat' (first | ((refine Det.use (hA) ?_);simp only [go_sem,simprocAttr,Bool.not_false]) | fail))
   rw [h4];rfl
  | true =>
   rw [hb,if_pos rfl] at h4
   rw [hb] at hA
   (refine Ae hm _ _ _ ?_;simp only [go_sem,simprocAttr,c9,hg,wj1 (i:=i) (by omega)])
   (repeat' (first | ((refine Det.use (hA) ?_);simp only [go_sem,simprocAttr,wj1 (i:=i) (by omega),Bool.not_true]) | fail))
   exact ⟨i+1,⟨by omega,by rw [h4,show l.length - (i+1)=k by omega]⟩,by omega,Jqb⟩
theorem Jzj (l:List (Int×Node)) (n:Node) (hl:l.length≤1000000) (ha:∀ a∈l,Jrb a.1 a.2) (hn:Jq0 n):Det cx 126 [.p (.sl (Jq3 l)),.fn 127 [1000]] [(1000,.var 29 [.p (.int .i64 n.kind),.p (.int .i64 n.many),.p (.str n.name),.p (.str n.s),.p (.bool n.neg),.p (.int .i64 n.e)])] (.p (.bool (!l.all fun a=>Jsn a n))) [(1000,.var 29 [.p (.int .i64 n.kind),.p (.int .i64 n.many),.p (.str n.name),.p (.str n.s),.p (.bool n.neg),.p (.int .i64 n.e)])]:=by
 have hI:=J3s l n hl ha hn
 (refine Jqa false [] Tryz.func126 ?_;refine Ae hm _ _ _ ?_;simp only [Tryz.ntmps126,Tryz.results126,go_sem,simprocAttr])
 (repeat' (first | ((refine Det.use (hI) ?_);simp only [go_sem,simprocAttr]) | fail))
 rw [← Jzs (l:=l) (m:=l) (i:=0) rfl,← Jun]
theorem Kai:∀ (m:Fin 32) (k:Fin 5),decide (IntKind.i64.wrap ((BitVec.ofInt (B0 .i64) (((m.val:Int)).fdiv (2 ^ min k.val (B0 .i64))) &&& BitVec.ofInt (B0 .i64) 1).toNat:Int)=0) = !Jv8 m.val k.val:=by decide +kernel
theorem Kah {m k:Int} (h0:0≤m) (hm':m≤31) (k0:0≤k) (k5:k<5):(IntKind.i64.wrap ((BitVec.ofInt (B0 .i64) (m.fdiv (2 ^ min k.toNat (B0 .i64))) &&& BitVec.ofInt (B0 .i64) 1).toNat:Int)=0) ↔ Jv8 m k=false:=by
 obtain ⟨a,rfl⟩:∃ a:Nat,m=a:=⟨m.toNat,by omega⟩
 obtain ⟨b,rfl⟩:∃ b:Nat,k=b:=⟨k.toNat,by omega⟩
 have:=Kai ⟨a,by omega⟩ ⟨b,by omega⟩
 simp only [Int.toNat_natCast] at this ⊢
 cases hl:Jv8 (a:Int) (b:Int) <;> rw [hl] at this <;> simpa using this
theorem J7v (mask:Int) (l:List (Int×Node)) (n:Node) (h0:0≤mask) (hmk:mask≤31) (hl:l.length≤1000000) (ha:∀ a∈l,Jrb a.1 a.2) (hn:n.kind<5→Jq0 n) (hs:n.s.length≤1000000) (hk0:0≤n.kind):Det cx 50 [.p (.int .i64 mask),.p (.sl (Jq3 l)),.p (.agg [.int .i64 n.kind,.int .i64 n.many,.str n.name,.str n.s,.bool n.neg,.int .i64 n.e])] [] (.p (.bool (Jqs mask l n))) []:=by
 have hP:=J55 n hn hs
 by_cases hk:n.kind<5
 ·have hC:=Jzj l n hl ha (hn hk)
  have hb:=Kah h0 hmk hk0 hk
  rw [decide_eq_true hk] at hP
  have hmm:Jqs mask l n=(Jv8 mask n.kind && l.all fun a=>Jsn a n):=by
   unfold Jqs
   rw [decide_eq_true (hn hk),Bool.true_and]
  rw [hmm]
  (refine Jqa false [] Tryz.func50 ?_;refine Ae hm _ _ _ ?_;simp only [Tryz.ntmps50,Tryz.results50,go_sem,simprocAttr])
  (repeat' (first | (refine iteI (fun h=>?_) (fun h=>?_))|(refine Jsx ?_)|((first | (refine Det.use (hP) ?_)|(refine Det.use (hC) ?_));simp only [go_sem,simprocAttr]) | fail))
  ·rw [hb.1 h];rfl
  ·have:Jv8 mask n.kind=true:=by
    cases hl2:Jv8 mask n.kind with
    | true=>rfl
    | false=>exact absurd (hb.2 hl2) h
   rw [this,Bool.true_and,Bool.not_not]
 ·rw [decide_eq_false hk] at hP
  have hno:Jqs mask l n=false:=by
   unfold Jqs
   rw [decide_eq_false (fun h=>hk h.1)];rfl
  rw [hno]
  (refine Jqa false [] Tryz.func50 ?_;refine Ae hm _ _ _ ?_;simp only [Tryz.ntmps50,Tryz.results50,go_sem,simprocAttr])
  (repeat' (first | ((refine Det.use (hP) ?_);simp only [go_sem,simprocAttr]) | fail))
end Go.LX
set_option maxRecDepth 100000
set_option maxHeartbeats 2000000
namespace Go.LX
open Go Go.RowKit Go.Proofs
attribute [local irreducible] Al SWP Bi
theorem J11 {n:Node} (hk:n.kind<5):Jw [n]=decide (Jq0 n):=by
 rw [Bool.eq_iff_iff,Iq,decide_eq_true_eq]
 constructor
 ·rintro ⟨t,ht,h⟩
  cases t with
  | mk k s g e kids =>
   rw [A6] at h
   have h1:=(List.cons.inj h).1
   have h2:=(List.cons.inj h).2
   cases kids with
   | nil =>
    subst h1
    exact ⟨hk,rfl,(Lu.1 ht).1⟩
   | cons a b c =>
    rw [A0] at h2
    have:=congrArg List.length h2
    have hp:=Et b a
    simp at this;omega
 ·intro h
  exact ⟨ndT n,Jyi h,(Jtl h).symm⟩
theorem Jv7 (n:Node) (hf:NodeFit n):Det cx 142 [.p (.agg [.int .i64 n.kind,.int .i64 n.many,.str n.name,.str n.s,.bool n.neg,.int .i64 n.e])] [] (.p (.bool (decide (Jq0 n)))) []:=by
 by_cases hk:n.kind<5
 ·have hR:=Jp [n] (by simp) (by intro x hx;simp at hx;subst hx;exact hf)
  rw [J11 hk,show valL [n]=[[.int .i64 n.kind,.int .i64 n.many,.str n.name,.str n.s,.bool n.neg,.int .i64 n.e]] from rfl] at hR
  have c1:(n.kind<5)=True:=eq_true hk
  (refine Jqa false [] Tryz.func142 ?_;refine Ae hm _ _ _ ?_;simp only [Tryz.ntmps142,Tryz.results142,go_sem,simprocAttr,c1,decide_true])
  (repeat' (first | ((refine Det.use (hR) ?_);simp only [go_sem,simprocAttr]) | fail))
 ·have c1:(n.kind<5)=False:=eq_false hk
  rw [decide_eq_false (fun h=>hk h.1)]
  (refine Jqa false [] Tryz.func142 ?_;refine Ae hm _ _ _ ?_;simp only [Tryz.ntmps142,Tryz.results142,go_sem,simprocAttr,c1,decide_false])
  skip
theorem J9z (m i:Nat):m / 2 ^ i / 2=m / 2 ^ (i+1):=by rw [Nat.div_div_eq_div_mul,Nat.pow_succ]
theorem td2 (q:Nat):(q:Int).tdiv 2=((q / 2:Nat):Int):=by
 rw [Int.tdiv_eq_ediv_of_nonneg (by omega)];omega
theorem tm2 (q:Nat):(q:Int).tmod 2=((q % 2:Nat):Int):=by
 rw [Int.tmod_eq_emod_of_nonneg (by omega)];omega
theorem wtd2 {q:Nat} (h:q≤1000):IntKind.i64.wrap ((q:Int).tdiv 2)=((q / 2:Nat):Int):=by
 rw [td2,Aa (by omega) (by omega)]
theorem wtm2 (q:Nat):IntKind.i64.wrap ((q:Int).tmod 2)=((q % 2:Nat):Int):=by
 rw [tm2,Aa (by omega) (by omega)]
theorem Kdf (r:Nat):((r:Int) == 1)=decide (r=1):=by
 by_cases h:r=1
 ·simp [h]
 ·simp [h];omega
theorem d_Lets (m k:Nat) (hm':m≤1000) (hk:k≤100):Det cx 143 [.p (.int .i64 m),.p (.int .i64 k)] [] (.p (.bool (Jv8 m k))) []:=by
 (refine Jqa false [] Tryz.func143 ?_;refine Ae hm _ _ _ ?_;simp only [Tryz.ntmps143,Tryz.results143,go_sem,simprocAttr])
 refine SWP.loop (fun i:Nat=>⟨Ba 16 [(0,.p (.int .i64 (m / 2 ^ i:Nat))),(1,.p (.int .i64 k)),(5,.p (.int .i64 i))],[]⟩) (fun i=>i≤k) (fun i=>k - i) 0 (by rw [Nat.pow_zero,Nat.div_one];exact Jqb) (Nat.zero_le _) ?_
 rintro i hi
 have hle:m / 2 ^ i≤m:=Nat.div_le_self _ _
 by_cases hlt:i<k
 ·have c1:((i:Int)<(k:Int))=True:=eq_true (by omega)
  have w1:IntKind.i64.wrap (((m / 2 ^ i:Nat):Int).tdiv 2)=((m / 2 ^ (i+1):Nat):Int):=by
   rw [← J9z];exact wtd2 (Nat.le_trans hle hm')
  (refine Ae hm _ _ _ ?_;simp only [go_sem,simprocAttr,c1,w1,wj1 (i:=i) (by omega)])
  skip
  exact ⟨i+1,by omega,by omega,Jqb⟩
 ·have hik:i=k:=by omega
  subst hik
  have c1:((i:Int)<(i:Int))=False:=eq_false (by omega)
  have w2:=wtm2 (m / 2 ^ i)
  have w3:=tm2 (m / 2 ^ i)
  (refine Ae hm _ _ _ ?_;simp only [go_sem,simprocAttr,c1,w3])
  skip
  unfold Jv8
  simp only [Int.toNat_natCast]
  exact Kdf _
theorem d_Says (n c:Int):Det cx 106 [.p (.int .i64 n),.p (.int .i64 c)] [] (.p (.bool (J0u n c))) []:=by
 (refine Jqa false [] Tryz.func106 ?_;refine Ae hm _ _ _ ?_;simp only [Tryz.ntmps106,Tryz.results106,go_sem,simprocAttr])
 (repeat' (refine iteI (fun h=>?_) (fun h=>?_)))
 all_goals (unfold J0u)
 all_goals (simp only [*,if_true,if_false])
 all_goals first
  | rfl
  | (by_cases hc:c=0 <;> simp [hc])
theorem J4c (a:Int×Node) (n:Node) (ha:Jrb a.1 a.2) (hn:Jq0 n):Det cx 144 [.p (.agg [.int .i64 a.1,.int .i64 a.2.kind,.int .i64 a.2.many,.str a.2.name,.str a.2.s,.bool a.2.neg,.int .i64 a.2.e]),.p (.agg [.int .i64 n.kind,.int .i64 n.many,.str n.name,.str n.s,.bool n.neg,.int .i64 n.e])] [] (.p (.bool (Jsn a n))) []:=by
 obtain ⟨a0,a5,hap⟩:=ha
 have hC:=Jwx 1 (ndT n) (ndT a.2) (by rw [Jtl hn];simp) (Jyi hn) (Jyi hap) (by rw [Jtl hn];simp) (by rw [Jtl hap];simp)
 rw [Jxt hn,Jxt hap] at hC
 have hS:=d_Says a.1 (cmpT (ndT n) (ndT a.2))
 (refine Jqa false [] Tryz.func144 ?_;refine Ae hm _ _ _ ?_;simp only [Tryz.ntmps144,Tryz.results144,go_sem,simprocAttr])
 (repeat' (first | ((first | (refine Jqd hm ?_)|(refine Det.useQ (hC) ?_)|(refine Det.useQ (hS) ?_));simp only [go_sem,simprocAttr]) | fail))
 all_goals rfl
theorem J14 (m:Nat) (l:List (Int×Node)) (n:Node) (hmk:m≤1000) (hl:l.length≤1000000) (ha:∀ a∈l,Jrb a.1 a.2) (hf:NodeFit n):Det cx 61 [.p (.int .i64 m),.p (.sl (Jq3 l)),.p (.agg [.int .i64 n.kind,.int .i64 n.many,.str n.name,.str n.s,.bool n.neg,.int .i64 n.e])] [] (.p (.bool (Jqs m l n))) []:=by
 have hP:=Jv7 n hf
 by_cases hp:Jq0 n
 ·rw [decide_eq_true hp] at hP
  obtain ⟨j,hj,hj5⟩:∃ j:Nat,n.kind=j∧j<5:=by
   have:=Jzl hp.2.2 hp.1
   exact ⟨n.kind.toNat,by omega,by omega⟩
  have hLt:=d_Lets m j hmk (by omega)
  rw [← hj] at hLt
  cases hlt:Jv8 m n.kind with
  | false =>
   rw [hlt] at hLt
   rw [show Jqs m l n=false by unfold Jqs;rw [hlt];simp]
   (refine Jqa false [] Tryz.func61 ?_;refine Ae hm _ _ _ ?_;simp only [Tryz.ntmps61,Tryz.results61,go_sem,simprocAttr])
   (repeat' (first | ((first | (refine Det.use (hP) ?_)|(refine Det.use (hLt) ?_));simp only [go_sem,simprocAttr]) | fail))
  | true =>
   rw [hlt] at hLt
   rw [show Jqs m l n=l.all fun a=>Jsn a n by unfold Jqs;rw [hlt,decide_eq_true hp];rfl]
   rw [← Jzs (l:=l) (m:=l) (i:=0) rfl]
   (refine Jqa false [] Tryz.func61 ?_;refine Ae hm _ _ _ ?_;simp only [Tryz.ntmps61,Tryz.results61,go_sem,simprocAttr,Jqn])
   (repeat' (first | ((first | (refine Det.use (hP) ?_)|(refine Det.use (hLt) ?_));simp only [go_sem,simprocAttr]) | fail))
   refine SWP.loop (fun i:Nat=>⟨Ba 31 [(1,.p (.sl (Jq3 l))),(5,.ptr 5 0 0),(7,.p (.int .i64 i))],[(5,.var 29 [.p (.int .i64 n.kind),.p (.int .i64 n.many),.p (.str n.name),.p (.str n.s),.p (.bool n.neg),.p (.int .i64 n.e)])]⟩) (fun i=>i≤l.length∧allF (memF l n) l.length 0=allF (memF l n) (l.length - i) i) (fun i=>l.length - i) 0 Jqb ⟨Nat.zero_le _,rfl⟩ ?_
   rintro i ⟨h2,h4⟩
   by_cases hi:¬ i<l.length
   ·have c9:((i:Int)<(l.length:Int))=False:=eq_false (by omega)
    rw [show l.length - i=0 by omega,allF] at h4
    (refine Ae hm _ _ _ ?_;simp only [go_sem,simprocAttr,Jqn,c9])
    skip
    rw [h4]
   ·have hi:=Decidable.not_not.1 hi
    have c9:((i:Int)<(l.length:Int))=True:=eq_true (by omega)
    obtain ⟨a,hq⟩:∃ a,l[i]? = some a:=⟨_,List.getElem?_eq_getElem hi⟩
    obtain ⟨k,hk1⟩:∃ k,l.length - i=k+1:=⟨l.length - i - 1,by omega⟩
    have hg:=Jus hq
    have hH:=J4c a n (ha a (List.mem_of_getElem? hq)) hp
    rw [hk1,allF,show memF l n i=Jsn a n by rw [memF,hq]] at h4
    cases hb:Jsn a n with
    | false =>
     rw [hb] at hH h4
     (refine Ae hm _ _ _ ?_;simp only [go_sem,simprocAttr,Jqn,c9])
     (repeat' (first | ((first | (refine Jqd hm ?_)|(refine Det.useQ (hH) ?_));simp only [go_sem,simprocAttr,hg,Bool.not_false]) | fail))
     rw [h4];rfl
    | true =>
     rw [hb,Bool.true_and] at h4
     rw [hb] at hH
     (refine Ae hm _ _ _ ?_;simp only [go_sem,simprocAttr,Jqn,c9,wj1 (i:=i) (by omega)])
     (repeat' (first | ((first | (refine Jqd hm ?_)|(refine Det.useQ (hH) ?_));simp only [go_sem,simprocAttr,hg,wj1 (i:=i) (by omega),Bool.not_true]) | fail))
     exact ⟨i+1,⟨by omega,by rw [h4,show l.length - (i+1)=k by omega]⟩,by omega,Jqb⟩
 ·rw [decide_eq_false hp] at hP
  rw [show Jqs m l n=false by unfold Jqs;rw [decide_eq_false hp];rfl]
  (refine Jqa false [] Tryz.func61 ?_;refine Ae hm _ _ _ ?_;simp only [Tryz.ntmps61,Tryz.results61,go_sem,simprocAttr])
  (repeat' (first | ((refine Det.use (hP) ?_);simp only [go_sem,simprocAttr]) | fail))
end Go.LX
set_option maxRecDepth 100000
set_option maxHeartbeats 2000000
namespace Go.LX
open Go Go.RowKit Go.Proofs
attribute [local irreducible] Al SWP Bi
theorem Jvy (s:List UInt8):(Je s).1.length≤20∧∀ x∈(Je s).1,Bc x:=by
 by_cases h:(Je s).2.2=0
 ·obtain ⟨_,h2,_⟩:=J6k h
  exact h2
 ·obtain ⟨_,h2,_⟩:=J58 h
  rw [h2]
  exact ⟨by simp,by simp⟩
theorem J23:∀ {p:List Step} {t:Tree} {e:Nat},getT p t=.error e→e=5∨e=6
 | [],t,e,h=>by cases h
 | x :: p,t,e,h=>by
  rw [getT] at h
  cases hi:inT t x with
  | error e'=>rw [hi] at h;cases h;exact M2 hi
  | ok w=>rw [hi] at h;exact J23 h
theorem Kco (s:List UInt8) (v:Tree) (hs:s.length≤1000000) (hv:(v.enc []).length≤1000000):Det cx 20 [.p (.str s),.p (.sl (valL (v.enc [])))] [] (.p (.sl (valL (keyV s v)))) []:=by
 obtain ⟨hl,hok⟩:=Jvy s
 have hR:=Jjx s hs
 have hG:=M1 (Je s).1 v (by omega) hok hv
 cases hg:getT (Je s).1 v with
 | ok u =>
  rw [hg] at hG
  simp only [getR] at hG
  rw [show keyV s v=u.enc [] by unfold keyV;rw [hg]]
  (refine Jqa false [] Tryz.func20 ?_;refine Ae hm _ _ _ ?_;simp only [Tryz.ntmps20,Tryz.results20,go_sem,simprocAttr])
  (repeat' (first | ((first | (refine Det.use (hR) ?_)|(refine Det.use (hG) ?_));simp only [go_sem,simprocAttr]) | fail))
 | error e =>
  rw [hg] at hG
  simp only [getR] at hG
  rw [show keyV s v=[] by unfold keyV;rw [hg]]
  have he:=J23 hg
  have c1:((e:Int)=0)=False:=eq_false (by omega)
  refine Det.weak ?_
  (refine Jqa false [] Tryz.func20 ?_;refine Ae hm _ _ _ ?_;simp only [Tryz.ntmps20,Tryz.results20,go_sem,simprocAttr,c1,not_false_eq_true,decide_true])
  (repeat' (first | ((first | (refine Det.use (hR) ?_)|(refine Det.use (hG) ?_));simp only [go_sem,simprocAttr,c1,not_false_eq_true]) | fail))
  exact OLe.of_p .nil
def Jth (s:List UInt8) (l:List KT):List (List PV):=l.map fun q=>[.sl (valL (keyV s q.2))]
@[simp] theorem keysL_nil (s:List UInt8):Jth s []=[]:=rfl
@[simp] theorem Jwq (s:List UInt8) (l:List KT):(Jth s l).length=l.length:=by simp [Jth]
theorem J45 {s:List UInt8} {l:List KT} {k:Nat} {p:KT} (h:l[k]? = some p):Jth s (l.take (k+1))=Jth s (l.take k) ++ [[.sl (valL (keyV s p.2))]]:=by
 rw [List.take_add_one,h];simp [Jth]
theorem J29 (s:List UInt8) (l:List KT) (hs:s.length≤1000000) (hl:l.length≤1000000) (hv:∀ q∈l,(q.2.enc []).length≤1000000):Det cx 60 [.p (.str s),.p (.sl (A4 l))] [] (.p (.sl (Jth s l))) []:=by
 (refine Jqa false [] Tryz.func60 ?_;refine Ae hm _ _ _ ?_;simp only [Tryz.ntmps60,Tryz.results60,go_sem,simprocAttr,A5])
 skip
 refine SWP.of_le (St.le_nilOwn _ (i:=5) (d:=19) 25 1 (.inl (by decide)) rfl) ?_
 simp only [St.nilOwn,St.nilReg,go_sem,simprocAttr,A5]
 refine SWP.loop (fun k:Nat=>⟨Ba 22 [(0,.p (.str s)),(5,.own 19 0 k),(8,.p (.sl (A4 l))),(9,.p (.int .i64 l.length)),(10,.p (.int .i64 k))],[(19,.row 25 1 (Jth s (l.take k)))]⟩) (fun k=>k≤l.length) (fun k=>l.length - k) 0 Jqb (Nat.zero_le _) ?_
 rintro k hk
 by_cases hlt:¬ k<l.length
 ·have hk2:k=l.length:=by omega
  subst hk2
  have c1:((l.length:Int)<(l.length:Int))=False:=eq_false (by omega)
  have ht1:l.take l.length=l:=List.take_of_length_le (Nat.le_refl _)
  have ht2:(Jth s l).take l.length=Jth s l:=List.take_of_length_le (by rw [Jwq];omega)
  have hle:(l.length≤l.length)=True:=eq_true (Nat.le_refl _)
  (refine Ae hm _ _ _ ?_;simp only [go_sem,simprocAttr,c1,ht1,ht2,Jwq,hle])
  skip
 ·have hlt:=Decidable.not_not.1 hlt
  have c1:((k:Int)<(l.length:Int))=True:=eq_true (by omega)
  obtain ⟨p,hp⟩:∃ p,l[k]? = some p:=⟨_,List.getElem?_eq_getElem hlt⟩
  have hg:=Hx hp
  have hK:=Kco s p.2 hs (hv p (List.mem_of_getElem? hp))
  have hpl:(Jth s (l.take k)).length=k:=by rw [Jwq,List.length_take];omega
  have htk:=J45 (s:=s) hp
  (refine Ae hm _ _ _ ?_;simp only [go_sem,simprocAttr,c1,hg,wj1 (i:=k) (by omega)])
  (repeat' (first | ((refine Det.use (hK) ?_);simp only [go_sem,simprocAttr,hpl,wj1 (i:=k) (by omega)]) | fail))
  exact ⟨by simp,by omega,by omega,k+1,by omega,by omega,by rw [htk];exact Jqb⟩
theorem J1q (v u:List Node) (hv:v.length≤1000000) (hu:u.length≤1000000):Det cx 208 [.p (.sl (valL v)),.p (.sl (valL u))] [] (.p (.bool (decide (v=u)))) []:=by
 by_cases hl:v.length=u.length
 ·have c0:((v.length:Int)=(u.length:Int))=True:=eq_true (by omega)
  (refine Jqa false [] Tryz.func208 ?_;refine Ae hm _ _ _ ?_;simp only [Tryz.ntmps208,Tryz.results208,go_sem,simprocAttr,A7,c0,Jma,if_true,if_false,not_true_eq_false,decide_false])
  skip
  refine SWP.loop (fun i:Nat=>⟨Ba 26 [(0,.p (.sl (valL v))),(1,.p (.sl (valL u))),(11,.p (.sl (valL v))),(12,.p (.int .i64 v.length)),(13,.p (.int .i64 i))],[]⟩) (fun i=>i≤v.length∧v.take i=u.take i) (fun i=>v.length - i) 0 Jqb ⟨Nat.zero_le _,rfl⟩ ?_
  rintro i ⟨h1,h3⟩
  by_cases hi:¬ i<v.length
  ·have c1:((i:Int)<(v.length:Int))=False:=eq_false (by omega)
   (refine Ae hm _ _ _ ?_;simp only [go_sem,simprocAttr,decide_false,c1])
   skip
   rw [List.take_of_length_le (by omega),List.take_of_length_le (by omega)] at h3
   exact (decide_eq_true h3).symm
  ·have hi:=Decidable.not_not.1 hi
   have c1:((i:Int)<(v.length:Int))=True:=eq_true (by omega)
   obtain ⟨x,hx⟩:∃ x,v[i]? = some x:=⟨_,List.getElem?_eq_getElem hi⟩
   obtain ⟨y,hy⟩:∃ y,u[i]? = some y:=⟨_,List.getElem?_eq_getElem (by omega)⟩
   have hgx:=P8 hx
   have hgy:=P8 hy
   have w1:=wi1 (i:=i) (by omega)
   (refine Ae hm _ _ _ ?_;simp only [go_sem,simprocAttr,c1])
   skip
   (repeat' (first | (refine iteI (fun h=>?_) (fun h=>?_))|((refine Jqd hm ?_);simp only [go_sem,simprocAttr,Jma,hgx,hgy,w1]) | fail))
   ·have hxy:=(show ¬ x=y by assumption)
    refine (decide_eq_false fun e=>hxy ?_).symm
    subst e;rw [hx] at hy;exact Option.some.inj hy
   ·have hxy:=Decidable.not_not.1 (show ¬ ¬ x=y by assumption)
    subst hxy
    refine ⟨i+1,⟨by omega,?_⟩,by omega,Jqb⟩
    rw [List.take_add_one,List.take_add_one,h3,hx,hy]
 ·have c0:((v.length:Int)=(u.length:Int))=False:=eq_false (by omega)
  (refine Jqa false [] Tryz.func208 ?_;refine Ae hm _ _ _ ?_;simp only [Tryz.ntmps208,Tryz.results208,go_sem,simprocAttr,A7,c0,if_true,if_false,not_false_eq_true,decide_true])
  skip
  exact (decide_eq_false fun e=>hl (by rw [e])).symm
theorem Kal (v u:List Node) (hv:v.length≤1000000) (hu:u.length≤1000000):Det cx 138 [.p (.sl (valL v)),.p (.sl (valL u))] [] (.p (.bool (decide (v=u)))) []:=by
 (refine Jqa false [] Tryz.func138 ?_;refine Ae hm _ _ _ ?_;simp only [Tryz.ntmps138,Tryz.results138,go_sem,simprocAttr])
 (repeat' (first | ((refine Det.use (J1q v u hv hu) ?_);simp only [go_sem,simprocAttr]) | fail))
def Jx4 (t:Tree) (name:List UInt8):Option Tree:=if t.kind=6 then Ch name t.kids.list else none
theorem Jvk (t:Tree) (name:List UInt8) (hv:(t.enc []).length≤1000000):Det cx 133 [.p (.sl (valL (t.enc []))),.p (.str name)] [] (Oo (Jx4 t name)) []:=by
 cases t with
 | mk k s g e kids =>
 rw [A6,List.length_cons] at hv
 by_cases hk:k=6
 ·subst hk
  exact Jdk [] s g e kids name (by omega)
 ·have hf:Jx4 (.mk k s g e kids) name=none:=if_neg hk
  have hg:=Cc [] k s g e kids
  have c1:(k=6)=False:=eq_false hk
  rw [hf,Oo]
  (refine Jqa false [] Tryz.func133 ?_;refine Ae hm _ _ _ ?_;simp only [Tryz.ntmps133,Tryz.results133,go_sem,simprocAttr,hg,c1,not_false_eq_true,decide_true])
  skip
end Go.LX
set_option maxRecDepth 100000
set_option maxHeartbeats 2000000
namespace Go.LX
open Go Go.RowKit Go.Proofs
attribute [local irreducible] Al SWP Bi
theorem J1b (v:List YRow) (i:Nat) (nm:List UInt8) (t:RT) (rest:List YRow) (hv:v.length≤1000000) (h:v.drop i=t.enc nm ++ rest):Det cx 73 [.p (.sl (rowL v)),.p (.int .i64 i)] [] (.p (.int .i64 (i+(t.enc nm).length:Nat))) []:=by
 (refine Jqa false [] Tryz.func73 ?_;refine Ae hm _ _ _ ?_;simp only [Tryz.ntmps73,Tryz.results73,go_sem,simprocAttr])
 have hp:=Jr9 t nm
 have hb:=Ju1 h (fun e=>by have e2:(t.enc nm ++ rest).length=0:=(by rw [e];rfl);rw [List.length_append] at e2;omega)
 rw [List.length_append] at hb
 refine SWP.loop (fun x:Nat×Nat×RF=>⟨Ba 41 [(0,.p (.sl (rowL v))),(1,.p (.int .i64 x.1)),(5,.p (.int .i64 x.2.1))],[]⟩) (fun x=>x.2.1=x.2.2.len∧v.drop x.1=x.2.2.enc ++ rest∧x.1+x.2.2.enc.length=i+(t.enc nm).length) (fun x=>x.2.2.enc.length) (i,1,.cons nm t .nil) Jqb ⟨rfl,by simp [Jqf,Jqt,h],by simp [Jqf,Jqt]⟩ ?_
 rintro ⟨j,left,F⟩ ⟨h0,h1,h2⟩
 simp only at h0 h1 h2
 match F,h0,h1,h2 with
 | .nil,h0,h1,h2 =>
  rw [Jqt] at h2
  simp only [RF.len] at h0
  subst h0
  have c0:((0:Int)<((0:Nat):Int))=False:=eq_false (by omega)
  (refine Ae hm _ _ _ ?_;simp only [go_sem,simprocAttr])
  skip
  simp only [List.length_nil] at h2
  omega
 | .cons nm' (.mk k s g e kids) r,h0,h1,h2 =>
  rw [Jrq] at h0
  rw [Jqf,Jqk] at h1 h2
  have hg:=Jru h1
  rw [Jqy] at hg
  simp only [List.length_cons,List.length_append] at h2
  have hl1:=RF.len_le kids
  have hl2:=RF.len_le r
  have w0:IntKind.i64.wrap ((left:Int) - 1)=(r.len:Int):=by rw [Aa (by omega) (by omega)];omega
  have w1:IntKind.i64.wrap ((r.len:Int)+(kids.len:Int))=((r.len+kids.len:Nat):Int):=by rw [Aa (by omega) (by omega)];omega
  (refine Ae hm _ _ _ ?_;simp only [go_sem,simprocAttr,wj1 (i:=j) (by omega),hg,w0,w1,Jqe])
  (repeat' (first | (refine iteI (fun h=>?_) (fun h=>?_))|(exfalso;omega)))
  ·exact ⟨(j+1,r.len+kids.len,kids.app r),⟨by simp only [RF.len_app];omega,by
    simp only [RF.enc_app]
    rw [← List.drop_drop,h1];simp,by simp only [RF.enc_app,List.length_append];omega⟩,by simp only [RF.enc_app,Jqf,Jqk,List.length_append,List.length_cons];omega,Jqb⟩
theorem J36 (v:List YRow) (hv:v.length≤10000):Det cx 73 [.p (.sl (rowL v)),.p (.int .i64 0)] [] (.p (.int .i64 (Jsj v 0 1))) []:=by
 (refine Jqa false [] Tryz.func73 ?_;refine Ae hm _ _ _ ?_;simp only [Tryz.ntmps73,Tryz.results73,go_sem,simprocAttr,Jqe])
 refine SWP.loop (fun x:Nat×Nat=>⟨Ba 41 [(0,.p (.sl (rowL v))),(1,.p (.int .i64 x.1)),(5,.p (.int .i64 x.2))],[]⟩) (fun x=>x.1≤v.length∧x.2≤1+x.1 * 10000∧Jsj v x.1 x.2=Jsj v 0 1) (fun x=>v.length - x.1) (0,1) Jqb ⟨Nat.zero_le _,by simp,rfl⟩ ?_
 rintro ⟨i,o⟩ ⟨h1,h2,h3⟩
 simp only at h1 h2 h3
 by_cases ho:o=0
 ·subst ho
  rw [J4s] at h3
  have c0:((0:Int)<((0:Nat):Int))=False:=eq_false (by omega)
  (refine Ae hm _ _ _ ?_;simp only [go_sem,simprocAttr])
  skip
  rw [h3]
 ·have c0:((0:Int)<(o:Int))=True:=eq_true (by omega)
  by_cases hi:¬ i<v.length
  ·have c1:((v.length:Int)≤(i:Int))=True:=eq_true (by omega)
   rw [J60 (by omega) (by omega)] at h3
   (refine Ae hm _ _ _ ?_;simp only [go_sem,simprocAttr,Jqe,c0,c1])
   skip
   rw [← h3]
  ·have hi:=Decidable.not_not.1 hi
   have c1:((v.length:Int)≤(i:Int))=False:=eq_false (by omega)
   obtain ⟨n,hn⟩:∃ n,v[i]? = some n:=⟨_,List.getElem?_eq_getElem hi⟩
   have hg:=Jtt hn
   by_cases hb:n.many<0∨(v.length:Int)<n.many
   ·rw [J6p hn (by omega) hb] at h3
    by_cases hb1:n.many<0
    ·have c2:(n.many<0)=True:=eq_true hb1
     (refine Ae hm _ _ _ ?_;simp only [go_sem,simprocAttr,Jqe,c0,c1,c2,hg])
     skip
     rw [← h3]
    ·have c2:(n.many<0)=False:=eq_false hb1
     have c3:((v.length:Int)<n.many)=True:=eq_true (by omega)
     (refine Ae hm _ _ _ ?_;simp only [go_sem,simprocAttr,Jqe,c0,c1,c2,c3,hg])
     skip
     rw [← h3]
   ·have c2:(n.many<0)=False:=eq_false (by omega)
    have c3:((v.length:Int)<n.many)=False:=eq_false (by omega)
    obtain ⟨o',rfl⟩:∃ o',o=o'+1:=⟨o - 1,by omega⟩
    rw [J33 hn hb] at h3
    have w1:IntKind.i64.wrap (((o'+1:Nat):Int) - 1)=(o':Int):=by rw [Aa (by omega) (by omega)];omega
    have w2:IntKind.i64.wrap ((o':Int)+n.many)=((o'+n.many.toNat:Nat):Int):=by rw [Aa (by omega) (by omega)];omega
    have w3:=wj1 (i:=i) (by omega)
    (refine Ae hm _ _ _ ?_;simp only [go_sem,simprocAttr,Jqe,c0,c1,c2,c3,hg,w1,w2,w3])
    skip
    skip
    exact ⟨(i+1,o'+n.many.toNat),⟨by simp only;omega,by simp only;omega,h3⟩,by simp only;omega,Jqb⟩
theorem J0w {v:List YRow} {j:Nat} {nm:List UInt8} {t:RT} {b:List YRow} (h:v.drop j=t.enc nm ++ b):∃ (k n:Int) (s:List UInt8) (g:Int) (e:Node),(rowL v)[j]? = some [.int .i64 k,.int .i64 n,.str nm,.str s,.int .i64 g,.int .i64 e.kind,.int .i64 e.many,.str e.name,.str e.s,.bool e.neg,.int .i64 e.e]:=by
 cases t with
 | mk k s g e kids =>
  rw [Jqk] at h
  exact ⟨k,kids.len,s,g,e,Jru h⟩
theorem J3q (nm:List UInt8) (kd:Int) (s:List UInt8) (g:Int) (e:Node) (kids:RF) (hv:kids.enc.length≤999999) (hk1:kd≠1):Det cx 23 [.p (.sl (rowL ((RT.mk kd s g e kids).enc nm)))] [] (.p (.sl (Jqo kids.list))) []:=by
 have hl:=RF.len_le kids
 have hkl:=RF.list_len kids
 generalize hvv:(RT.mk kd s g e kids).enc nm=v
 have h0:v.drop 0=⟨kd,kids.len,nm,s,g,e⟩ :: kids.enc:=by rw [← hvv,Jqk];rfl
 have hg0:=Jru h0
 rw [Jqy] at hg0
 have hvl:v.length=kids.enc.length+1:=by rw [← hvv,Jqk];rfl
 have hk2:(kd=1)=False:=eq_false hk1
 (refine Jqa false [] Tryz.func23 ?_;refine Ae hm _ _ _ ?_;simp only [Tryz.ntmps23,Tryz.results23,go_sem,simprocAttr,hg0,hk2,not_false_eq_true,decide_true])
 skip
 refine SWP.of_le (B1 [(9,44)] _ (by simp)) ?_
 simp only [go_sem,simprocAttr]
 refine SWP.loop (fun x:Nat×Nat×RF=>⟨Ba 47 [(0,.p (.sl (rowL v))),(3,.own 44 0 x.1),(4,.p (.int .i64 x.2.1)),(5,.p (.int .i64 x.1))],[(44,.row 23 1 (Jqo (kids.list.take x.1)))]⟩) (fun x=>x.1+x.2.2.len=kids.len∧v.drop x.2.1=x.2.2.enc∧x.2.1+x.2.2.enc.length=v.length∧kids.list.drop x.1=x.2.2.list) (fun x=>x.2.2.enc.length) (0,1,kids) Jqb ⟨by simp,by rw [← hvv,Jqk];rfl,by simp only;omega,rfl⟩ ?_
 rintro ⟨k,j,F⟩ ⟨h1,h2,h3,h4⟩
 simp only at h1 h2 h3 h4 ⊢
 match F,h1,h2,h3,h4 with
 | .nil,h1,h2,h3,h4 =>
  simp only [RF.len] at h1
  have hkk:k=kids.len:=by omega
  subst hkk
  have hpl:(kids.len≤(Jqo (kids.list.take kids.len)).length)=True:=eq_true (by rw [Jq9,List.length_take];omega)
  have htk:(Jqo (kids.list.take kids.len)).take kids.len=Jqo kids.list:=by
   rw [List.take_of_length_le (by rw [Jq9,List.length_take];omega),List.take_of_length_le (by omega)]
  (refine Ae hm _ _ _ ?_;simp only [go_sem,simprocAttr,hg0,hk2,not_false_eq_true,hpl,htk])
  (repeat' (first | (refine iteI (fun h=>?_) (fun h=>?_))|(exact True.intro)|(exfalso;omega)))
  skip
 | .cons nm' (.mk k' s' g' e' kids') r,h1,h2,h3,h4 =>
  rw [Jrq] at h1
  rw [Jqf] at h2 h3
  rw [List.length_append] at h3
  have hkk:kids.list[k]? = some (nm',.mk k' s' g' e' kids'):=by
   have:=congrArg (·[0]?) h4
   simpa [RF.list] using this
  have hpk:=Jxa hkk
  rw [Jqk,Jts,Jqy] at hpk
  have hpl:(Jqo (kids.list.take k)).length=k:=by rw [Jq9,List.length_take];omega
  have hs:=J0v h2
  have hel:((RT.mk k' s' g' e' kids').enc nm').length=kids'.enc.length+1:=by rw [Jqk];rfl
  have hs':((rowL v).drop j).take (j+((RT.mk k' s' g' e' kids').enc nm').length - j)=[.int .i64 k',.int .i64 kids'.len,.str nm',.str s',.int .i64 g',.int .i64 e'.kind,.int .i64 e'.many,.str e'.name,.str e'.s,.bool e'.neg,.int .i64 e'.e] :: rowL kids'.enc:=by
   rw [Nat.add_sub_cancel_left,hs,Jqk,Jts,Jqy]
  have h6:∀ q∈[.int .i64 k',.int .i64 kids'.len,.str nm',.str s',.int .i64 g',.int .i64 e'.kind,.int .i64 e'.many,.str e'.name,.str e'.s,.bool e'.neg,.int .i64 e'.e] :: rowL kids'.enc,q.length=11:=fun q hq=>Jtz ((RT.mk k' s' g' e' kids').enc nm') q (by rw [Jqk];exact hq)
  have htk:(rowL kids'.enc).take kids'.enc.length=rowL kids'.enc:=List.take_of_length_le (by simp)
  (refine Ae hm _ _ _ ?_;simp only [go_sem,simprocAttr,hg0,hk2,not_false_eq_true,wj1 (i:=k) (by omega),hpl,Nat.le_refl])
  (repeat' (first | (refine And.intro (Jtz _) ?_)|(refine iteI (fun h=>?_) (fun h=>?_))|(refine Jsx ?_)|((refine Det.use (J1b v j nm' (.mk k' s' g' e' kids') r.enc (by omega) h2) ?_);simp only [go_sem,simprocAttr,not_false_eq_true,wj1 (i:=k) (by omega),hs',htk,hpl,Jqe,Nat.le_refl])|(exfalso;omega)))
  refine ⟨by simp,by omega,by omega,(k+1,j+((RT.mk k' s' g' e' kids').enc nm').length,r),⟨by simp only;omega,by simp only;rw [← List.drop_drop,h2,List.drop_left],by simp only;omega,by simp only;rw [← List.drop_drop,h4];rfl⟩,by have:=Jr9 (.mk k' s' g' e' kids') nm';simp only [Jqf,List.length_append];omega,?_⟩
  simp only
  rw [hpk]
  exact Jqb
end Go.LX
