/- Alignment, the laws: AlignSame. -/
import Derived.Test.YtpdaccjebbbbaaaDoorLxU
import Derived.Test.YtpdaccjebbbbaaaDoorCards
import Derived.Test.YtpdaccjebbbbaaaDoorTie
import Derived.Deep.DeepHandedRow
import Derived.Deep.DeepWitnessRowRef
import Derived.Deep.Slices
import Derived.Lib.LaidIn
import Derived.Lib.LaidU8T
import Derived.Lib.LaidTab
import Derived.SizedLaws
import Derived.Test.YtpdaccjebbbbaaaDoorLxP
set_option linter.unusedSimpArgs false
set_option linter.unusedVariables false
set_option linter.unusedSectionVars false
set_option linter.unnecessarySimpa false
set_option maxRecDepth 100000
set_option maxHeartbeats 2000000
namespace Go.LX
open Go Go.RowKit Go.Proofs
attribute [local irreducible] Al SWP Bi
attribute [go_sem] Tryd.ntmps5 Tryd.results5
end Go.LX
namespace Go.LX
open Go Go.Proofs Go.RowKit Go.ChangeShapes Go.WideShapes Go.ChangeAt Go.Lib
open Go.Proofs.YtpdaccjebbbbaaaDoor
theorem J6c {P:Program} {W:World} {r:Reach} {b:Nat} {t:TypeId} {k:IntKind} {v:Value} (ht:P.underlying t=some (.int k)) (h:Cell.okWide P W r b t v):∃ n,v=.int k n∧k.has n:=by
 simp only [Cell.okWide,Cell.ok,ht] at h;cases v <;> simp_all
theorem nat_of {k:IntKind} {n m:Int} (h:k.has n) (h0:k.min=0) (h1:k.max=m):∃ i:Nat,n=i∧(i:Int)≤m:=by
 unfold IntKind.has at h;exact ⟨n.toNat,by omega,by omega⟩
theorem argU8 {W:World} {b:Nat} {v:Value} (h:Value.okWide Tryd.prog W .any b 5 v):∃ n:Nat,v=.int .u8 n∧n≤255:=by
 simp only [Value.okWide,Tryd.underlying5] at h;obtain ⟨n,rfl,hn⟩:=J6c Tryd.underlying5 h;obtain ⟨i,rfl,hi⟩:=nat_of hn de (m:=255) de;exact ⟨i,rfl,by omega⟩
end Go.LX
namespace Go.LX
open Go Go.RowKit Go.Proofs
attribute [local irreducible] Al SWP Bi
theorem J22 (ts:List Tree) (n:Nat):encs (ts.take n)=(encs ts).take n:=by simp [encs,List.map_take]
theorem J0k (vs:List (List Node)) (n:Nat) (hv:ValsFit vs) (hn:n≤255):Det cx 5 [.p (.sl (Jqe vs)),.p (.int .u8 n)] [] (.p (.bool true)) []:=by
 have hA:=J2s vs 60 omg hv.len fun v h=>⟨(hv.each v h).len,(hv.each v h).node⟩
 cases hb:allB vs 60 with
 | false =>
  rw [hb] at hA;(refine bgo Tryd.func5 ?_;simp only [go_sem,simprocAttr]);(repeat' (first | ((first | (refine Jqa (hA) ?_)|(refine Jqa (Jqr) ?_));simp only [go_sem,simprocAttr]) | fail))
 | true =>
  rw [hb] at hA;obtain ⟨ts,a⟩:=Jq6 hv hb;have hvo:∀ v∈vs,v.length≤1000000:=fun v h=>by have:=a.each v h;omega
  have l1:=a.n;have l2:=a.m;obtain ⟨r,hr⟩:∃ r,r=n % (vs.length+1):=⟨_,rfl⟩
  have hrl:r≤vs.length:=by have:=Nat.mod_lt n (show 0<vs.length+1 by omega);omega
  have htl:∀ v∈vs.take r,v.length≤1000000:=fun v h=>hvo v (List.mem_of_mem_take h)
  have htn:(vs.take r).length=r:=by rw [List.length_take];omega
  have hK1:=Jt2 ts ts omg omg a.ok a.ok;have hK2:=Jt2 ts (ts.take r) omg (by rw [List.length_take];omega) a.ok (fun t h=>a.ok t (List.mem_of_mem_take h));rw [J22] at hK2;rw [← a.eq] at hK1 hK2;have k1:=J0b vs vs.length (Nat.le_refl _);rw [List.take_length] at k1;rw [k1] at hK1;rw [J0b vs r hrl] at hK2;have hO1:=Jr1 vs vs omg omg hvo hvo;have hO2:=Jr1 vs (vs.take r) omg omg hvo htl;have q1:=Jw8 vs vs.length (Nat.le_refl _);rw [List.take_length] at q1;rw [q1] at hO1;rw [Jw8 vs r hrl] at hO2;have hO3:Det cx 14 [.p .snil,.p (.sl (Jqe vs))] [] (.p (.sl (Jqb (List.replicate vs.length (-1))))) []:=by
   have:=Jr1 [] vs sm omg sm hvo;rw [J15] at this;exact Jwq (args':=[.p (.sl []),.p (.sl (Jqe vs))]) ⟨(Au _ _).2 (.inr ⟨rfl,rfl⟩),Ai _,trivial⟩ this
  have hL1:=Jq4 vs vs omg omg hvo hvo;have hL2:=Jq4 vs (vs.take r) omg omg hvo htl;rw [Jxn] at hL1;rw [J4u vs r hrl] at hL2;have hI1:=Jv3 (Jqp vs.length) (Jqp vs.length) (by rw [Jqx];omega) (by rw [Jqx];omega);have hI2:=Jv3 (Jqp r) (Jqp r) (by rw [Jqx];omega) (by rw [Jqx];omega);rw [decide_eq_true rfl] at hI1 hI2;have w1:IntKind.i64.wrap (n:Int)=(n:Int):=Aa omg omg;have w2:IntKind.i64.wrap ((vs.length:Int)+1)=((vs.length+1:Nat):Int):=wj1 omg;have t1:(Jqe vs).take r=Jqe (vs.take r):=by simp [Jqe,List.map_take]
  have t2:(Jqb (Jqp vs.length)).take r=Jqb (Jqp r):=by unfold Jqb;rw [← List.map_take,Jzs hrl]
  have ol:(vs.length≤vs.length)=True:=eq_true (Nat.le_refl _);have ot:(Jqb (Jqp vs.length)).take vs.length=Jqb (Jqp vs.length):=List.take_of_length_le (by rw [Jqc,Jqx];exact Nat.le_refl _);have tm:(n:Int).tmod ((vs.length+1:Nat):Int)=(r:Int):=by subst hr;rfl
  (refine bgo Tryd.func5 ?_;simp only [go_sem,simprocAttr]);(repeat' (first | ((refine Jqa (hA) ?_);simp only [go_sem,simprocAttr]) | fail));refine Jq8 (B1 [(16,26)] _ sm) ?_;simp only [go_sem,simprocAttr];refine SWP.loop (fun i:Nat=>⟨Ba 108 [(0,.p (.sl (Jqe vs))),(1,.p (.int .u8 n)),(5,.own 26 0 i),(6,.p (.int .i64 i))],[(26,.row 3 1 (Jqb (Jqp i)))]⟩) (fun i=>i≤vs.length) (fun i=>vs.length - i) 0 (by rw [show Jqb (Jqp 0)=[] from rfl];exact Jqd) (Nat.zero_le _) ?_;rintro i i1;by_cases hi:i<vs.length
  ·have c1:((i:Int)<(vs.length:Int))=True:=eq_true omg;have w3:IntKind.i64.wrap ((i:Int)+1)=((i+1:Nat):Int):=wj1 omg;have hs:Jqb (Jqp i) ++ [[.int .i64 (i:Int)]]=Jqb (Jqp (i+1)):=by rw [Jvd,Jrf];rfl
   (refine lws ?_;simp only [go_sem,simprocAttr,Ht,Jqc,Jqx,c1,w3,hs]);(repeat' (first | (refine And.intro (by first | (simp;done)|(simp;omega) | omega) ?_) | fail));exact ⟨i+1,hi,by omega,Jqd⟩
  ·have c1:((i:Int)<(vs.length:Int))=False:=eq_false omg;obtain rfl:i=vs.length:=by omega
   (refine lws ?_;simp only [go_sem,simprocAttr,tm,Ht,w1,w2,t1,c1]);(repeat' (first | (refine And.intro (by first | exact Jvz _ | exact Jrh _ | (simp;done)|(simp;omega) | omega) ?_)|((first | (refine Jqa (hK1) ?_)|(refine Jqa (hK2) ?_)|(refine Jqa (hO1) ?_)|(refine Jqa (hO2) ?_)|(refine Jqa (hO3) ?_)|(refine Jqa (hL1) ?_)|(refine Jqa (hI1) ?_));simp only [go_sem,simprocAttr,Ht,Jqc,ol,ot,Jqx]) | fail));refine SWP.loop (fun i:Nat=>⟨Ba 108 [(0,.p (.sl (Jqe vs))),(5,.p (.sl (Jqb (Jqp vs.length)))),(7,.p (.sl (Jqe (vs.take r)))),(8,.p (.sl (Jqb (Jqp r)))),(9,.p (.sl (Jqb (Jqp r)))),(10,.p (.sl (Jqb (List.replicate vs.length (-1))))),(11,.p (.int .i64 i))],[]⟩) (fun i=>i≤vs.length) (fun i=>vs.length - i) 0 Jqd (Nat.zero_le _) ?_;clear i1 hi c1;rintro i i1;by_cases hi:i<vs.length
   ·have c1:((i:Int)<(vs.length:Int))=True:=eq_true omg;have w3:IntKind.i64.wrap ((i:Int)+1)=((i+1:Nat):Int):=wj1 omg;have g1:(Jqb (List.replicate vs.length (-1)))[i]? = some [.int .i64 (-1)]:=Jqg (by rw [List.getElem?_replicate,if_pos hi]);(refine lws ?_;simp only [go_sem,simprocAttr,Jqc,List.length_replicate,c1,c1,w3,g1]);exact ⟨i+1,hi,by omega,Jqd⟩
   ·have c1:((i:Int)<(vs.length:Int))=False:=eq_false omg;have rr:(r≤vs.length)=True:=eq_true hrl;(refine lws ?_;simp only [go_sem,simprocAttr,Jqc,List.length_replicate,c1,c1]);(repeat' (first | (refine And.intro (by first | exact Jvz _ | exact Jrh _ | (simp;done)|(simp;omega) | omega) ?_)|((first | (refine Jqa (hL2) ?_)|(refine Jqa (hI2) ?_)|(refine Jqa (Jqr) ?_));simp only [go_sem,simprocAttr,Ht,Jqc,t2,htn,Jqx,List.length_replicate]) | fail))
end Go.LX
