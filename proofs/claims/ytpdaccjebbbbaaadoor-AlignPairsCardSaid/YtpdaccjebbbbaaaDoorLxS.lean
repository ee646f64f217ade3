/- Alignment, the document: numbers the same; how many ahead; by keys. -/
import Derived.Test.YtpdaccjebbbbaaaDoorLxR
import Derived.Test.YtpdaccjebbbbaaaDoorLxP
import Derived.Test.YtpdaccjebbbbaaaDoorLxM
import Derived.Test.YtpdaccjebbbbaaaDoorLxO
import Derived.Test.YtpdaccjebbbbaaaDoorLxL
import Derived.Shelf.Strings.FuncGrows
import Derived.Lib.TrimUEq
import Derived.Lib.TrimAscii
import Derived.Lib.ItoaNum
import Derived.Lib.Repeat
import Derived.Lib.Bytealg
import Derived.WalkKit
import Derived.Shelf.Strings.Builder1
import Derived.Shelf.Strings.Builder2
import Derived.Shelf.Strings.BuilderF
import Derived.Shelf.Strconv.Itoa0
import Derived.Shelf.Strconv.Itoa1
import Derived.Shelf.LaysM
import Derived.Shelf.Strconv.Itoa2
import Derived.Shelf.Strconv.Itoa3
import Derived.Shelf.Strconv.Itoa4
import Derived.Shelf.Strings.Prefix
import Derived.Shelf.Bits.Mul64
import Derived.Shelf.Strings.Repeat
import Derived.Test.YtpdaccjebbbbaaaDoorProg
import Derived.Test.YtpdaccjebbbbaaaDoorLxN
set_option linter.unusedSimpArgs false
set_option linter.unusedVariables false
set_option linter.unusedSectionVars false
set_option linter.unnecessarySimpa false
set_option maxRecDepth 100000
set_option maxHeartbeats 2000000
namespace Go.LX
open Go Go.RowKit Go.Proofs
attribute [local irreducible] Al SWP Bi
attribute [go_sem] Tryd.ntmps11 Tryd.results11 Tryd.ntmps20 Tryd.results20 Tryd.ntmps24 Tryd.results24
theorem Jv3 (a b:List Int) (ha:a.length≤1000000) (hb:b.length≤1000000):Det cx 11 [.p (.sl (Jqb a)),.p (.sl (Jqb b))] [] (.p (.bool (decide (a=b)))) []:=by
 by_cases hl:a.length=b.length
 ·have c0:((a.length:Int)=(b.length:Int))=True:=eq_true omg;(refine bgo Tryd.func11 ?_;simp only [go_sem,simprocAttr,Jqc,c0]);refine SWP.loop (fun i:Nat=>⟨Ba 26 [(0,.p (.sl (Jqb a))),(1,.p (.sl (Jqb b))),(5,.p (.int .i64 i))],[]⟩) (fun i=>i≤a.length∧a.take i=b.take i) (fun i=>a.length - i) 0 Jqd ⟨Nat.zero_le _,rfl⟩ ?_;rintro i ⟨h1,h3⟩;by_cases hi:¬ i<a.length
  ·have c1:((i:Int)<(a.length:Int))=False:=eq_false omg;(refine lws ?_;simp only [go_sem,simprocAttr,Jqc,c1]);rw [List.take_of_length_le omg,List.take_of_length_le omg] at h3;exact (decide_eq_true h3).symm
  ·have hi:=Decidable.not_not.1 hi;have c1:((i:Int)<(a.length:Int))=True:=eq_true omg;obtain ⟨x,hx⟩:∃ x,a[i]? = some x:=⟨_,List.getElem?_eq_getElem hi⟩
   obtain ⟨y,hy⟩:∃ y,b[i]? = some y:=⟨_,List.getElem?_eq_getElem omg⟩
   have hgx:=Jqg hx;have hgy:=Jqg hy;have w1:IntKind.i64.wrap ((i:Int)+1)=((i+1:Nat):Int):=wj1 omg;(refine lws ?_;simp only [go_sem,simprocAttr,Jqc,c1]);(repeat' (first | (apply iteI <;> intro h)|((refine Jqy ?_);simp only [go_sem,simprocAttr,hgx,hgy,w1]) | fail))
   ·have hxy:=(show ¬ x=y by assumption)
    refine (decide_eq_false fun e=>hxy ?_).symm;subst e;rw [hx] at hy;exact Option.some.inj hy
   ·have hxy:=Decidable.not_not.1 (show ¬ ¬ x=y by assumption);subst hxy;refine ⟨i+1,⟨by omega,?_⟩,by omega,Jqd⟩;rw [List.take_add_one,List.take_add_one,h3,hx,hy]
 ·have c0:((a.length:Int)=(b.length:Int))=False:=eq_false omg;(refine bgo Tryd.func11 ?_;simp only [go_sem,simprocAttr,Jqc,c0]);exact (decide_eq_false fun e=>hl (by rw [e])).symm
theorem J1c {vs:List (List Node)} {i:Nat} {v:List Node} (h:vs[i]? = some v) (y:List Node):cntD y (vs.take (i+1))=cntD y (vs.take i)+if v=y then 1 else 0:=by
 rw [List.take_add_one,h,Option.toList_some,Jxu,Jsk,Jtr];omega
theorem J6g {α:Type} [DecidableEq α] (y:α) (l:List α):cntD y l≤l.length:=List.count_le_length
theorem J4o (y:List Node) (vs:List (List Node)):cntD y vs≤vs.length:=J6g y vs
theorem J2v (vs:List (List Node)) (p:Nat) (y:List Node) (hy:vs[p]? = some y) (hn:vs.length≤100000) (hv:∀ v∈vs,v.length≤1000000):Det cx 24 [.p (.sl (Jqe vs)),.p (.int .i64 p)] [] (.p (.int .i64 (cntD y (vs.take p):Nat))) []:=by
 have hp:=(List.getElem?_eq_some_iff.1 hy).1;have g1:=Jqj hy;have hyl:=hv y (List.mem_of_getElem? hy);(refine bgo Tryd.func24 ?_;simp only [go_sem,simprocAttr]);refine SWP.loop (fun i:Nat=>⟨Ba 24 [(0,.p (.sl (Jqe vs))),(1,.p (.int .i64 p)),(5,.p (.int .i64 (cntD y (vs.take i):Nat))),(6,.p (.int .i64 i))],[]⟩) (fun i=>i≤p) (fun i=>p - i) 0 (by simp only [List.take_zero,Jtr];exact Jqd) (Nat.zero_le _) ?_;rintro i h1;by_cases hi:¬ i<p
 ·have c1:((i:Int)<(p:Int))=False:=eq_false omg;obtain rfl:i=p:=by omega
  (refine lws ?_;simp only [go_sem,simprocAttr,c1])
  skip
 ·have hi:=Decidable.not_not.1 hi;have c1:((i:Int)<(p:Int))=True:=eq_true omg;obtain ⟨v,hvi⟩:∃ v,vs[i]? = some v:=⟨_,List.getElem?_eq_getElem omg⟩
  have g2:=Jqj hvi;have hS:=E2 v y (hv v (List.mem_of_getElem? hvi)) hyl;have hc:=J1c hvi y;have hc1:=J4o y (vs.take i);rw [List.length_take] at hc1;have w1:IntKind.i64.wrap ((i:Int)+1)=((i+1:Nat):Int):=wj1 omg;have w2:IntKind.i64.wrap (((cntD y (vs.take i):Nat):Int)+1)=((cntD y (vs.take i)+1:Nat):Int):=wj1 omg;(refine lws ?_;simp only [go_sem,simprocAttr,c1]);(repeat' (first | (apply iteI <;> intro h)|((first | (refine Jqy ?_)|(refine Jqh (hS) ?_));simp only [go_sem,simprocAttr,g1,g2,w1,w2]) | fail))
  ·rw [if_pos (by assumption)] at hc;exact ⟨i+1,hi,by omega,by rw [hc];exact Jqd⟩
  ·rw [if_neg (by assumption)] at hc;exact ⟨i+1,hi,by omega,by rw [hc];exact Jqd⟩
theorem J2i (vs:List (List Node)) (y:List Node) (hn:vs.length≤100000) (hv:∀ v∈vs,v.length≤1000000) (hyl:y.length≤1000000):Det cx 20 [.p (.sl (Jqe vs)),.p (.sl (valL y))] [] (.p (.int .i64 (cntD y vs:Nat))) []:=by
 (refine bgo Tryd.func20 ?_;simp only [go_sem,simprocAttr]);refine SWP.loop (fun i:Nat=>⟨Ba 22 [(0,.p (.sl (Jqe vs))),(1,.p (.sl (valL y))),(5,.p (.int .i64 (cntD y (vs.take i):Nat))),(6,.p (.int .i64 i))],[]⟩) (fun i=>i≤vs.length) (fun i=>vs.length - i) 0 (by simp only [List.take_zero,Jtr];exact Jqd) (Nat.zero_le _) ?_;rintro i h1;by_cases hi:¬ i<vs.length
 ·have c1:((i:Int)<(vs.length:Int))=False:=eq_false omg;have ht:vs.take i=vs:=List.take_of_length_le omg;(refine lws ?_;simp only [go_sem,simprocAttr,Ht,c1,ht])
  skip
 ·have hi:=Decidable.not_not.1 hi;have c1:((i:Int)<(vs.length:Int))=True:=eq_true omg;obtain ⟨v,hvi⟩:∃ v,vs[i]? = some v:=⟨_,List.getElem?_eq_getElem omg⟩
  have g2:=Jqj hvi;have hS:=E2 v y (hv v (List.mem_of_getElem? hvi)) hyl;have hc:=J1c hvi y;have hc1:=J4o y (vs.take i);rw [List.length_take] at hc1;have w1:IntKind.i64.wrap ((i:Int)+1)=((i+1:Nat):Int):=wj1 omg;have w2:IntKind.i64.wrap (((cntD y (vs.take i):Nat):Int)+1)=((cntD y (vs.take i)+1:Nat):Int):=wj1 omg;(refine lws ?_;simp only [go_sem,simprocAttr,Ht,c1,g2]);(repeat' (first | (apply iteI <;> intro h)|((refine Jqa (hS) ?_);simp only [go_sem,simprocAttr,w1,w2]) | fail))
  ·rw [if_pos (by assumption)] at hc;exact ⟨i+1,hi,by omega,by rw [hc];exact Jqd⟩
  ·rw [if_neg (by assumption)] at hc;exact ⟨i+1,hi,by omega,by rw [hc];exact Jqd⟩
attribute [go_sem] Tryd.ntmps29 Tryd.results29
section
variable {α:Type} [DecidableEq α]
theorem J17 (old now:List α):tabM old now (old.length+1)=List.replicate (old.length+1) [.p .snil]:=by
 refine List.ext_getElem? fun j=>?_
 by_cases hj:j<old.length+1
 ·rw [Jr2 hj omg,List.getElem?_replicate,if_pos hj]
 ·rw [List.getElem?_eq_none (by simp;omega),List.getElem?_eq_none (by simp;omega)]
theorem J16 (old now:List α) (k:Nat):(List.replicate (old.length+1) [PV.snil]).map (List.map L.p) ++ List.replicate k [L.junk]=tabJ old now (old.length+1) k:=by
 unfold tabJ;rw [J17,List.map_replicate];rfl
theorem J4p {old now:List α} {i k:Nat} (h:i≤old.length):(tabJ old now (i+1) k).set i [.p (.sl (Jqb (rowK old now i 0)))]=tabJ old now i k:=by
 unfold tabJ;rw [List.set_append_left _ _ (by simp;omega)];congr 1;refine List.ext_getElem? fun j=>?_
 rw [List.getElem?_set];by_cases hj:j<old.length+1
 ·by_cases e:i=j
  ·subst e;rw [if_pos rfl,if_pos (by simp;omega),Jrx (Nat.le_refl _) omg]
  ·rw [if_neg e];by_cases hk:i+1≤j
   ·rw [Jrx hk omg,Jrx omg omg]
   ·rw [Jr2 omg omg,Jr2 omg omg]
 ·rw [if_neg omg,List.getElem?_eq_none (by simp;omega),List.getElem?_eq_none (by simp;omega)]
theorem J3m {old now:List α} {i k:Nat} {x y:α} (hx:old[i]? = some x) (hy:now[k]? = some y):Jqk old now i k=if x=y then max (max (Jqk old now (i+1) k) (Jqk old now i (k+1))) (1+Jqk old now (i+1) (k+1)) else max (Jqk old now (i+1) k) (Jqk old now i (k+1)):=by
 have ha:=(List.getElem?_eq_some_iff.1 hx).1;have hb:=(List.getElem?_eq_some_iff.1 hy).1;have e1:old.drop i=x :: old.drop (i+1):=by rw [List.drop_eq_getElem_cons ha];congr 1;rw [List.getElem?_eq_getElem ha] at hx;exact Option.some.inj hx
 have e2:now.drop k=y :: now.drop (k+1):=by rw [List.drop_eq_getElem_cons hb];congr 1;rw [List.getElem?_eq_getElem hb] at hy;exact Option.some.inj hy
 unfold Jqk;rw [e1,e2,J5p]
end
theorem Jxm (old now:List (List Node)) (ho:old.length≤100000) (hn:now.length≤100000) (hvo:∀ v∈old,v.length≤1000000) (hvn:∀ v∈now,v.length≤1000000):Det cx 29 [.p (.sl (Jqe old)),.p (.sl (Jqe now))] [] (.p (.sl (tabL old now))) []:=by
 have w1:IntKind.i64.wrap ((old.length:Int)+1)=((old.length+1:Nat):Int):=wj1 omg;have w2:IntKind.i64.wrap ((now.length:Int)+1)=((now.length+1:Nat):Int):=wj1 omg;have w3:IntKind.i64.wrap ((now.length:Int) - 1)=(now.length:Int) - 1:=Aa omg omg;have hz:List.replicate (now.length+1) [PV.int .i64 0]=Jqb (rowK old now (0:Nat) now.length):=by rw [Jta,Jrn]
 (refine bgo Tryd.func29 ?_;simp only [go_sem,simprocAttr,Ht,w1]);(repeat' (first | (refine Jqs ?_) | fail));refine Jxq (d:=12) (T:=26) (es:=List.replicate (old.length+1) [PV.snil]) rfl sm fun sp=>?_
 rw [J16 old now];simp only [go_sem,simprocAttr];refine SWP.loop (fun r:Nat=>⟨Ba 85 [(0,.p (.sl (Jqe old))),(1,.p (.sl (Jqe now))),(5,.own 12 0 (old.length+1)),(6,.p (.int .i64 ((r:Int) - 1)))],[(12,.lrow 26 1 true (tabJ old now r sp))]⟩) (fun r=>r≤old.length+1) (fun r=>r) (old.length+1) (by rw [show ((old.length+1:Nat):Int) - 1=(old.length:Int) by omega];exact Jqd) (Nat.le_refl _) ?_;rintro r h1;cases r with
 | zero =>
  have c1:(0≤((0:Nat):Int) - 1)=False:=eq_false omg;have hl3:(old.length+1≤(tabL old now).length)=True:=eq_true sm;have ht3:List.take (old.length+1) (tabL old now)=tabL old now:=List.take_of_length_le sm;refine J2j (old.length+1) (d:=12) (es:=tabL old now) rfl (Jyl old now sp) ?_;simp only [go_sem,simprocAttr];(refine lws ?_;simp only [go_sem,simprocAttr,hl3,ht3])
  skip
 | succ i =>
  have c1:(0≤((i+1:Nat):Int) - 1)=True:=eq_true omg;have e1:((i+1:Nat):Int) - 1=(i:Int):=by omega
  have hst:List.replicate (now.length+1) [PV.int .i64 0]=Jqb (rowK old now i now.length):=by rw [Jta,Jrn]
  have w4:IntKind.i64.wrap ((i:Int) - 1)=(i:Int) - 1:=Aa omg omg;have w5:IntKind.i64.wrap ((i:Int)+1)=((i+1:Nat):Int):=wj1 omg;(refine lws ?_;simp only [go_sem,simprocAttr,Ht,w2,w3,Jtq,e1,hst]);(repeat' (first | (refine Jqs ?_) | fail));refine SWP.loop (fun m:Nat=>⟨Ba 85 [(0,.p (.sl (Jqe old))),(1,.p (.sl (Jqe now))),(5,.own 12 0 (old.length+1)),(6,.p (.int .i64 i)),(7,.own 22 0 (now.length+1)),(8,.p (.int .i64 ((m:Int) - 1)))],[(22,.row 3 1 (Jqb (rowK old now i m))),(12,.lrow 26 1 true (tabJ old now (i+1) sp))]⟩) (fun m=>m≤now.length∧(i=old.length→m=now.length)) (fun m=>m) now.length Jqd ⟨Nat.le_refl _,fun _=>rfl⟩ ?_;rintro m ⟨h2,h3⟩;have hout:¬ (0<m∧i<old.length)→rowK old now i m=rowK old now i 0:=by
   intro h;by_cases hi:i=old.length
   ·have:=h3 hi;subst this;subst hi;rw [Jta,Jyt]
   ·have:m=0:=by omega
    rw [this]
  have hput:=J4p (old:=old) (now:=now) (i:=i) (k:=sp) omg;have hgi:(tabJ old now (i+1) sp)[i]? = some [.p .snil]:=Jyz omg omg;have hl2:(now.length+1≤(Jqb (rowK old now i 0)).length)=True:=eq_true sm;have ht2:List.take (now.length+1) (Jqb (rowK old now i 0))=Jqb (rowK old now i 0):=List.take_of_length_le sm;cases m with
  | zero =>
   have c2:(0≤((0:Nat):Int) - 1)=False:=eq_false omg;(refine lws ?_;simp only [go_sem,simprocAttr,w4,hgi]);(repeat' (first | (refine Jqs ?_) | fail));refine ⟨i,by omega,by omega,(Jq7 _ (d:=22)).trans ?_⟩;simp only [go_sem,simprocAttr,Jsa,List.map_set,hput,hl2,ht2];exact Jqd
  | succ m =>
   have c2:(0≤((m+1:Nat):Int) - 1)=True:=eq_true omg;have e2:((m+1:Nat):Int) - 1=(m:Int):=by omega
   by_cases hi:i<old.length
   ·have c3:((i:Int)<(old.length:Int))=True:=eq_true omg;obtain ⟨x,hx⟩:∃ x,old[i]? = some x:=⟨_,List.getElem?_eq_getElem hi⟩
    obtain ⟨y,hy⟩:∃ y,now[m]? = some y:=⟨_,List.getElem?_eq_getElem omg⟩
    have hS:=E2 x y (hvo x (List.mem_of_getElem? hx)) (hvn y (List.mem_of_getElem? hy));have hlen:=J0s old now;have q1:=Jqj hx;have q2:=Jqj hy;have g1:(tabJ old now (i+1) sp)[i+1]? = some [.p (.sl (Jqb (rowK old now (i+1) 0)))]:=J1h (Nat.le_refl _) omg;have g2:(Jqb (rowK old now (i+1) 0))[m+1]? = some [.int .i64 (Jqk old now (i+1) (m+1))]:=Jqg (Jq2 (Nat.zero_le _) omg);have g3:(Jqb (rowK old now (i+1) 0))[m]? = some [.int .i64 (Jqk old now (i+1) m)]:=Jqg (Jq2 (Nat.zero_le _) omg);have g4:(Jqb (rowK old now i (m+1)))[m+1]? = some [.int .i64 (Jqk old now i (m+1))]:=Jqg (Jq2 (Nat.le_refl _) omg);have g7:(Jqb (rowK old now i (m+1)))[m]? = some [.int .i64 0]:=Jqg (Jye omg);obtain ⟨u,hu⟩:∃ u:Int,u=max ((Jqk old now (i+1) m:Nat):Int) ((Jqk old now i (m+1):Nat):Int):=⟨_,rfl⟩
    have g8:(Jqb ((rowK old now i (m+1)).set m u))[m]? = some [.int .i64 u]:=Jqg (by rw [List.getElem?_set_self (by simp;omega)]);have s1:(Jqb (rowK old now i (m+1))).set m [.int .i64 u]=Jqb ((rowK old now i (m+1)).set m u):=Jrg _ _ _;have w6:IntKind.i64.wrap ((m:Int)+1)=((m+1:Nat):Int):=wj1 omg;have w7:IntKind.i64.wrap ((m:Int) - 1)=(m:Int) - 1:=Aa omg omg;have w8:IntKind.i64.wrap (1+((Jqk old now (i+1) (m+1):Nat):Int))=1+((Jqk old now (i+1) (m+1):Nat):Int):=Aa omg (by have:=hlen (i+1) (m+1);omega);have hcs:=J3m hx hy;have hset:∀ z:Int,z=(Jqk old now i m:Int)→((rowK old now i (m+1)).set m u).set m z=rowK old now i m:=by
     rintro z rfl;rw [List.set_set,Jvf omg]
    (refine lws ?_;simp only [go_sem,simprocAttr,Ht,c3,e2,← hu]);(refine Gi 17 hm kr kr ?_;simp only [go_sem,simprocAttr,w5,g1,g3,g4,g7,w6,← hu,s1]);(repeat' (first | (apply iteI <;> intro h)|(refine Jqs ?_)|((first | (refine Jqy ?_)|(refine Jqh (hS) ?_));simp only [go_sem,simprocAttr,q1,q2,w7,← hu]) | fail))
    ·have hxy:x=y:=by assumption
     rw [if_pos hxy] at hcs;have s2:(Jqb ((rowK old now i (m+1)).set m u)).set m [.int .i64 (max u (1+((Jqk old now (i+1) (m+1):Nat):Int)))]=Jqb (rowK old now i m):=by rw [Jrg,hset _ omg]
     (refine Gi 18 hm kr kr ?_;simp only [go_sem,simprocAttr,w5,g1,g2,w6,w7,w8,← hu,g8,s2]);(repeat' (first | (refine Jqs ?_) | fail));exact ⟨m,⟨by omega,fun q=>by omega⟩,by omega,Jqd⟩
    ·have hxy:¬ x=y:=by assumption
     rw [if_neg hxy] at hcs;have s2:(rowK old now i (m+1)).set m u=rowK old now i m:=by
      rw [show u=(Jqk old now i m:Int) by omega,Jvf omg]
     rw [s2];exact ⟨m,⟨by omega,fun q=>by omega⟩,by omega,Jqd⟩
   ·have c3:((i:Int)<(old.length:Int))=False:=eq_false omg;have ho':=hout omg;(refine lws ?_;simp only [go_sem,simprocAttr,Ht,w4,c3,e2,ho',hgi]);(repeat' (first | (refine Jqs ?_) | fail));refine ⟨i,by omega,by omega,(Jq7 _ (d:=22)).trans ?_⟩;simp only [go_sem,simprocAttr,Jsa,List.map_set,hput,hl2,ht2];exact Jqd
attribute [go_sem] Tryd.ntmps17 Tryd.results17 Tryd.ntmps30 Tryd.results30
def parR (l:List Int) (n left j:Nat):List Int:=l.take n ++ ((List.range j).map fun i=>((left+i:Nat):Int)) ++ l.drop (n+j)
attribute [go_sem] Tryd.ntmps15 Tryd.results15
def outR (b:Nat) (done:List Int):List Int:=done ++ List.replicate (b - done.length) (-1)
end Go.LX
namespace Go.LX
open Go
structure YRow where
 kind:Int
 many:Int
 name:List UInt8
 s:List UInt8
 n:Int
 c:Node
def YRow.cells (r:YRow):List PV:=[.int .i64 r.kind,.int .i64 r.many,.str r.name,.str r.s,.int .i64 r.n,.int .i64 r.c.kind,.int .i64 r.c.many,.str r.c.name,.str r.c.s,.bool r.c.neg,.int .i64 r.c.e]
def rowL (v:List YRow):List (List PV):=v.map YRow.cells
mutual
inductive RT where
 | mk (kind:Int) (s:List UInt8) (n:Int) (c:Node) (kids:RF)
inductive RF where
 | nil
 | cons (name:List UInt8) (t:RT) (rest:RF)
end
def RF.len:RF→Nat
 | .nil=>0
 | .cons _ _ r=>r.len+1
mutual
def RT.enc (name:List UInt8):RT→List YRow
 | .mk k s n c kids=>⟨k,kids.len,name,s,n,c⟩ :: kids.enc
def RF.enc:RF→List YRow
 | .nil=>[]
 | .cons nm t r=>t.enc nm ++ r.enc
end
def RF.app:RF→RF→RF
 | .nil,g=>g
 | .cons nm t r,g=>.cons nm t (r.app g)
theorem J0r:∀ f g:RF,(f.app g).len=f.len+g.len
 | .nil,g=>by simp [RF.app,RF.len]
 | .cons nm t r,g=>by simp only [RF.app,RF.len,J0r r g];omega
theorem J0y:∀ f g:RF,(f.app g).enc=f.enc ++ g.enc
 | .nil,g=>by simp [RF.app,RF.enc]
 | .cons nm t r,g=>by simp only [RF.app,RF.enc,J0y r g,List.append_assoc]
theorem rt_mk {name:List UInt8} {k:Int} {s:List UInt8} {n:Int} {c:Node} {kids:RF}:(RT.mk k s n c kids).enc name=⟨k,kids.len,name,s,n,c⟩ :: kids.enc:=by rw [RT.enc]
theorem J6l {nm:List UInt8} {t:RT} {r:RF}:(RF.cons nm t r).enc=t.enc nm ++ r.enc:=by rw [RF.enc]
theorem rf_nil:RF.nil.enc=[]:=by rw [RF.enc]
theorem rt_pos (t:RT) (nm:List UInt8):1≤(t.enc nm).length:=by
 cases t;rw [rt_mk];simp
theorem J18:∀ f:RF,f.len≤f.enc.length
 | .nil=>by simp [RF.len]
 | .cons nm t r=>by
  have:=rt_pos t nm;have:=J18 r;rw [J6l,List.length_append,RF.len];omega
@[simp] theorem rowL_len (v:List YRow):(rowL v).length=v.length:=by simp [rowL]
def RF.list:RF→List (List UInt8×RT)
 | .nil=>[]
 | .cons nm t r=>(nm,t) :: r.list
theorem Jzi:∀ f:RF,f.list.length=f.len
 | .nil=>rfl
 | .cons _ _ r=>by simp [RF.list,RF.len,Jzi r]
def RT.kids:RT→RF
 | .mk _ _ _ _ k=>k
def RT.kind:RT→Int
 | .mk k _ _ _ _=>k
def RT.s:RT→List UInt8
 | .mk _ s _ _ _=>s
def RT.n:RT→Int
 | .mk _ _ n _ _=>n
def RT.c:RT→Node
 | .mk _ _ _ c _=>c
abbrev RKT:=List UInt8×RT
theorem rlen_cons {nm:List UInt8} {t:RT} {r:RF}:(RF.cons nm t r).len=r.len+1:=rfl
def rnxt (L:Nat):List YRow→Nat→Option Nat
 | _,0=>some 0
 | [],_+1=>none
 | n :: r,o+1=>if n.many<0∨(L:Int)<n.many then none else (rnxt L r (o+n.many.toNat)).map (· + 1)
theorem J32:∀ (m:Nat) (F:RF),m≤F.len→∃ A B:RF,F=A.app B∧A.len=m
 | 0,F,_=>⟨.nil,F,rfl,rfl⟩
 | m+1,.nil,h=>by simp [RF.len] at h
 | m+1,.cons nm t r,h=>by
  obtain ⟨A,B,h1,h2⟩:=J32 m r (by simp only [RF.len] at h;omega);exact ⟨.cons nm t A,B,by rw [RF.app,← h1],by simp only [RF.len,h2]⟩
def Js7:Node:=⟨0,0,[],[],false,0⟩
def Jq9 (c:Node):Prop:=c.kind<5∧c.name=[]∧G3 c.kind c.s c.neg c.e c.many
instance (c:Node):Decidable (Jq9 c):=by unfold Jq9;infer_instance
def J1u (n:Int) (c:Node):Prop:=0≤n∧n≤5∧Jq9 c
instance (n:Int) (c:Node):Decidable (J1u n c):=by unfold J1u;infer_instance
def fldS (s:List UInt8):Prop:=(Je s).2.2=0∧∀ x∈(Je s).1,x.part=false
instance (s:List UInt8):Decidable (fldS s):=by unfold fldS;infer_instance
def J4w (k:Int) (s:List UInt8) (n:Int) (c:Node) (m:Int):Prop :=
 if k=0 then m=0∧s=[]∧n=0∧c=Js7
 else if k=1 then 0≤m∧1≤n∧n≤31∧s=[]∧c=Js7
 else if k=9 then m=0∧s=[]∧J1u n c
 else if k=2 then 0≤m∧(n=0∨n=1)∧s=[]∧c=Js7
 else if k=4 then 0≤m∧n=0∧s=[]∧c=Js7
 else if k=3∨k=5∨k=6 then m=1∧n=0∧s=[]∧c=Js7
 else if k=7∨k=8 then m=1∧n=0∧c=Js7∧fldS s
 else False
instance (k:Int) (s:List UInt8) (n:Int) (c:Node) (m:Int):Decidable (J4w k s n c m):=by unfold J4w;infer_instance
def RRise (l:List RKT):Prop:=l.Pairwise fun p q=>Op.bytesLess p.1 q.1=true
def rkidOK (k:Int) (p:RKT):Prop:=(p.2.kind=9 ↔ k=1)∧(k≠2→p.1=[])∧(k=2→valid p.1=true)
def J6d (k:Int) (l:List RKT):Prop:=(∀ p∈l,rkidOK k p)∧(k=2→RRise l)
def findR (name:List UInt8):List RKT→Option RT
 | []=>none
 | p :: l=>if p.1=name then some p.2 else findR name l
def leadR:RT→List Step→Option RT
 | t,[]=>some t
 | t,x :: p=>if t.kind=2∧x.part=false then (findR x.name t.kids.list).bind fun u=>leadR u p else none
def J5t (t:RT) (p:List Step):Prop:=∃ u,leadR t p=some u∧u.kind=1
def leadOK (k:Int) (s:List UInt8) (l:List RKT):Prop:=(k=7∨k=8)→∀ p,l.head? = some p→J5t p.2 (Je s).1
mutual
def okR:RT→Prop
 | .mk k s n c kids=>J4w k s n c kids.len∧J6d k kids.list∧leadOK k s kids.list∧okRF kids
def okRF:RF→Prop
 | .nil=>True
 | .cons _ t r=>okR t∧okRF r
end
theorem okRF_nil:okRF .nil:=by rw [okRF];trivial
def J2m (op:Int):Prop:=16≤op∧op≤19
instance (op:Int):Decidable (J2m op):=by unfold J2m;infer_instance
def J2r (s:List UInt8):Prop:=(Je s).2.2=0
instance (s:List UInt8):Decidable (J2r s):=by unfold J2r;infer_instance
instance (c:Node):Decidable (Jq9 c):=by unfold Jq9;infer_instance
def termOK (op:Int) (s:List UInt8) (n:Int) (c:Node) (m:Int):Prop :=
 if op=0∨op=10∨op=11∨op=14 then s=[]∧n=0∧c=Js7∧m=0
 else if op=1 then n=0∧c=Js7∧m=0∧valid s=true
 else if op=2∨op=3 then s=[]∧c=Js7∧m=0∧0≤n∧n≤1000000
 else if op=4∨op=17∨op=18 then s=[]∧n=0∧c=Js7∧m=2
 else if op=5∨op=6∨op=7∨op=19 then s=[]∧n=0∧c=Js7∧m=1
 else if op=8∨op=9 then s=[]∧n=0∧c=Js7∧0≤m
 else if op=12∨op=13∨op=15 then n=0∧c=Js7∧m=0∧J2r s
 else if op=16 then m=0∧J2r s∧0≤n∧n≤5∧Jq9 c
 else False
def qkidOK (op:Int) (p:RKT):Prop:=(J2m p.2.kind ↔ J2m op∨op=7)∧(op≠8→p.1=[])∧(op=8→valid p.1=true)
def J6e (op:Int) (l:List RKT):Prop:=(∀ p∈l,qkidOK op p)∧(op=4→∀ p,l.head? = some p→p.2.kind≠4)∧(op=8→(l.map (·.1)).Nodup)
mutual
def okQ:RT→Prop
 | .mk op s n c kids=>termOK op s n c kids.len∧J6e op kids.list∧okQF kids
def okQF:RF→Prop
 | .nil=>True
 | .cons _ t r=>okQ t∧okQF r
end
theorem okQF_nil:okQF .nil:=by rw [okQF];trivial
end Go.LX
namespace Go.LX
def Jum (s:List UInt8):List UInt8:=s.dropWhile (· == 48)
def Jtw (s:List UInt8):List UInt8:=(s.reverse.dropWhile (· == 48)).reverse
theorem J0m {c:UInt8}:c.toNat=48 ↔ c=48:=by
 constructor
 ·intro h;exact UInt8.toNat_inj.1 (by simpa using h)
 ·intro h;subst h;rfl
theorem Jz5 (c:UInt8) (l:List UInt8):at_ (c :: l) 0=c.toNat:=by simp [at_]
theorem J5w (l:List UInt8) (c:UInt8):at_ (l ++ [c]) l.length=c.toNat:=by simp [at_,List.getD_eq_getElem?_getD]
theorem Jv8 {u:List UInt8} (h:at_ u 0≠48):Jum u=u:=by
 cases u with
 | nil=>rfl
 | cons c l =>
  rw [Jz5] at h;have:c≠48:=fun hc=>h (J0m.2 hc)
  simp [Jum,List.dropWhile_cons,this]
theorem J5y {u:List UInt8} (h:0<u.length):∃ l c,u=l ++ [c]:=by
 have hne:u≠[]:=by intro hu;subst hu;simp at h
 exact ⟨u.dropLast,u.getLast hne,(List.dropLast_concat_getLast hne).symm⟩
theorem J1l (l:List UInt8) (c:UInt8):Jtw (l ++ [c])=if c=48 then Jtw l else l ++ [c]:=by
 simp only [Jtw,List.reverse_append,List.reverse_cons,List.reverse_nil,List.nil_append,List.cons_append,List.dropWhile_cons];by_cases h:c=48
 ·simp [h]
 ·simp [h]
theorem Jv7 {u:List UInt8} (h0:0<u.length) (h:at_ u (u.length - 1)≠48):Jtw u=u:=by
 obtain ⟨l,c,rfl⟩:=J5y h0;have e:(l ++ [c]).length - 1=l.length:=by simp
 rw [e,J5w] at h;rw [J1l,if_neg (fun hc=>h (J0m.2 hc))]
end Go.LX
namespace Go.LX
open Go Go.RowKit Go.Proofs Go.Lib
def isFig (c:UInt8):Bool:=decide (48≤c.toNat) && decide (c.toNat≤57)
def Jvn (s:List UInt8):Bool:=s.all isFig
def figR (r:Nat):Bool:=decide (48≤r) && decide (r≤57)
end Go.LX
namespace Go.LX
end Go.LX
namespace Go.LX
open Go Go.Proofs
abbrev Node.pv (n:Node):List PV:=n.cells
theorem pv_eq (n:Node):n.pv=[.int .i64 n.kind,.int .i64 n.many,.str n.name,.str n.s,.bool n.neg,.int .i64 n.e]:=(rfl)
def isPower (many e:Int):Bool:=decide (-1000≤e) && decide (e≤1000) && decide (many+e≤1000)
def numRight (n:Node):Bool :=
 if ¬ n.kind=3 then false else if ¬ n.many=0 then false else if ¬ n.name.length=0 then false else if Jvn n.s=false then false else if 100<(n.s.length:Int) then false else
 if n.e < -1000 then false else if 1000<n.e then false else if 1000<(n.s.length:Int)+n.e then false else
 if n.s.length=0 then (if n.neg=false then n.e == 0 else false) else (if ¬ (at_ n.s 0:Int)=48 then ((at_ n.s (n.s.length - 1):Int) != 48) else false)
structure Node.small (n:Node):Prop where
 s:n.s.length≤1000000
 e1:-1000000≤n.e
 e2:n.e≤1000000
def Jrs (n:Node):List UInt8:=if n.neg=true then [45] else []
def Jqt (n:Node):List UInt8 :=
 if n.s.length=0 then [48] else
 if 0≤n.e∧(n.s.length:Int)+n.e≤20 then Jrs n ++ n.s ++ Lib.repeatL [48] n.e.toNat else
 if n.e<0∧-20≤n.e then
  Jrs n ++ (Lib.repeatL [48] (1 - n.e - n.s.length).toNat ++ n.s).take (((Lib.repeatL [48] (1 - n.e - n.s.length).toNat ++ n.s).length:Int)+n.e).toNat ++ [46] ++ (Lib.repeatL [48] (1 - n.e - n.s.length).toNat ++ n.s).drop (((Lib.repeatL [48] (1 - n.e - n.s.length).toNat ++ n.s).length:Int)+n.e).toNat
 else Jrs n ++ n.s ++ [101] ++ Lib.itoa n.e
def val (l:List UInt8):Int:=l.foldl (fun n c=>n * 10+((c.toNat:Int) - 48)) 0
end Go.LX
namespace Go.LX
open Go
def nmT (s:List UInt8):List UInt8:=if isWd s then s else refQ s
def Jrw (c:Node):List UInt8:=if c.kind=0 then [110,117,108,108] else if c.kind=1 then [102,97,108,115,101] else if c.kind=2 then [116,114,117,101] else if c.kind=3 then Jqt c else refQ c.s
def signT (n:Int):List UInt8:=if n=0 then [61,61] else if n=1 then [33,61] else if n=2 then [60] else if n=3 then [60,61] else if n=4 then [62] else [62,61]
def callN (op:Int):List UInt8:=if op=5 then [109,97,112] else if op=6 then [109,97,112,95,118,97,108,117,101,115] else if op=7 then [115,101,108,101,99,116] else if op=12 then [103,114,111,117,112,95,98,121] else if op=13 then [115,111,114,116,95,98,121] else if op=15 then [100,101,108] else []
def inBr (k:Int) (x:List UInt8):List UInt8:=if k=4∨k=17∨k=18 then 40 :: (x ++ [41]) else x
def joinT (sep:List UInt8):List (List UInt8)→List UInt8
 | []=>[]
 | [x]=>x
 | x :: y :: l=>x ++ sep ++ joinT sep (y :: l)
abbrev PTx:=List UInt8×Int×List UInt8
def oneT (op:Int) (p:PTx):List UInt8:=if op=8 then nmT p.1 ++ [58,32] ++ inBr p.2.1 p.2.2 else inBr p.2.1 p.2.2
def J20 (op:Int) (l:List PTx) (sep:List UInt8):List UInt8:=joinT sep (l.map (oneT op))
def J41:List PTx→List UInt8
 | []=>[]
 | p :: _=>p.2.2
def qtextK (op:Int) (s:List UInt8) (n:Int) (c:Node) (l:List PTx):List UInt8 :=
 if op=0 then [46]
 else if op=1 then 46 :: nmT s
 else if op=2 then [46,91] ++ Lib.itoa n ++ [93]
 else if op=3 then [46,91] ++ Lib.itoa n ++ [58,93]
 else if op=4 then (match l with
  | [p,q]=>inBr p.2.1 p.2.2 ++ [32,124,32] ++ q.2.2
  | _=>[])
 else if op=8 then 123 :: (J20 op l [44,32] ++ [125])
 else if op=9 then 91 :: (J20 op l [44,32] ++ [93])
 else if op=10 then [116,111,95,101,110,116,114,105,101,115]
 else if op=11 then [102,114,111,109,95,101,110,116,114,105,101,115]
 else if op=14 then [114,101,118,101,114,115,101]
 else if op=16 then s ++ [32] ++ signT n ++ [32] ++ Jrw c
 else if op=17 then J20 op l [32,97,110,100,32]
 else if op=18 then J20 op l [32,111,114,32]
 else if op=19 then 40 :: (J41 l ++ [32,124,32,110,111,116,41])
 else callN op ++ [40] ++ (if l=[] then s else J41 l) ++ [41]
mutual
def qtext:RT→List UInt8
 | .mk k s n c kids=>qtextK k s n c (J44 kids)
def J44:RF→List PTx
 | .nil=>[]
 | .cons nm t r=>(nm,t.kind,qtext t) :: J44 r
end
def sumT (l:List (List UInt8)):Nat:=(l.map List.length).sum
theorem Jyp {n:Int} (h0:-9223372036854775808≤n) (h1:n≤9223372036854775807):(Lib.itoa n).length≤21:=Lib.itoa_length_le n h0 h1
theorem Jrj (n:Nat):(Lib.repeatL [48] n).length=n:=by rw [Lib.repeatL_length];simp
theorem J0x {c:Node} (hs:c.s.length≤100) (h0:-9223372036854775808≤c.e) (h1:c.e≤9223372036854775807):(Jqt c).length≤200:=by
 have hg:(Jrs c).length≤1:=by unfold Jrs;split <;> simp
 have hi:=Jyp h0 h1;unfold Jqt;split
 ·simp
 ·split
  ·rw [List.length_append,List.length_append,Jrj];omega
  ·split
   ·rename_i h2 _ h3;simp only [List.length_append,List.length_take,List.length_drop,Jrj,List.length_cons,List.length_nil];omega
   ·simp only [List.length_append,List.length_cons,List.length_nil];omega
def sumP (l:List PTx):Nat:=(l.map fun p=>p.2.2.length).sum
theorem J00 {P:UInt8→Bool} {a b x y:List UInt8} (ha:∀ c∈a,P c=true) (hb:∀ c∈b,P c=true) (hx:∀ c,x.head? = some c→P c=false) (hy:∀ c,y.head? = some c→P c=false) (h:a ++ x=b ++ y):a=b∧x=y:=by
 have tw:∀ (a x:List UInt8),(∀ c∈a,P c=true)→(∀ c,x.head? = some c→P c=false)→(a ++ x).takeWhile P=a:=by
  intro a x ha hx;rw [List.takeWhile_append_of_pos ha];cases x with
  | nil=>simp
  | cons c x=>simp [List.takeWhile_cons,hx c rfl]
 have h1:=tw a x ha hx;have h2:=tw b y hb hy;rw [h,h2] at h1;subst h1;exact ⟨rfl,List.append_cancel_left h⟩
theorem J2o:∀ (n m k:Nat),m≤n→Lib.decDigits m=Lib.decDigits k→m=k:=by
 intro n
 induction n with
 | zero =>
  intro m k hm h;have:m=0:=by omega
  subst this;rw [Fv 0,Fv k,if_pos omg] at h;split at h
  ·injection h with h _
   have:=congrArg UInt8.toNat h;rw [Qj omg,Qj omg] at this;omega
  ·have:=congrArg List.length h;have hn:=U6 (k / 10);simp at this;exact absurd this hn
 | succ n ih =>
  intro m k hm h;rw [Fv m,Fv k] at h;split at h <;> split at h
  ·injection h with h _
   have:=congrArg UInt8.toNat h;rw [Qj omg,Qj omg] at this;omega
  ·have:=congrArg List.length h;have hn:=U6 (k / 10);simp at this;exact absurd this hn
  ·have:=congrArg List.length h;have hn:=U6 (m / 10);simp at this;exact absurd this hn
  ·obtain ⟨h1,h2⟩:=List.append_inj' h rfl;injection h2 with h2 _
   have h2:=congrArg UInt8.toNat h2;rw [Qj (Nat.mod_lt _ omg),Qj (Nat.mod_lt _ omg)] at h2;have:=ih (m / 10) (k / 10) omg h1;omega
theorem J5a {a b:Int} (h:Lib.itoa a=Lib.itoa b):a=b:=by
 have hd:∀ n,45 ∉ Lib.decDigits n:=fun n hc=>by
  have:=Jmj n 45 hc;unfold isDg at this;simp at this
 unfold Lib.itoa at h;split at h <;> split at h
 ·injection h with _ h
  have:=J2o _ _ _ (Nat.le_refl _) h;omega
 ·have:=hd b.toNat;rw [← h] at this;simp at this
 ·have:=hd a.toNat;rw [h] at this;simp at this
 ·have:=J2o _ _ _ (Nat.le_refl _) h;omega
def Jtj (c:UInt8):Bool:=decide (48≤c.toNat) && decide (c.toNat≤57)
theorem Jy1 {s:List UInt8} (h:Pk s=true):∀ c∈s,Jtj c=true:=by
 intro c hc;have:=List.all_eq_true.1 h c hc;exact this
theorem Jwu (k:Nat):∀ c∈Lib.repeatL [48] k,Jtj c=true:=by
 intro c hc;have:Lib.repeatL [48] k=List.replicate k 48:=by
  have:=Lib.repeatL_replicate 48 1 k;simpa using this
 rw [this] at hc;rw [(List.mem_replicate.1 hc).2];rfl
def Jrp (n:Node):List UInt8 :=
 if n.s.length=0 then [48] else if 0≤n.e∧(n.s.length:Int)+n.e≤20 then n.s ++ Lib.repeatL [48] n.e.toNat else
 if n.e<0∧-20≤n.e then (Lib.repeatL [48] (1 - n.e - n.s.length).toNat ++ n.s).take (((Lib.repeatL [48] (1 - n.e - n.s.length).toNat ++ n.s).length:Int)+n.e).toNat else n.s
def Jrq (n:Node):List UInt8 :=
 if n.s.length=0 then [] else if 0≤n.e∧(n.s.length:Int)+n.e≤20 then [] else
 if n.e<0∧-20≤n.e then 46 :: (Lib.repeatL [48] (1 - n.e - n.s.length).toNat ++ n.s).drop (((Lib.repeatL [48] (1 - n.e - n.s.length).toNat ++ n.s).length:Int)+n.e).toNat else 101 :: Lib.itoa n.e
theorem Jry {n:Node} (h:Yz n.s n.neg n.e):Jqt n=Jrs n ++ (Jrp n ++ Jrq n):=by
 have hz:n.s.length=0→Jrs n=[]:=fun h0=>by
  have:=h.2.2.2.2.2;rw [if_pos (List.eq_nil_of_length_eq_zero h0)] at this;unfold Jrs;rw [this.1];rfl
 unfold Jqt Jrp Jrq;split
 ·rename_i h0;rw [hz h0];rfl
 ·split
  ·simp
  ·split
   ·simp
   ·simp
theorem Jsp {n:Node} (h:Yz n.s n.neg n.e):∀ c∈Jrp n,Jtj c=true:=by
 have hs:=Jy1 h.1;intro c hc;unfold Jrp at hc;split at hc
 ·rw [List.mem_singleton.1 hc];rfl
 ·split at hc
  ·rcases List.mem_append.1 hc with hc | hc
   ·exact hs c hc
   ·exact Jwu _ c hc
  ·split at hc
   ·rcases List.mem_append.1 (List.mem_of_mem_take hc) with hc | hc
    ·exact Jwu _ c hc
    ·exact hs c hc
   ·exact hs c hc
theorem J1j {n:Node} (h:Yz n.s n.neg n.e):Jrp n≠[]:=by
 unfold Jrp;split
 ·simp
 ·rename_i h0;split
  ·intro e;have:=congrArg List.length e;simp at this;exact h0 (by rw [this.1];rfl)
  ·split
   ·intro e;have:=congrArg List.length e;rw [List.length_take,List.length_append,Jrj] at this;simp only [List.length_nil] at this;omega
   ·intro e;rw [e] at h0;exact h0 rfl
theorem Jzq {n:Node}:∀ c,(Jrq n).head? = some c→c=46∨c=101:=by
 intro c hc;unfold Jrq at hc
 repeat' split at hc
 all_goals simp at hc
 ·exact .inl hc.symm
 ·exact .inr hc.symm
theorem repZ (k:Nat):Lib.repeatL [48] k=List.replicate k 48:=by
 have:=Lib.repeatL_replicate 48 1 k;simpa using this
theorem Jun (k:Nat) (s:List UInt8):Jum (Lib.repeatL [48] k ++ s)=Jum s:=by
 rw [repZ]
 induction k with
 | zero=>rfl
 | succ k ih=>rw [List.replicate_succ,List.cons_append];exact (by simpa [Jum] using ih)
theorem Jw7 (k:Nat) (s:List UInt8):Jtw (s ++ Lib.repeatL [48] k)=Jtw s:=by
 have h:∀ u,Jtw u=(Jum u.reverse).reverse:=fun _=>rfl
 rw [h,h,List.reverse_append,repZ,List.reverse_replicate,← repZ,Jun]
theorem J6a {n m:Node} (hn:Yz n.s n.neg n.e) (hm:Yz m.s m.neg m.e) (h:Jrp n=Jrp m) (ht:Jrq n=Jrq m):n.s=m.s∧n.e=m.e:=by
 have en:=hn.2.2.2.2.2;have em:=hm.2.2.2.2.2;have hpos:∀ {s:List UInt8},¬ s.length=0→0<s.length:=fun h=>by omega
 have hne:∀ {s:List UInt8},¬ s.length=0→¬ s=[]:=fun h e=>h (by rw [e];rfl)
 by_cases n0:n.s.length=0
 ·have e1:=List.eq_nil_of_length_eq_zero n0;rw [if_pos e1] at en;by_cases m0:m.s.length=0
  ·have e2:=List.eq_nil_of_length_eq_zero m0;rw [if_pos e2] at em;exact ⟨by rw [e1,e2],by rw [en.2,em.2]⟩
  ·exfalso;rw [if_neg (hne m0)] at em;unfold Jrp at h;unfold Jrq at ht;rw [if_pos n0,if_neg m0] at h ht;split at ht
   ·rename_i hc;rw [if_pos hc] at h;obtain ⟨c,r,e⟩:=List.exists_cons_of_ne_nil (hne m0);rw [e,List.cons_append] at h;injection h with h _
    apply em.1;rw [e,Jz5,← h];rfl
   ·split at ht <;> cases ht
 ·rw [if_neg (hne n0)] at en;by_cases m0:m.s.length=0
  ·exfalso;unfold Jrp at h;unfold Jrq at ht;rw [if_pos m0,if_neg n0] at h ht;split at ht
   ·rename_i hc;rw [if_pos hc] at h;obtain ⟨c,r,e⟩:=List.exists_cons_of_ne_nil (hne n0);rw [e,List.cons_append] at h;injection h with h _
    apply en.1;rw [e,Jz5,h];rfl
   ·split at ht <;> cases ht
  ·rw [if_neg (hne m0)] at em;unfold Jrp at h;unfold Jrq at ht;rw [if_neg m0,if_neg n0] at h ht;by_cases n1:0≤n.e∧(n.s.length:Int)+n.e≤20
   ·rw [if_pos n1] at h ht;by_cases m1:0≤m.e∧(m.s.length:Int)+m.e≤20
    ·rw [if_pos m1] at h;have h1:=congrArg Jtw h;rw [Jw7,Jw7,Jv7 (hpos n0) en.2,Jv7 (hpos m0) em.2] at h1;have h2:=congrArg List.length h;rw [List.length_append,List.length_append,Jrj,Jrj,h1] at h2;exact ⟨h1,by omega⟩
    ·rw [if_neg m1] at ht;split at ht <;> cases ht
   ·rw [if_neg n1] at h ht;by_cases m1:0≤m.e∧(m.s.length:Int)+m.e≤20
    ·rw [if_pos m1] at ht;split at ht <;> cases ht
    ·rw [if_neg m1] at h ht;by_cases n2:n.e<0∧-20≤n.e
     ·rw [if_pos n2] at h ht;by_cases m2:m.e<0∧-20≤m.e
      ·rw [if_pos m2] at h ht;injection ht with _ ht
       have hq:=congr (congrArg HAppend.hAppend h) ht;rw [List.take_append_drop,List.take_append_drop] at hq;have h1:=congrArg Jum hq;rw [Jun,Jun,Jv8 en.1,Jv8 em.1] at h1;have h2:=congrArg List.length ht;have h3:=congrArg List.length hq;rw [List.length_drop,List.length_drop] at h2;rw [List.length_append,List.length_append,Jrj,Jrj] at h3;rw [List.length_append,List.length_append,Jrj,Jrj] at h2;exact ⟨h1,by omega⟩
      ·rw [if_neg m2] at ht;injection ht with ht _
       cases ht
     ·rw [if_neg n2] at h ht;by_cases m2:m.e<0∧-20≤m.e
      ·rw [if_pos m2] at ht;injection ht with ht _
       cases ht
      ·rw [if_neg m2] at h ht;injection ht with _ ht
       exact ⟨h,J5a ht⟩
def Ends (x:List UInt8):Prop:=∀ c,x.head? = some c→c=41∨c=44∨c=93∨c=125
def Jwc (c:UInt8):Bool:=Jtj c || (c == 45 || (c == 46 || c == 101))
theorem Jsz {c:UInt8} (h:Jtj c=true):Jwc c=true:=by unfold Jwc;rw [h];rfl
theorem J3s (a:Int):∀ c∈Lib.itoa a,Jwc c=true:=by
 have hd:∀ n,∀ c∈Lib.decDigits n,Jwc c=true:=fun n c hc=>by
  have:=Jmj n c hc;unfold isDg at this;refine Jsz ?_;unfold Jtj;simp only [Bool.and_eq_true,decide_eq_true_eq];exact this
 intro c hc;unfold Lib.itoa at hc;split at hc
 ·rcases List.mem_cons.1 hc with rfl | hc
  ·rfl
  ·exact hd _ c hc
 ·exact hd _ c hc
theorem Ju2 {n:Node} (h:Yz n.s n.neg n.e):∀ c∈Jqt n,Jwc c=true:=by
 rw [Jry h];intro c hc;rcases List.mem_append.1 hc with hc | hc
 ·unfold Jrs at hc;split at hc
  ·rw [List.mem_singleton.1 hc];rfl
  ·cases hc
 ·rcases List.mem_append.1 hc with hc | hc
  ·exact Jsz (Jsp h c hc)
  ·unfold Jrq at hc;split at hc
   ·cases hc
   ·split at hc
    ·cases hc
    ·split at hc
     ·rcases List.mem_cons.1 hc with rfl | hc
      ·rfl
      ·rcases List.mem_append.1 (List.mem_of_mem_drop hc) with hc | hc
       ·exact Jsz (Jwu _ c hc)
       ·exact Jsz (Jy1 h.1 c hc)
     ·rcases List.mem_cons.1 hc with rfl | hc
      ·rfl
      ·exact J3s _ c hc
theorem Jrt {n:Node} (h:Yz n.s n.neg n.e):∃ c r,Jqt n=c :: r∧(c=45∨Jtj c=true)∧(c=45 ↔ n.neg=true):=by
 rw [Jry h];obtain ⟨c,r,e⟩:=List.exists_cons_of_ne_nil (J1j h);have hc:=Jsp h c (by rw [e];exact List.mem_cons_self);unfold Jrs;by_cases hg:n.neg=true
 ·rw [if_pos hg];exact ⟨45,_,rfl,.inl rfl,by simp [hg]⟩
 ·rw [if_neg hg,e];refine ⟨c,_,rfl,.inr hc,⟨fun h45=>?_,fun h=>absurd h hg⟩⟩;subst h45;cases hc
theorem Jze {n m:Node} (hn:Yz n.s n.neg n.e) (hm:Yz m.s m.neg m.e) (h:Jqt n=Jqt m):n.s=m.s∧n.neg=m.neg∧n.e=m.e:=by
 obtain ⟨c,r,e1,_,g1⟩:=Jrt hn;obtain ⟨d,q,e2,_,g2⟩:=Jrt hm;have hcd:c=d:=by rw [e1,e2] at h;injection h
 have hneg:n.neg=m.neg:=by
  rw [Bool.eq_iff_iff,← g1,← g2,hcd]
 have hsg:Jrs n=Jrs m:=by unfold Jrs;rw [hneg]
 rw [Jry hn,Jry hm,hsg] at h;have h:=List.append_cancel_left h;have hx:∀ (n:Node),∀ c,(Jrq n).head? = some c→Jtj c=false:=fun n c hc=>by
  rcases Jzq c hc with rfl | rfl <;> rfl
 obtain ⟨h1,h2⟩:=J00 (P:=Jtj) (Jsp hn) (Jsp hm) (hx n) (hx m) h;obtain ⟨h3,h4⟩:=J6a hn hm h1 h2;exact ⟨h3,hneg,h4⟩
def clsS (c:UInt8):Int:=if c=110 then 0 else if c=102 then 1 else if c=116 then 2 else if c=34 then 4 else 3
theorem Jui {c:Node} (h:Jq9 c):∃ a r,Jrw c=a :: r∧clsS a=c.kind:=by
 obtain ⟨h1,h2,h3⟩:=h;unfold G3 at h3;unfold Jrw;by_cases k0:c.kind=0
 ·rw [if_pos k0,k0];exact ⟨_,_,rfl,by decide⟩
 ·rw [if_neg k0];by_cases k1:c.kind=1
  ·rw [if_pos k1,k1];exact ⟨_,_,rfl,by decide⟩
  ·rw [if_neg k1];by_cases k2:c.kind=2
   ·rw [if_pos k2,k2];exact ⟨_,_,rfl,by decide⟩
   ·rw [if_neg k2];rw [if_neg omg] at h3;by_cases k3:c.kind=3
    ·rw [if_pos k3];rw [if_pos k3] at h3;obtain ⟨a,r,e,ha,_⟩:=Jrt h3.2;refine ⟨a,r,e,?_⟩;rw [k3];unfold clsS;have hn:∀ b:UInt8,Jwc b=false→a≠b:=by
      rintro b hb rfl;rcases ha with rfl | ha
      ·cases hb
      ·rw [Jsz ha] at hb;cases hb
     rw [if_neg (hn _ rfl),if_neg (hn _ rfl),if_neg (hn _ rfl),if_neg (hn _ rfl)]
    ·rw [if_neg k3];rw [if_neg k3] at h3;by_cases k4:c.kind=4
     ·rw [k4];exact ⟨_,_,rfl,by decide⟩
     ·rw [if_neg k4,if_neg omg] at h3;exact h3.elim
theorem J1a {x:List UInt8} (h:Ends x):∀ c,x.head? = some c→Jwc c=false:=fun c hc=>by
 rcases h c hc with rfl | rfl | rfl | rfl <;> rfl
theorem Jy3 {s t x y:List UInt8} (hs:valid s=true) (ht:valid t=true) (h:refQ s ++ x=refQ t ++ y):s=t∧x=y:=by
 have h1:=Jow hs x;have h2:=Jow ht y;rw [h,h2] at h1;have e:t=s:=congrArg Prod.fst h1;subst e;exact ⟨rfl,List.append_cancel_left h⟩
theorem Jzr {a b:Node} (h1:a.kind=b.kind) (h2:a.many=b.many) (h3:a.name=b.name) (h4:a.s=b.s) (h5:a.neg=b.neg) (h6:a.e=b.e):a=b:=by
 cases a;cases b;simp_all
theorem J4d {a b:Node} (ha:Jq9 a) (hb:Jq9 b) {x y:List UInt8} (hx:Ends x) (hy:Ends y) (h:Jrw a ++ x=Jrw b ++ y):a=b∧x=y:=by
 obtain ⟨c,r,e1,g1⟩:=Jui ha;obtain ⟨d,q,e2,g2⟩:=Jui hb;have hk:a.kind=b.kind:=by
  rw [e1,e2] at h;injection h with h _
  rw [← g1,← g2,h]
 obtain ⟨a1,a2,a3⟩:=ha;obtain ⟨b1,b2,b3⟩:=hb;have hn:a.name=b.name:=by rw [a2,b2]
 unfold G3 at a3 b3;rw [← hk] at b3;by_cases k0:a.kind=0∨a.kind=1∨a.kind=2
 ·rw [if_pos k0] at a3 b3;have e:a=b:=Jzr hk (by rw [a3.1,b3.1]) hn (by rw [a3.2.1,b3.2.1]) (by rw [a3.2.2.1,b3.2.2.1]) (by rw [a3.2.2.2,b3.2.2.2]);subst e;exact ⟨rfl,List.append_cancel_left h⟩
 ·rw [if_neg k0] at a3 b3;by_cases k3:a.kind=3
  ·rw [if_pos k3] at a3 b3;unfold Jrw at h;rw [if_neg omg,if_neg omg,if_neg omg,if_pos k3,if_neg omg,if_neg omg,if_neg omg,if_pos omg] at h;obtain ⟨h1,h2⟩:=J00 (P:=Jwc) (Ju2 a3.2) (Ju2 b3.2) (J1a hx) (J1a hy) h;obtain ⟨h3,h4,h5⟩:=Jze a3.2 b3.2 h1;exact ⟨Jzr hk (by rw [a3.1,b3.1]) hn h3 h4 h5,h2⟩
  ·rw [if_neg k3] at a3 b3;by_cases k4:a.kind=4
   ·rw [if_pos k4] at a3 b3;unfold Jrw at h;rw [if_neg omg,if_neg omg,if_neg omg,if_neg k3,if_neg omg,if_neg omg,if_neg omg,if_neg omg] at h;obtain ⟨h1,h2⟩:=Jy3 a3.1 b3.1 h;exact ⟨Jzr hk (by rw [a3.2.1,b3.2.1]) hn h1 (by rw [a3.2.2.1,b3.2.2.1]) (by rw [a3.2.2.2,b3.2.2.2]),h2⟩
   ·rw [if_neg k4,if_neg omg] at a3;exact a3.elim
instance (c:Nat):Decidable (letP c):=by unfold letP;infer_instance
instance (c:Nat):Decidable (figP c):=by unfold figP;infer_instance
end Go.LX
namespace Go.LX
open Go Go.RowKit Go.Proofs
attribute [local irreducible] Al SWP Bi
mutual
def Jqf:Tree→List UInt8
 | .mk k s g e kids=>if k=5 then 91 :: (Jro false true kids ++ [93]) else if k=6 then 123 :: (Jro true true kids ++ [125]) else Jrw ⟨k,0,[],s,g,e⟩
def Jro (o first:Bool):Forest→List UInt8
 | .nil=>[]
 | .cons nm t r=>(if first then [] else [44]) ++ ((if o then refQ nm ++ [58] else []) ++ (Jqf t ++ Jro o false r))
end
theorem Jrk {k:Int} {s:List UInt8} {g:Bool} {e:Int} {kids:Forest}:Jqf (.mk k s g e kids)=if k=5 then 91 :: (Jro false true kids ++ [93]) else if k=6 then 123 :: (Jro true true kids ++ [125]) else Jrw ⟨k,0,[],s,g,e⟩:=by rw [Jqf]
theorem Jsl {o first:Bool}:Jro o first .nil=[]:=by rw [Jro]
theorem Jr3 {o first:Bool} {nm:List UInt8} {t:Tree} {r:Forest}:Jro o first (.cons nm t r)=(if first then [] else [44]) ++ ((if o then refQ nm ++ [58] else []) ++ (Jqf t ++ Jro o false r)):=by rw [Jro]
def clsC (c:UInt8):Int:=if c=91 then 5 else if c=123 then 6 else if c=93∨c=125 then 9 else clsS c
theorem J5d {c:Node} (h:Jq9 c):∃ a r,Jrw c=a :: r∧clsC a=c.kind:=by
 obtain ⟨a,r,e,h1⟩:=Jui h;refine ⟨a,r,e,?_⟩;obtain ⟨p1,p2,p3⟩:=h;have hn:∀ b:UInt8,(b=91∨b=123∨b=93∨b=125)→a≠b:=by
  rintro b hb rfl;by_cases k3:c.kind=3
  ·unfold G3 at p3;rw [if_neg omg,if_pos k3] at p3;obtain ⟨a',r',e',ha,_⟩:=Jrt p3.2;unfold Jrw at e;rw [if_neg omg,if_neg omg,if_neg omg,if_pos k3,e'] at e;injection e with e _
   subst e;rcases ha with rfl | ha
   ·rcases hb with hb | hb | hb | hb <;> cases hb
   ·rcases hb with rfl | rfl | rfl | rfl <;> cases ha
  ·apply k3;rw [← h1];rcases hb with rfl | rfl | rfl | rfl <;> rfl
 unfold clsC;rw [if_neg (hn 91 sm),if_neg (hn 123 sm),if_neg (fun h=>h.elim (hn 93 sm) (hn 125 sm)),h1]
theorem Jsw {k:Int} {s:List UInt8} {g:Bool} {e:Int} {kids:Forest} (h:okT (.mk k s g e kids)) (h5:k≠5) (h6:k≠6):Jq9 ⟨k,0,[],s,g,e⟩∧kids=.nil∧0≤k:=by
 have h1:=(Lu.1 h).1;unfold G3 at h1;have key:(kids.len:Int)=0∧0≤k∧k<5:=by
  by_cases k0:k=0∨k=1∨k=2
  ·rw [if_pos k0] at h1;exact ⟨h1.1,by omega,by omega⟩
  ·rw [if_neg k0] at h1;by_cases k3:k=3
   ·rw [if_pos k3] at h1;exact ⟨h1.1,by omega,by omega⟩
   ·rw [if_neg k3] at h1;by_cases k4:k=4
    ·rw [if_pos k4] at h1;exact ⟨h1.2.1,by omega,by omega⟩
    ·rw [if_neg k4,if_neg omg] at h1;exact h1.elim
 refine ⟨⟨key.2.2,rfl,?_⟩,?_,key.2.1⟩
 ·show G3 k s g e 0;rw [← key.1];exact (Lu.1 h).1
 ·cases kids with
  | nil=>rfl
  | cons nm t r=>simp only [Forest.len] at key;omega
theorem Jtd {t:Tree} (h:okT t):∃ a r,Jqf t=a :: r∧clsC a=t.kind∧clsC a≠9:=by
 obtain ⟨k,s,g,e,kids⟩:=t;rw [Jrk];by_cases h5:k=5
 ·rw [if_pos h5];exact ⟨_,_,rfl,by rw [show (Tree.mk k s g e kids).kind=k from rfl,h5];rfl,by decide⟩
 ·rw [if_neg h5];by_cases h6:k=6
  ·rw [if_pos h6];exact ⟨_,_,rfl,by rw [show (Tree.mk k s g e kids).kind=k from rfl,h6];rfl,by decide⟩
  ·rw [if_neg h6];obtain ⟨p,_,_⟩:=Jsw h h5 h6;obtain ⟨a,r,e1,e2⟩:=J5d p;refine ⟨a,r,e1,e2,?_⟩;have:=p.1;simp only at this e2;omega
theorem J4k {o:Bool} {cl:UInt8} (hc:cl=93∨cl=125) (f:Forest) (x:List UInt8):Ends (Jro o false f ++ cl :: x):=by
 intro c hc';cases f with
 | nil =>
  rw [Jsl] at hc';simp at hc';subst hc';rcases hc with rfl | rfl
  ·exact .inr (.inr (.inl rfl))
  ·exact .inr (.inr (.inr rfl))
 | cons nm t r =>
  rw [Jr3] at hc';simp at hc';subst hc';exact .inr (.inl rfl)
theorem J5c {o first:Bool} {cl:UInt8} (hc:cl=93∨cl=125) {nm:List UInt8} {u:Tree} {r:Forest} (hu:okT u) {x y:List UInt8} (h:cl :: x=Jro o first (.cons nm u r) ++ cl :: y):False:=by
 rw [Jr3] at h;obtain ⟨a,q,e,_,h9⟩:=Jtd hu;cases first with
 | false =>
  simp only [Bool.false_eq_true,if_false,List.cons_append,List.nil_append] at h;injection h with h _
  subst h;rcases hc with h | h <;> cases h
 | true =>
  rw [if_pos rfl,List.nil_append] at h;cases o with
  | true =>
   rw [if_pos rfl] at h;unfold refQ at h;simp only [List.cons_append] at h;injection h with h _
   subst h;rcases hc with h | h <;> cases h
  | false =>
   simp only [Bool.false_eq_true,if_false,List.nil_append,e,List.cons_append] at h;injection h with h _
   subst h;rcases hc with rfl | rfl <;> exact h9 rfl
theorem Juq {o:Bool} {cl:UInt8} (hc:cl=93∨cl=125):∀ (f g:Forest) (first:Bool) (x y:List UInt8),okF f→okF g →
  (∀ p∈f.list,valid p.1=true∧(o=false→p.1=[]))→(∀ p∈g.list,valid p.1=true∧(o=false→p.1=[])) →
  (∀ p∈f.list,∀ u,okT u→∀ x y,Ends x→Ends y→Jqf p.2 ++ x=Jqf u ++ y→p.2=u∧x=y) →
  Jro o first f ++ cl :: x=Jro o first g ++ cl :: y→f=g∧x=y
 | .nil,.nil,first,x,y,_,_,_,_,_,h=>by
  rw [Jsl] at h;injection h with _ h
  exact ⟨rfl,h⟩
 | .nil,.cons nm u r,first,x,y,_,hg,_,_,_,h=>by
  rw [Jsl] at h;exact (J5c hc (Fs.1 hg).1 h).elim
 | .cons nm t r,.nil,first,x,y,hf,_,_,_,_,h=>by
  rw [Jsl] at h;exact (J5c hc (Fs.1 hf).1 h.symm).elim
 | .cons nm t r,.cons nm' u q,first,x,y,hf,hg,nf,ng,ih,h=>by
  obtain ⟨ht,hr⟩:=Fs.1 hf;obtain ⟨hu,hq⟩:=Fs.1 hg;rw [Jr3,Jr3] at h;simp only [List.append_assoc] at h;have h:=List.append_cancel_left h;have hm:(nm,t)∈(Forest.cons nm t r).list:=by rw [Forest.list];exact List.mem_cons_self
  have hm':(nm',u)∈(Forest.cons nm' u q).list:=by rw [Forest.list];exact List.mem_cons_self
  have key:nm=nm'∧Jqf t ++ (Jro o false r ++ cl :: x)=Jqf u ++ (Jro o false q ++ cl :: y):=by
   cases o with
   | true =>
    rw [if_pos rfl,if_pos rfl] at h;simp only [List.append_assoc] at h;obtain ⟨h1,h2⟩:=Jy3 (nf _ hm).1 (ng _ hm').1 h;refine ⟨h1,?_⟩;simp only [List.cons_append,List.nil_append,List.append_assoc] at h2;injection h2 with _ h2
   | false =>
    simp only [Bool.false_eq_true,if_false,List.nil_append,List.append_assoc] at h;exact ⟨(show nm=[] from (nf _ hm).2 rfl).trans (show nm'=[] from (ng _ hm').2 rfl).symm,h⟩
  obtain ⟨rfl,h2⟩:=key;obtain ⟨h3,h4⟩:=ih _ hm u hu _ _ (J4k hc r x) (J4k hc q y) h2;simp only at h3;subst h3;obtain ⟨h5,h6⟩:=Juq hc r q false x y hr hq (fun p hp=>nf p (by rw [Forest.list];exact List.mem_cons_of_mem _ hp)) (fun p hp=>ng p (by rw [Forest.list];exact List.mem_cons_of_mem _ hp)) (fun p hp=>ih p (by rw [Forest.list];exact List.mem_cons_of_mem _ hp)) h4;subst h5;exact ⟨rfl,h6⟩
theorem J2l:∀ {f:Forest} {p:List UInt8×Tree},p∈f.list→(p.2.enc []).length≤f.enc.length
 | .nil,p,h=>by rw [Forest.list] at h;cases h
 | .cons nm t r,p,h=>by
  rw [Forest.list] at h;rw [A0,List.length_append];rcases List.mem_cons.1 h with rfl | h
  ·have:(t.enc nm).length=(t.enc []).length:=by obtain ⟨k,s,g,e,kids⟩:=t;rw [A6,A6];rfl
   simp only;omega
  ·have:=J2l h;omega
theorem J2w:∀ {f:Forest} {p:List UInt8×Tree},okF f→p∈f.list→okT p.2
 | .nil,p,_,h=>by rw [Forest.list] at h;cases h
 | .cons nm t r,p,hf,h=>by
  rw [Forest.list] at h;rcases List.mem_cons.1 h with rfl | h
  ·exact (Fs.1 hf).1
  ·exact J2w (Fs.1 hf).2 h
theorem Jyv:∀ (N:Nat) (t u:Tree),(t.enc []).length≤N→okT t→okT u→∀ x y,Ends x→Ends y→Jqf t ++ x=Jqf u ++ y→t=u∧x=y
 | 0,t,u,hN,_,_,_,_,_,_,_=>by have:=Et t [];omega
 | N+1,t,u,hN,ht,hu,x,y,hx,hy,h=>by
  obtain ⟨a,r,e1,c1,_⟩:=Jtd ht;obtain ⟨b,q,e2,c2,_⟩:=Jtd hu;have hk:t.kind=u.kind:=by
   rw [e1,e2] at h;injection h with h _
   rw [← c1,← c2,h]
  obtain ⟨k,s,g,e,kids⟩:=t;obtain ⟨k',s',g',e',kids'⟩:=u;have hk:k=k':=hk;subst hk;obtain ⟨n1,q1,f1⟩:=Lu.1 ht;obtain ⟨n2,q2,f2⟩:=Lu.1 hu;rw [A6,List.length_cons] at hN;have ih:∀ p∈kids.list,∀ u,okT u→∀ x y,Ends x→Ends y→Jqf p.2 ++ x=Jqf u ++ y→p.2=u∧x=y:=fun p hp u hu x y hx hy h =>
   Jyv N p.2 u (by have:=J2l hp;omega) (J2w f1 hp) hu x y hx hy h
  rw [Jrk,Jrk] at h;have bare:∀ {s:List UInt8} {g:Bool} {e m:Int},k=5∨k=6→G3 k s g e m→s=[]∧g=false∧e=0:=fun hk hn=>by
   unfold G3 at hn;rw [if_neg omg,if_neg omg,if_neg omg,if_pos hk] at hn;exact hn.2
  by_cases h5:k=5
  ·rw [if_pos h5,if_pos h5] at h;simp only [List.cons_append,List.append_assoc,List.nil_append] at h;injection h with _ h
   obtain ⟨a1,a2,a3⟩:=bare (.inl h5) n1;obtain ⟨b1,b2,b3⟩:=bare (.inl h5) n2;obtain ⟨g1,g2⟩:=Juq (.inl rfl) kids kids' true x y f1 f2 (fun p hp=>⟨q1.2.1 p hp,fun _=>q1.1 h5 p hp⟩) (fun p hp=>⟨q2.2.1 p hp,fun _=>q2.1 h5 p hp⟩) ih h;subst a1 a2 a3 b1 b2 b3 g1;exact ⟨rfl,g2⟩
  ·rw [if_neg h5,if_neg h5] at h;by_cases h6:k=6
   ·rw [if_pos h6,if_pos h6] at h;simp only [List.cons_append,List.append_assoc,List.nil_append] at h;injection h with _ h
    obtain ⟨a1,a2,a3⟩:=bare (.inr h6) n1;obtain ⟨b1,b2,b3⟩:=bare (.inr h6) n2;obtain ⟨g1,g2⟩:=Juq (.inr rfl) kids kids' true x y f1 f2 (fun p hp=>⟨q1.2.1 p hp,fun h=>(by cases h)⟩) (fun p hp=>⟨q2.2.1 p hp,fun h=>(by cases h)⟩) ih h;subst a1 a2 a3 b1 b2 b3 g1;exact ⟨rfl,g2⟩
   ·rw [if_neg h6,if_neg h6] at h;obtain ⟨p1,z1,_⟩:=Jsw ht h5 h6;obtain ⟨p2,z2,_⟩:=Jsw hu h5 h6;obtain ⟨g1,g2⟩:=J4d p1 p2 hx hy h;injection g1 with _ _ _ g3 g4 g5
    subst g3 g4 g5 z1 z2;exact ⟨rfl,g2⟩
theorem J4j {t u:Tree} (ht:okT t) (hu:okT u) (h:Jqf t=Jqf u):t=u :=
 (Jyv _ t u (Nat.le_refl _) ht hu [] [] (fun c hc=>by cases hc) (fun c hc=>by cases hc) (by rw [List.append_nil,List.append_nil];exact h)).1
end Go.LX

set_option maxRecDepth 100000
set_option maxHeartbeats 2000000
namespace Go.LX
open Go Go.RowKit Go.Proofs
attribute [local irreducible] Al SWP Bi
end Go.LX
namespace Go.Proofs
open Go.Shelf
def Tryd_lays105_renX:Go.Shelf.Ren:=⟨fun | 105=>51 | 212=>34 | 99=>60 | 165=>61 | 166=>41 | 170=>62 | 169=>33 | 263=>44 | 264=>45 | 206=>68 | 240=>50 | 241=>69 | 276=>59 | 277=>75 | n=>n,fun | 9=>9 | 3=>3 | 4=>4 | 20=>20 | 0=>0 | 46=>62 | 109=>63 | 5=>5 | 72=>57 | 76=>74 | 51=>79 | 146=>80 | 53=>82 | 148=>83 | 70=>55 | 37=>41 | 75=>73 | 127=>78 | 164=>97 | 80=>61 | n=>n,fun | n=>n⟩
theorem Jx6:Go.Proofs.Lays.n105 Tryd.prog Tryd_lays105_renX:={
 mixed:=by kernel_rfl
 f99:=Tryd.func60.trans (congrArg some (by kernel_rfl))
 f105:=Tryd.func51.trans (congrArg some (by kernel_rfl))
 f165:=Tryd.func61.trans (congrArg some (by kernel_rfl))
 f166:=Tryd.func41.trans (congrArg some (by kernel_rfl))
 f169:=Tryd.func33.trans (congrArg some (by kernel_rfl))
 f170:=Tryd.func62.trans (congrArg some (by kernel_rfl))
 f206:=Tryd.func68.trans (congrArg some (by kernel_rfl))
 f212:=Tryd.func34.trans (congrArg some (by kernel_rfl))
 f240:=Tryd.func50.trans (congrArg some (by kernel_rfl))
 f241:=Tryd.func69.trans (congrArg some (by kernel_rfl))
 f263:=Tryd.func44.trans (congrArg some (by kernel_rfl))
 f264:=Tryd.func45.trans (congrArg some (by kernel_rfl))
 f276:=Tryd.func59.trans (congrArg some (by kernel_rfl))
 f277:=Tryd.func75.trans (congrArg some (by kernel_rfl))
 t0:=Tryd.underlying0
 a0:=Tryd.isAgg0
 z0:=Tryd.sizeOf0
 v0:=Tryd.zeroValue0
 t3:=Tryd.underlying3
 a3:=Tryd.isAgg3
 z3:=Tryd.sizeOf3
 v3:=Tryd.zeroValue3
 t4:=Tryd.underlying4
 a4:=Tryd.isAgg4
 z4:=Tryd.sizeOf4
 v4:=Tryd.zeroValue4
 t5:=Tryd.underlying5
 a5:=Tryd.isAgg5
 z5:=Tryd.sizeOf5
 v5:=Tryd.zeroValue5
 t9:=Tryd.underlying9
 a9:=Tryd.isAgg9
 z9:=Tryd.sizeOf9
 v9:=Tryd.zeroValue9
 t20:=Tryd.underlying20
 a20:=Tryd.isAgg20
 z20:=Tryd.sizeOf20
 v20:=Tryd.zeroValue20
 t37:=Tryd.underlying41
 a37:=Tryd.isAgg41
 z37:=Tryd.sizeOf41
 v37:=Tryd.zeroValue41
 t46:=Tryd.underlying62
 a46:=Tryd.isAgg62
 z46:=Tryd.sizeOf62
 v46:=Tryd.zeroValue62
 t51:=Tryd.underlying79
 a51:=Tryd.isAgg79
 z51:=Tryd.sizeOf79
 v51:=Tryd.zeroValue79
 t53:=Tryd.underlying82
 a53:=Tryd.isAgg82
 z53:=Tryd.sizeOf82
 v53:=Tryd.zeroValue82
 t70:=Tryd.underlying55
 a70:=Tryd.isAgg55
 z70:=Tryd.sizeOf55
 v70:=Tryd.zeroValue55
 t72:=Tryd.underlying57
 a72:=Tryd.isAgg57
 z72:=Tryd.sizeOf57
 v72:=Tryd.zeroValue57
 t75:=Tryd.underlying73
 a75:=Tryd.isAgg73
 z75:=Tryd.sizeOf73
 v75:=Tryd.zeroValue73
 t76:=Tryd.underlying74
 a76:=Tryd.isAgg74
 z76:=Tryd.sizeOf74
 v76:=Tryd.zeroValue74
 t109:=Tryd.underlying63
 a109:=Tryd.isAgg63
 z109:=Tryd.sizeOf63
 v109:=Tryd.zeroValue63
 t127:=Tryd.underlying78
 a127:=Tryd.isAgg78
 z127:=Tryd.sizeOf78
 v127:=Tryd.zeroValue78
 t146:=Tryd.underlying80
 a146:=Tryd.isAgg80
 z146:=Tryd.sizeOf80
 v146:=Tryd.zeroValue80
 t148:=Tryd.underlying83
 a148:=Tryd.isAgg83
 z148:=Tryd.sizeOf83
 v148:=Tryd.zeroValue83
 t164:=Tryd.underlying97
 a164:=Tryd.isAgg97
 z164:=Tryd.sizeOf97
 v164:=Tryd.zeroValue97 }
theorem Jsx:Builder.Extra Tryd.prog Tryd_lays105_renX:={
 sizeBuilder:=by kernel_rfl
 liesBuilder:=by kernel_rfl
 t5:=Tryd.underlying5
 a5:=Tryd.isAgg5
 z5:=Tryd.sizeOf5
 v5:=Tryd.zeroValue5
 infoByte:=by kernel_rfl
 cellsByte:=by kernel_rfl
 sizeByte:=by kernel_rfl
 neB5:=by decide }
open Go.RowKit Go.Lib in
theorem Tryd.strings_Repeat (s:ByteArray) (c:Nat) (w:World) (hc:c≤9223372036854775807) (hlen:s.size * c≤140737488355328) :
  Calls Tryd.prog 51 #[.string s,.int .i64 c] w fun e w'=>e=.returned (.string ⟨(Lib.repeatL s.data.toList c).toArray⟩)∧Below w.heap.size w w':=Any.strings_Repeat Jx6 Jsx s c w hc hlen
end Go.Proofs
set_option maxRecDepth 100000
set_option maxHeartbeats 2000000
namespace Go.LX
open Go Go.RowKit Go.Proofs
attribute [local irreducible] Al SWP Bi
theorem J08 (s:List UInt8) (n:Nat) (hn:n≤9223372036854775807) (hl:s.length * n≤140737488355328):Det cx 51 [.p (.str s),.p (.int .i64 n)] [] (.p (.str (Lib.repeatL s n))) []:=by
 refine Jr5 (v:=.string ⟨⟨Lib.repeatL s n⟩⟩) (enters_of Tryd.func51 kr rfl) rfl (fun β w Im=>PRep.str _) fun β Im w vs hg hf=>?_
 obtain ⟨v,u,rfl,h1,h2⟩:=fit2 hf;cases Ks h1;cases Mz h2;exact Tryd.strings_Repeat ⟨⟨s⟩⟩ n w hn hl
theorem J34 (s:List UInt8) (n:Int) (h0:0≤n) (hn:n≤9223372036854775807) (hl:s.length * n.toNat≤140737488355328):Det cx 51 [.p (.str s),.p (.int .i64 n)] [] (.p (.str (Lib.repeatL s n.toNat))) []:=by
 have:=J08 s n.toNat omg hl
 rwa [Int.toNat_of_nonneg h0] at this
theorem Jw3 (n:Node) (hn:n.small):Det cx 49 [.p (.agg n.pv)] [] (.p (.str (Jqt n))) []:=by
 obtain ⟨a1,a2,a3⟩:=hn;have hr:∀ k,(Lib.repeatL [48] k).length=k:=Jrj;have w1:IntKind.i64.wrap (1 - n.e)=1 - n.e:=Aa omg omg;have w2:IntKind.i64.wrap (1 - n.e - n.s.length)=1 - n.e - n.s.length:=Aa omg omg;have w3:IntKind.i64.wrap (n.s.length+n.e)=n.s.length+n.e:=Aa omg omg;have w4:IntKind.i64.wrap (((1 - n.e - n.s.length).toNat:Int)+n.s.length+n.e)=((1 - n.e - n.s.length).toNat:Int)+n.s.length+n.e:=Aa omg omg;have hmax:max (1 - n.e - (n.s.length:Int)) 0=((1 - n.e - n.s.length).toNat:Nat):=by omega
 have hi:=Jyp (n:=n.e) omg omg;(refine bgo Tryd.func49 ?_;simp only [go_sem,simprocAttr,pv_eq,w1,w2,w3,hmax]);(repeat' (first | (apply iteI <;> intro h)|(refine Jqs ?_)|((first | (refine Jqy ?_)|(refine Jqa (J34 [48] n.e omg omg (by simp;omega)) ?_)|(refine Jqa (J08 [48] _ omg (by simp;omega)) ?_)|(refine Jqa (N0 n.e omg omg) ?_));simp only [go_sem,simprocAttr,w4,hr,List.length_append,Int.natCast_add])|(exfalso;omega)))
 all_goals (try (refine ⟨by simp [hr];omega,by simp [hr];omega,by omega,by omega,by simp [hr];omega,?_⟩))
 all_goals clear hmax w1 w2 w3 w4
 all_goals simp [Jqt,Jrs, *]
end Go.LX
