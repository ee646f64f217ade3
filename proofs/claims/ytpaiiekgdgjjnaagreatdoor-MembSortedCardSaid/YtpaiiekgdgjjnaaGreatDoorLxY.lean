/- Atoms, the document's answer: candidates, and the least member. -/
import Derived.Test.YtpaiiekgdgjjnaaGreatDoorLxX
import Derived.Test.YtpaiiekgdgjjnaaGreatDoorLxR
import Derived.Test.YtpaiiekgdgjjnaaGreatDoorLxS
import Derived.Test.YtpaiiekgdgjjnaaGreatDoorLxU
import Derived.Test.YtpaiiekgdgjjnaaGreatDoorLxN
set_option linter.unusedSimpArgs false
set_option linter.unusedVariables false
set_option linter.unusedSectionVars false
set_option linter.unnecessarySimpa false
set_option maxRecDepth 100000
set_option maxHeartbeats 2000000
namespace Go.LX
open Go Go.RowKit Go.Proofs
attribute [local irreducible] Al SWP Bi
theorem J59 {l:List (Int×Node)} {i:Nat} {a:Int×Node} (h:l[i]? = some a):Jq7 (l.take (i+1))=Jq7 (l.take i) ++ numC a:=by
 unfold Jq7;rw [List.take_add_one,h];simp
theorem J9u (a:Int×Node):(numC a).length≤3:=by
 unfold numC;split
 ·cases Jr6 a.2 true <;> cases Jr6 a.2 false <;> simp
 ·simp
theorem J1l (l:List (Int×Node)):(Jq7 l).length≤4+3 * l.length:=by
 unfold Jq7;simp only [List.length_append,List.length_cons,List.length_nil];have:∀ l:List (Int×Node),(l.flatMap numC).length≤3 * l.length:=by
  intro l
  induction l with
  | nil=>simp
  | cons a l ih=>have:=J9u a;simp only [List.flatMap_cons,List.length_append,List.length_cons];omega
 have:=this l;omega
def Jsc (l:List (Int×Node)) (i:Nat):List Node:=Jq7 l ++ [Ju6 4] ++ (l.take i).flatMap strC
theorem J6q {l:List (Int×Node)} {i:Nat} {a:Int×Node} (h:l[i]? = some a):Jsc l (i+1)=Jsc l i ++ strC a:=by
 unfold Jsc;rw [List.take_add_one,h];simp
theorem strC_len (a:Int×Node):(strC a).length≤2:=by unfold strC;split <;> simp
theorem J1m (l:List (Int×Node)) (i:Nat):(Jsc l i).length≤5+3 * l.length+2 * i:=by
 unfold Jsc;have h1:=J1l l;have:∀ l:List (Int×Node),(l.flatMap strC).length≤2 * l.length:=by
  intro l
  induction l with
  | nil=>simp
  | cons a l ih=>have:=strC_len a;simp only [List.flatMap_cons,List.length_append,List.length_cons];omega
 have h2:=this (l.take i);have h3:(l.take i).length≤i:=List.length_take_le _ _;simp only [List.length_append,List.length_cons,List.length_nil];omega
theorem J3i (l:List (Int×Node)) (hl:l.length≤100000) (ha:∀ a∈l,Jrb a.2∧a.2.s.length≤1000000):Det cx 246 [.p (.sl (Jrg l))] [] (.p (.sl (valL (Js9 l)))) []:=by
 (refine bgo Tryz.func246 ?_;simp only [go_sem,simprocAttr]);refine SWP.loop (fun i:Nat=>⟨Ba 98 [(0,.p (.sl (Jrg l))),(3,.own 14 0 (Jq7 (l.take i)).length),(4,.p (.int .i64 i))],[(14,.row 29 6 (valL (Jq7 (l.take i))))]⟩) (fun i=>i≤l.length) (fun i=>l.length - i) 0 (by rw [show valL (Jq7 (l.take 0))=[[.int .i64 0,.int .i64 0,.str [],.str [],.bool false,.int .i64 0],[.int .i64 1,.int .i64 0,.str [],.str [],.bool false,.int .i64 0],[.int .i64 2,.int .i64 0,.str [],.str [],.bool false,.int .i64 0],[.int .i64 3,.int .i64 0,.str [],.str [],.bool false,.int .i64 0]] from rfl,show (Jq7 (l.take 0)).length=4 from rfl];exact Jqb) (Nat.zero_le _) ?_;rintro i hi;have hcl:=J1l (l.take i);rw [List.length_take,Nat.min_eq_left hi] at hcl;have hpl:(valL (Jq7 (l.take i))).length=(Jq7 (l.take i)).length:=A7 _;have hle0:((Jq7 (l.take i)).length≤(Jq7 (l.take i)).length)=True:=eq_true (Nat.le_refl _);by_cases hlt:i<l.length
 ·have c1:((i:Int)<(l.length:Int))=True:=eq_true omg;obtain ⟨a,hq⟩:∃ a,l[i]? = some a:=⟨_,List.getElem?_eq_getElem hlt⟩
  have hg:=Jvq hq;have hap:=(ha a (List.mem_of_getElem? hq)).1;have htk:=J59 hq;have w1:IntKind.i64.wrap ((i:Int)+1)=((i+1:Nat):Int):=by rw [Aa omg omg];omega
  by_cases hk:a.2.kind=3
  ·have c2:=eq_true hk;have hB1:=J33 a.2 true hk hap;have hB2:=J33 a.2 false hk hap;have hnc:numC a=a.2 :: ((Jr6 a.2 true).toList ++ (Jr6 a.2 false).toList):=if_pos hk;rw [hnc] at htk;cases h1:Jr6 a.2 true with
   | none =>
    cases h2:Jr6 a.2 false with
    | none =>
     rw [h1] at hB1;rw [h2] at hB2;rw [h1,h2] at htk;simp only [besL] at hB1 hB2;have e1:valL (Jq7 (l.take i) ++ (a.2 :: ((none:Option Node).toList ++ (none:Option Node).toList)))=valL (Jq7 (l.take i)) ++ [[.int .i64 a.2.kind,.int .i64 a.2.many,.str a.2.name,.str a.2.s,.bool a.2.neg,.int .i64 a.2.e]]:=by simp [valL,Node.cells]
     have e2:(Jq7 (l.take i) ++ (a.2 :: ((none:Option Node).toList ++ (none:Option Node).toList))).length=(Jq7 (l.take i)).length+1:=by simp
     (refine lws ?_;simp only [go_sem,simprocAttr,Jqx,c1,c2,hg,hpl]);(repeat' (first | (refine And.intro (by first | (simp;done)|(simp;omega)) ?_)|(refine Jqe ?_)|((first | (refine Jqa (hB1) ?_)|(refine Jqa (hB2) ?_));simp only [go_sem,simprocAttr,hg,w1]) | fail));refine ⟨i+1,by omega,by omega,?_⟩;rw [htk];refine (B1 [(35,14)] _ sm).trans ?_;simp only [go_sem,simprocAttr];rw [e1,e2];exact Jqb
    | some q =>
     rw [h1] at hB1;rw [h2] at hB2;rw [h1,h2] at htk;simp only [besL] at hB1 hB2;have e1:valL (Jq7 (l.take i) ++ (a.2 :: ((none:Option Node).toList ++ (some q).toList)))=valL (Jq7 (l.take i)) ++ [[.int .i64 a.2.kind,.int .i64 a.2.many,.str a.2.name,.str a.2.s,.bool a.2.neg,.int .i64 a.2.e]] ++ [[.int .i64 q.kind,.int .i64 q.many,.str q.name,.str q.s,.bool q.neg,.int .i64 q.e]]:=by simp [valL,Node.cells]
     have e2:(Jq7 (l.take i) ++ (a.2 :: ((none:Option Node).toList ++ (some q).toList))).length=(Jq7 (l.take i)).length+1+1:=by simp
     (refine lws ?_;simp only [go_sem,simprocAttr,Jqx,c1,c2,hg,hpl]);(repeat' (first | (refine And.intro (by first | (simp;done)|(simp;omega)) ?_)|(refine Jqe ?_)|((first | (refine Jqa (hB1) ?_)|(refine Jqa (hB2) ?_));simp only [go_sem,simprocAttr,hg,w1]) | fail));refine ⟨i+1,by omega,by omega,?_⟩;rw [htk];refine (B1 [(63,14)] _ sm).trans ?_;simp only [go_sem,simprocAttr];rw [e1,e2];exact Jqb
   | some m =>
    cases h2:Jr6 a.2 false with
    | none =>
     rw [h1] at hB1;rw [h2] at hB2;rw [h1,h2] at htk;simp only [besL] at hB1 hB2;have e1:valL (Jq7 (l.take i) ++ (a.2 :: ((some m).toList ++ (none:Option Node).toList)))=valL (Jq7 (l.take i)) ++ [[.int .i64 a.2.kind,.int .i64 a.2.many,.str a.2.name,.str a.2.s,.bool a.2.neg,.int .i64 a.2.e]] ++ [[.int .i64 m.kind,.int .i64 m.many,.str m.name,.str m.s,.bool m.neg,.int .i64 m.e]]:=by simp [valL,Node.cells]
     have e2:(Jq7 (l.take i) ++ (a.2 :: ((some m).toList ++ (none:Option Node).toList))).length=(Jq7 (l.take i)).length+1+1:=by simp
     (refine lws ?_;simp only [go_sem,simprocAttr,Jqx,c1,c2,hg,hpl]);(repeat' (first | (refine And.intro (by first | (simp;done)|(simp;omega)) ?_)|(refine Jqe ?_)|((first | (refine Jqa (hB1) ?_)|(refine Jqa (hB2) ?_));simp only [go_sem,simprocAttr,hg,w1]) | fail));refine ⟨i+1,by omega,by omega,?_⟩;rw [htk];refine (B1 [(49,14)] _ sm).trans ?_;simp only [go_sem,simprocAttr];rw [e1,e2];exact Jqb
    | some q =>
     rw [h1] at hB1;rw [h2] at hB2;rw [h1,h2] at htk;simp only [besL] at hB1 hB2;have e1:valL (Jq7 (l.take i) ++ (a.2 :: ((some m).toList ++ (some q).toList)))=valL (Jq7 (l.take i)) ++ [[.int .i64 a.2.kind,.int .i64 a.2.many,.str a.2.name,.str a.2.s,.bool a.2.neg,.int .i64 a.2.e]] ++ [[.int .i64 m.kind,.int .i64 m.many,.str m.name,.str m.s,.bool m.neg,.int .i64 m.e]] ++ [[.int .i64 q.kind,.int .i64 q.many,.str q.name,.str q.s,.bool q.neg,.int .i64 q.e]]:=by simp [valL,Node.cells]
     have e2:(Jq7 (l.take i) ++ (a.2 :: ((some m).toList ++ (some q).toList))).length=(Jq7 (l.take i)).length+1+1+1:=by simp
     (refine lws ?_;simp only [go_sem,simprocAttr,Jqx,c1,c2,hg,hpl]);(repeat' (first | (refine And.intro (by first | (simp;done)|(simp;omega)) ?_)|(refine Jqe ?_)|((first | (refine Jqa (hB1) ?_)|(refine Jqa (hB2) ?_));simp only [go_sem,simprocAttr,hg,w1]) | fail));refine ⟨i+1,by omega,by omega,?_⟩;rw [htk];refine (B1 [(63,14)] _ sm).trans ?_;simp only [go_sem,simprocAttr];rw [e1,e2];exact Jqb
  ·have c2:=eq_false hk;have hnc:numC a=[]:=if_neg hk;rw [hnc,List.append_nil] at htk;(refine lws ?_;simp only [go_sem,simprocAttr,Jqx,c1,c2,hg,w1]);refine ⟨i+1,by omega,by omega,?_⟩;rw [htk];exact Jqb
 ·have hil:i=l.length:=by omega
  subst hil;have c1:((l.length:Int)<(l.length:Int))=False:=eq_false omg;rw [List.take_length] at *
  (refine lws ?_;simp only [go_sem,simprocAttr,Jqx,c1,hpl]);(repeat' (first | (refine And.intro (by first | (simp;done)|(simp;omega)) ?_)|(refine Jqe ?_) | fail));refine SWP.loop (fun i:Nat=>⟨Ba 98 [(0,.p (.sl (Jrg l))),(3,.own 67 0 (Jsc l i).length),(9,.p (.int .i64 i))],[(67,.row 29 6 (valL (Jsc l i)))]⟩) (fun i=>i≤l.length) (fun i=>l.length - i) 0 (by rw [show valL (Jsc l 0)=valL (Jq7 l) ++ [[.int .i64 4,.int .i64 0,.str [],.str [],.bool false,.int .i64 0]] by simp [Jsc,valL,Ju6,Node.cells],show (Jsc l 0).length=(Jq7 l).length+1 by simp [Jsc]];exact Jqb) (Nat.zero_le _) ?_;rintro i hi;have hcl:=J1m l i;have hpl:(valL (Jsc l i)).length=(Jsc l i).length:=A7 _;have hle0:((Jsc l i).length≤(Jsc l i).length)=True:=eq_true (Nat.le_refl _);by_cases hlt:i<l.length
  ·have c1:((i:Int)<(l.length:Int))=True:=eq_true omg;obtain ⟨a,hq⟩:∃ a,l[i]? = some a:=⟨_,List.getElem?_eq_getElem hlt⟩
   have hg:=Jvq hq;have htk:=J6q hq;have hsl:=(ha a (List.mem_of_getElem? hq)).2;have w1:IntKind.i64.wrap ((i:Int)+1)=((i+1:Nat):Int):=by rw [Aa omg omg];omega
   by_cases hk:a.2.kind=4
   ·have c2:=eq_true hk;have hnc:strC a=[a.2,⟨4,0,[],a.2.s ++ [0],false,0⟩]:=if_pos hk;rw [hnc] at htk;have e1:valL (Jsc l i ++ [a.2,⟨4,0,[],a.2.s ++ [0],false,0⟩])=valL (Jsc l i) ++ [[.int .i64 a.2.kind,.int .i64 a.2.many,.str a.2.name,.str a.2.s,.bool a.2.neg,.int .i64 a.2.e],[.int .i64 4,.int .i64 0,.str [],.str (a.2.s ++ [0]),.bool false,.int .i64 0]]:=by simp [valL,Node.cells]
    have e2:(Jsc l i ++ [a.2,⟨4,0,[],a.2.s ++ [0],false,0⟩]).length=(Jsc l i).length+2:=by simp
    (refine lws ?_;simp only [go_sem,simprocAttr,Jqx,c1,c1,c2,hg]);(refine Gi 15 hm krf krf ?_;simp only [go_sem,simprocAttr,hpl,hg,hpl,w1]);(repeat' (first | (refine And.intro (by first | omega | (simp;done)|(simp;omega)) ?_) | fail));refine ⟨i+1,by omega,by omega,?_⟩;rw [htk];refine (B1 [(96,67)] _ sm).trans ?_;simp only [go_sem,simprocAttr];rw [e1,e2];exact Jqb
   ·have c2:=eq_false hk;have hnc:strC a=[]:=if_neg hk;rw [hnc,List.append_nil] at htk;(refine lws ?_;simp only [go_sem,simprocAttr,Jqx,c1,c1,c2,hg,w1]);refine ⟨i+1,by omega,by omega,?_⟩;rw [htk];exact Jqb
  ·have hil:i=l.length:=by omega
   subst hil;have c1:((l.length:Int)<(l.length:Int))=False:=eq_false omg;have hR:Jsc l l.length=Js9 l:=by unfold Jsc Js9;rw [List.take_length]
   rw [hR] at hcl hpl hle0 ⊢;have htk:(valL (Js9 l)).take (Js9 l).length=valL (Js9 l):=List.take_of_length_le (by rw [A7];exact Nat.le_refl _);(refine lws ?_;simp only [go_sem,simprocAttr,Jqx,c1,hpl,hle0,c1,hpl,hle0,htk])
   skip
theorem J88 {n:Node} (h:Jrb n) (hs:n.s.length≤500):CandFit n:=by
 obtain ⟨h1,h2,h3⟩:=h;unfold G3 at h3;by_cases g1:n.kind=0∨n.kind=1∨n.kind=2
 ·rw [if_pos g1] at h3;exact ⟨by omega,h2,by omega,by omega⟩
 ·rw [if_neg g1] at h3;by_cases g2:n.kind=3
  ·rw [if_pos g2] at h3;obtain ⟨_,_,_,k1,k2,_⟩:=h3;exact ⟨by omega,h2,k1,k2⟩
  ·rw [if_neg g2] at h3;by_cases g3:n.kind=4
   ·rw [if_pos g3] at h3;exact ⟨by omega,h2,by omega,by omega⟩
   ·rw [if_neg g3] at h3;by_cases g4:n.kind=5∨n.kind=6
    ·omega
    ·rw [if_neg g4] at h3;exact h3.elim
theorem J8s {c:List Node} {p:Node→Bool} {i:Nat} {n:Node} (h:c[i]? = some n):(c.drop i).find? p=if p n=true then some n else (c.drop (i+1)).find? p:=by
 have hi:=(List.getElem?_eq_some_iff.1 h).1;rw [List.drop_eq_getElem_cons hi,List.find?_cons];have:c[i]=n:=by rw [List.getElem?_eq_getElem hi] at h;exact Option.some.inj h
 rw [this];cases p n <;> simp
theorem J8z (l:List (Int×Node)):(Js9 l).length≤5+5 * l.length:=by
 have h:=J1m l l.length;have hR:Jsc l l.length=Js9 l:=by unfold Jsc Js9;rw [List.take_length]
 rw [hR] at h;omega
theorem d_Least (m:Nat) (l:List (Int×Node)) (hmk:m≤1000) (hl:l.length≤100000) (ha:∀ a∈l,Jrn a.1 a.2∧a.2.s.length≤500):Det cx 198 [.p (.int .i64 m),.p (.sl (Jrg l))] [] (besL ((Js9 l).find? (Jq1 m l))) []:=by
 have hC:=J3i l hl (fun a h=>⟨(ha a h).1.2.2,by have:=(ha a h).2;omega⟩);have hfit:∀ n∈Js9 l,CandFit n:=fun n hn=>cand_fit (fun a h=>⟨J88 (ha a h).1.2.2 (ha a h).2,(ha a h).2⟩) hn
 have hlen:=J8z l;generalize Js9 l=c at *
 (refine bgo Tryz.func198 ?_;simp only [go_sem,simprocAttr]);(repeat' (first | ((refine Jqa (hC) ?_);simp only [go_sem,simprocAttr]) | fail));refine SWP.loop (fun i:Nat=>⟨Ba 28 [(0,.p (.int .i64 m)),(1,.p (.sl (Jrg l))),(4,.ptr 4 0 0),(6,.p (.sl (valL c))),(7,.p (.int .i64 i))],[(4,.var 29 [.p (.int .i64 0),.p (.int .i64 0),.p (.str []),.p (.str []),.p (.bool false),.p (.int .i64 0)])]⟩) (fun i=>i≤c.length∧c.find? (Jq1 m l)=(c.drop i).find? (Jq1 m l)) (fun i=>c.length - i) 0 Jqb ⟨Nat.zero_le _,rfl⟩ ?_;rintro i ⟨hi,hf⟩;rw [hf];by_cases hlt:i<c.length
 ·have c1:((i:Int)<(c.length:Int))=True:=eq_true omg;obtain ⟨n,hq⟩:∃ n,c[i]? = some n:=⟨_,List.getElem?_eq_getElem hlt⟩
  have hg:=U5 hq;have hn:=hfit n (List.mem_of_getElem? hq);have hM:=J3t m l n hmk omg (fun a h=>(ha a h).1) ⟨by have:=hn.s;omega,by rw [hn.name];simp,by have:=hn.e0;omega,by have:=hn.e1;omega⟩;have w1:IntKind.i64.wrap ((i:Int)+1)=((i+1:Nat):Int):=by rw [Aa omg omg];omega
  rw [J8s hq];cases hb:Jq1 m l n with
  | true =>
   rw [hb] at hM;(refine lws ?_;simp only [go_sem,simprocAttr,c1,hg,A7]);(repeat' (first | ((refine Jqa (hM) ?_);simp only [go_sem,simprocAttr,hg]) | fail));rfl
  | false =>
   rw [hb] at hM;(refine lws ?_;simp only [go_sem,simprocAttr,c1,hg,A7]);(repeat' (first | ((refine Jqa (hM) ?_);simp only [go_sem,simprocAttr,w1]) | fail));exact ⟨i+1,⟨by omega,rfl⟩,by omega,Jqb⟩
 ·have hil:i=c.length:=by omega
  subst hil;have c1:((c.length:Int)<(c.length:Int))=False:=eq_false omg;rw [List.drop_length];(refine lws ?_;simp only [go_sem,simprocAttr,c1,A7]);rfl
def J0o (l:List YRow):List (Int×Node):=l.map fun r=>(r.n,r.c)
def Jq4 (v:List YRow) (i m:Nat):List (Int×Node):=J0o ((v.drop (i+1)).take m)
theorem Ju7 {v:List YRow} {i m:Nat} (h:i+m<v.length):(Jq4 v i m).length=m:=by
 simp [Jq4,J0o];omega
theorem Jyg {v:List YRow} {i m j:Nat} {q:YRow} (h:v[i+1+j]? = some q) (hj:j<m):(Jq4 v i m)[j]? = some (q.n,q.c):=by
 simp only [Jq4,J0o,List.getElem?_map,List.getElem?_take,if_pos hj,List.getElem?_drop,h,Option.map_some]
theorem J78 (v:List YRow) (i m:Nat) (r:YRow) (hr:v[i]? = some r) (hk:r.kind=1) (hrm:r.many=(m:Int)) (hb:i+m<v.length) (hv:v.length≤999999):Det cx 145 [.p (.sl (rowL v)),.p (.int .i64 i)] [] (.p (.sl (Jrg (Jq4 v i m)))) []:=by
 have hg0:=Jue hr;rw [hk,hrm] at hg0;have hal:=Ju7 hb;have w0:IntKind.i64.wrap ((i:Int)+1)=((i+1:Nat):Int):=by rw [Aa omg omg];omega
 (refine bgo Tryz.func145 ?_;simp only [go_sem,simprocAttr,w0]);refine Jq0 (B1 [(7,42)] _ sm) ?_;simp only [go_sem,simprocAttr];refine SWP.loop (fun j:Nat=>⟨Ba 44 [(0,.p (.sl (rowL v))),(1,.p (.int .i64 i)),(5,.own 42 0 j),(6,.p (.int .i64 (i+1+j:Nat)))],[(42,.row 118 7 (Jrg ((Jq4 v i m).take j)))]⟩) (fun j=>j≤m) (fun j=>m - j) 0 (by rw [show Jrg (List.take 0 (Jq4 v i m))=[] from rfl];exact Jqb) (Nat.zero_le _) ?_;rintro j hj;have w3:IntKind.i64.wrap ((i:Int)+(m:Int))=((i+m:Nat):Int):=by rw [Aa omg omg];omega
 by_cases hlt:¬ j<m
 ·have hi2:j=m:=by omega
  subst hi2;have c1:(((i+1+j:Nat):Int)≤((i+j:Nat):Int))=False:=eq_false omg;have hpl:(j≤(Jq4 v i j).length)=True:=eq_true omg;have ht1:(Jq4 v i j).take j=Jq4 v i j:=List.take_of_length_le omg;have ht2:(Jrg (Jq4 v i j)).take j=Jrg (Jq4 v i j):=List.take_of_length_le (by rw [Jqx];omega);(refine lws ?_;simp only [go_sem,simprocAttr,hg0,c1,w3,hpl,ht1,ht2,Jqx])
  skip
 ·have hlt:=Decidable.not_not.1 hlt;obtain ⟨q,hq⟩:∃ q,v[i+1+j]? = some q:=⟨_,List.getElem?_eq_getElem omg⟩
  have hgi:=Jue hq;have hga:=Jyg hq hlt;have htk:=J0a hga;have hpl:(Jrg ((Jq4 v i m).take j)).length=j:=by rw [Jqx,List.length_take];omega
  have c1:(((i+1+j:Nat):Int)≤((i+m:Nat):Int))=True:=eq_true omg;have w4:IntKind.i64.wrap (((i+1+j:Nat):Int)+1)=((i+1+(j+1):Nat):Int):=by rw [Aa omg omg];omega
  (refine lws ?_;simp only [go_sem,simprocAttr,hg0,c1,w3]);refine J4m 12 [1,2,3,4,5,6,7,8,9,10,11] (.node 0 (.node 12 (.node 13 (.node 14 .leaf .nil) .nil) .nil) (.node 12 (.node 0 (.node 13 (.node 14 .leaf .nil) .nil) .nil) .nil)) 4 hm rfl krf krf ?_;simp only [go_sem,simprocAttr,hgi,hpl,w4];refine ⟨⟨by simp,by omega,by omega,j+1,by omega,by omega,?_⟩,⟨by simp,by omega,by omega,j+1,by omega,by omega,?_⟩⟩
  ·rw [htk];exact Jqb
  ·rw [htk];exact Jqb
theorem J2a:∀ (N:Nat) (F:RF),F.enc.length≤N→okRF F→∀ (i:Nat) (r:YRow),F.enc[i]? = some r→r.kind=1 →
  ∃ m:Nat,r.many=(m:Int)∧i+m<F.enc.length∧1≤r.n∧r.n≤31∧∀ j q,j<m→F.enc[i+1+j]? = some q→Jrn q.n q.c
 | 0,F,hN,_,i,r,hr,_=>by
  have:=(List.getElem?_eq_some_iff.1 hr).1;omega
 | N+1,.nil,hN,_,i,r,hr,_=>by rw [Jq2] at hr;simp at hr
 | N+1,.cons nm (.mk k s n c kids) rest,hN,hok,i,r,hr,hk=>by
  rw [J2i] at hok;obtain ⟨h1,h2,h3,h4⟩:=hok;have henc:(RF.cons nm (.mk k s n c kids) rest).enc=⟨k,kids.len,nm,s,n,c⟩ :: (kids.app rest).enc:=by
   rw [Jqg,Jqo,Jqr];rfl
  rw [henc] at hr hN ⊢;cases i with
  | succ i =>
   rw [List.getElem?_cons_succ] at hr;obtain ⟨m,a1,a2,a3,a4,a5⟩:=J2a N (kids.app rest) (by simp only [List.length_cons] at hN;omega) h4 i r hr hk;refine ⟨m,a1,by simp only [List.length_cons];omega,a3,a4,fun j q hj hq=>?_⟩;rw [show i+1+1+j=(i+1+j)+1 by omega,List.getElem?_cons_succ] at hq;exact a5 j q hj hq
  | zero =>
   rw [List.getElem?_cons_zero] at hr;cases hr;simp only at hk ⊢;subst hk;have hkids:∀ p∈kids.list,p.2.kind=9:=fun p hp=>((h2.1 p hp).1).2 rfl
   rw [Jy6] at h4;have hokk:=Jug.1 h4.1;have hleaf:J2e kids.list:=by
    intro p hp;have ho:=hokk p hp;have h9:=hkids p hp;obtain ⟨nm',⟨k',s',n',c',kids'⟩⟩:=p;simp only [RT.kind,RT.kids] at h9 ⊢;rw [Jt9] at ho;subst h9;have hz:kids'.len=0:=by have:=ho.1;unfold Jri at this;simp at this;omega
    cases kids' with
    | nil=>rfl
    | cons a b c=>simp [RF.len] at hz
   unfold Jri at h1;simp at h1;have hll:=Jrc kids;have hel:=J0g hleaf;refine ⟨kids.len,rfl,?_,h1.1,h1.2.1,fun j q hj hq=>?_⟩
   ·rw [Jqr];simp only [List.length_cons,List.length_append];omega
   ·rw [Nat.zero_add,Nat.add_comm 1 j,List.getElem?_cons_succ,Jqr,List.getElem?_append_left omg] at hq;obtain ⟨p,hp⟩:∃ p,kids.list[j]? = some p:=⟨_,List.getElem?_eq_getElem omg⟩
    rw [Jzl hleaf hp] at hq;cases hq;have ho:=hokk p (List.mem_of_getElem? hp);have h9:=hkids p (List.mem_of_getElem? hp);obtain ⟨nm',⟨k',s',n',c',kids'⟩⟩:=p;rw [Jt9] at ho;simp only [RT.kind] at h9;subst h9;have:=ho.1;unfold Jri at this;simp at this;exact this.2.2
noncomputable def Jur (v:List YRow) (i:Nat):Bool:=match v[i]? with
 | some r=>if r.kind=1 then ((Js9 (Jq4 v i r.many.toNat)).find? (Jq1 r.n (Jq4 v i r.many.toNat))).isSome else true
 | none=>true
noncomputable def Jwm (v:List YRow):Bool:=Jtk v && allF (Jur v) v.length 0
theorem d_Good (v:List YRow) (hv:v.length≤10000) (hf:∀ n∈v,RowFit n) (hs:∀ n∈v,n.c.s.length≤500):Det cx 122 [.p (.sl (rowL v))] [] (.p (.bool (Jwm v))) []:=by
 have hR:=J2s v hv hf;cases hr:Jtk v with
 | false =>
  rw [hr] at hR;rw [show Jwm v=false by unfold Jwm;rw [hr];rfl];(refine bgo Tryz.func122 ?_;simp only [go_sem,simprocAttr]);(repeat' (first | ((refine Jqa (hR) ?_);simp only [go_sem,simprocAttr]) | fail))
 | true =>
  rw [hr] at hR;rw [show Jwm v=allF (Jur v) v.length 0 by unfold Jwm;rw [hr];rfl];obtain ⟨t,hok,hk9,ht⟩:=Jt4.1 hr;have hsc:∀ (i:Nat) (r:YRow),v[i]? = some r→r.kind=1→∃ m:Nat,r.many=(m:Int)∧i+m<v.length∧1≤r.n∧r.n≤31∧∀ j q,j<m→v[i+1+j]? = some q→Jrn q.n q.c:=by
   have hF:(RF.cons [] t .nil).enc=v:=by rw [Jqg,Jq2,List.append_nil,ht]
   have:=J2a v.length (.cons [] t .nil) (by rw [hF];exact Nat.le_refl _) (by rw [Jsp];exact ⟨hok,Jtb⟩);rw [hF] at this;exact this
  (refine bgo Tryz.func122 ?_;simp only [go_sem,simprocAttr]);(repeat' (first | ((refine Jqa (hR) ?_);simp only [go_sem,simprocAttr]) | fail));refine SWP.loop (fun i:Nat=>⟨Ba 35 [(0,.p (.sl (rowL v))),(3,.p (.int .i64 i))],[]⟩) (fun i=>i≤v.length∧allF (Jur v) v.length 0=allF (Jur v) (v.length - i) i) (fun i=>v.length - i) 0 Jqb ⟨Nat.zero_le _,rfl⟩ ?_;rintro i ⟨hi,hall⟩;by_cases hlt:¬ i<v.length
  ·have c1:((i:Int)<(v.length:Int))=False:=eq_false omg;rw [show v.length - i=0 by omega,allF] at hall;rw [hall];(refine lws ?_;simp only [go_sem,simprocAttr,Jqi,c1])
   skip
  ·have hlt:=Decidable.not_not.1 hlt;have c1:((i:Int)<(v.length:Int))=True:=eq_true omg;obtain ⟨r,hq⟩:∃ r,v[i]? = some r:=⟨_,List.getElem?_eq_getElem hlt⟩
   have hg:=Jue hq;have w1:=wj1 (i:=i) omg;obtain ⟨k,hk1⟩:∃ k,v.length - i=k+1:=⟨v.length - i - 1,by omega⟩
   rw [hk1,allF] at hall;by_cases h1:r.kind=1
   ·have c2:=eq_true h1;obtain ⟨m,hrm,hb,hn0,hn1,hat⟩:=hsc i r hq h1;obtain ⟨N,hN⟩:∃ N:Nat,r.n=(N:Int):=⟨r.n.toNat,by omega⟩
    have hA:=J78 v i m r hq h1 hrm hb omg;have hat':∀ a∈Jq4 v i m,Jrn a.1 a.2∧a.2.s.length≤500:=by
     intro a ha;obtain ⟨j,hj⟩:=List.getElem?_of_mem ha;have hjm:j<m:=by
      have:=(List.getElem?_eq_some_iff.1 hj).1;rw [Ju7 hb] at this;exact this
     obtain ⟨q,hq2⟩:∃ q,v[i+1+j]? = some q:=⟨_,List.getElem?_eq_getElem omg⟩
     have:=Jyg (m:=m) hq2 hjm;rw [this] at hj;cases hj;exact ⟨hat j q hjm hq2,hs q (List.mem_of_getElem? hq2)⟩
    have hLs:=d_Least N (Jq4 v i m) omg (by rw [Ju7 hb];omega) hat';have hga:Jur v i=((Js9 (Jq4 v i m)).find? (Jq1 (N:Int) (Jq4 v i m))).isSome:=by
     unfold Jur;rw [hq];simp only [h1,if_true,hrm,Int.toNat_natCast,hN]
    rw [hga] at hall;rw [hN] at hg;cases hfd:(Js9 (Jq4 v i m)).find? (Jq1 (N:Int) (Jq4 v i m)) with
    | none =>
     rw [hfd] at hLs hall;simp only [besL] at hLs;(refine lws ?_;simp only [go_sem,simprocAttr,Jqi,c1,c2,hg]);refine Ju2 12 [0,1,2,3,4,5,6] (.node 7 (.node 8 (.node 9 (.node 10 (.node 11 (.node 12 (.node 13 (.node 14 .leaf .nil) .nil) .nil) (.node 12 (.node 11 (.node 13 (.node 14 .leaf .nil) .nil) (.node 13 (.node 11 (.node 14 .leaf .nil) .nil) .nil)) .nil)) (.node 11 (.node 10 (.node 12 (.node 13 (.node 14 .leaf .nil) .nil) .nil) (.node 12 (.node 10 (.node 13 (.node 14 .leaf .nil) .nil) .nil) .nil)) (.node 12 (.node 10 (.node 11 (.node 13 (.node 14 .leaf .nil) .nil) (.node 13 (.node 11 (.node 14 .leaf .nil) .nil) .nil)) (.node 11 (.node 10 (.node 13 (.node 14 .leaf .nil) .nil) .nil) .nil)) .nil))) (.node 12 (.node 9 (.node 10 (.node 11 (.node 13 (.node 14 .leaf .nil) .nil) (.node 13 (.node 11 (.node 14 .leaf .nil) .nil) .nil)) (.node 11 (.node 10 (.node 13 (.node 14 .leaf .nil) .nil) .nil) .nil)) .nil) .nil)) (.node 12 (.node 8 (.node 9 (.node 10 (.node 11 (.node 13 (.node 14 .leaf .nil) .nil) (.node 13 (.node 11 (.node 14 .leaf .nil) .nil) .nil)) (.node 11 (.node 10 (.node 13 (.node 14 .leaf .nil) .nil) .nil) .nil)) .nil) .nil) .nil)) (.node 12 (.node 7 (.node 8 (.node 9 (.node 10 (.node 11 (.node 13 (.node 14 .leaf .nil) .nil) (.node 13 (.node 11 (.node 14 .leaf .nil) .nil) .nil)) (.node 11 (.node 10 (.node 13 (.node 14 .leaf .nil) .nil) .nil) .nil)) .nil) .nil) .nil) .nil)) 8 hm rfl krf krf ?_;simp only [go_sem,simprocAttr,hg];(repeat' (first | (refine And.intro ?_ ?_)|((first | (refine Jqd (hA) ?_)|(refine Jqd (hLs) ?_));simp only [go_sem,simprocAttr]) | fail))
     all_goals (rw [hall];rfl)
    | some x =>
     rw [hfd] at hLs hall;simp only [besL] at hLs;(refine lws ?_;simp only [go_sem,simprocAttr,Jqi,c1,c2,hg]);refine Ju2 12 [0,1,2,3,4,5,6] (.node 7 (.node 8 (.node 9 (.node 10 (.node 11 (.node 12 (.node 13 (.node 14 .leaf .nil) .nil) .nil) (.node 12 (.node 11 (.node 13 (.node 14 .leaf .nil) .nil) (.node 13 (.node 11 (.node 14 .leaf .nil) .nil) .nil)) .nil)) (.node 11 (.node 10 (.node 12 (.node 13 (.node 14 .leaf .nil) .nil) .nil) (.node 12 (.node 10 (.node 13 (.node 14 .leaf .nil) .nil) .nil) .nil)) (.node 12 (.node 10 (.node 11 (.node 13 (.node 14 .leaf .nil) .nil) (.node 13 (.node 11 (.node 14 .leaf .nil) .nil) .nil)) (.node 11 (.node 10 (.node 13 (.node 14 .leaf .nil) .nil) .nil) .nil)) .nil))) (.node 12 (.node 9 (.node 10 (.node 11 (.node 13 (.node 14 .leaf .nil) .nil) (.node 13 (.node 11 (.node 14 .leaf .nil) .nil) .nil)) (.node 11 (.node 10 (.node 13 (.node 14 .leaf .nil) .nil) .nil) .nil)) .nil) .nil)) (.node 12 (.node 8 (.node 9 (.node 10 (.node 11 (.node 13 (.node 14 .leaf .nil) .nil) (.node 13 (.node 11 (.node 14 .leaf .nil) .nil) .nil)) (.node 11 (.node 10 (.node 13 (.node 14 .leaf .nil) .nil) .nil) .nil)) .nil) .nil) .nil)) (.node 12 (.node 7 (.node 8 (.node 9 (.node 10 (.node 11 (.node 13 (.node 14 .leaf .nil) .nil) (.node 13 (.node 11 (.node 14 .leaf .nil) .nil) .nil)) (.node 11 (.node 10 (.node 13 (.node 14 .leaf .nil) .nil) .nil) .nil)) .nil) .nil) .nil) .nil)) 8 hm rfl krf krf ?_;simp only [go_sem,simprocAttr,hg];(repeat' (first | (refine And.intro ?_ ?_)|((first | (refine Jqd (hA) ?_)|(refine Jqd (hLs) ?_));simp only [go_sem,simprocAttr,w1]) | fail))
     all_goals exact ⟨i+1,⟨by omega,by rw [hall,show v.length - (i+1)=k by omega];rfl⟩,by omega,Jqb⟩
   ·have c2:=eq_false h1;rw [show Jur v i=true by unfold Jur;rw [hq];simp only [if_neg h1],Bool.true_and] at hall;(refine lws ?_;simp only [go_sem,simprocAttr,Jqi,c1,c2,hg,w1]);exact ⟨i+1,⟨by omega,by rw [hall,show v.length - (i+1)=k by omega]⟩,by omega,Jqb⟩
def Jvd (r:YRow):Bool:=decide (r.s.length≤100) && (decide (r.name.length≤100) && decide (r.c.s.length≤100))
def Jsx (v:List YRow) (m:Nat):Bool:=decide (v.length≤m) && v.all Jvd
noncomputable def Jzh (v:List YRow) (m:Nat):Bool:=Jsx v m && Jwm v
structure ERow (r:YRow):Prop where
 s:r.s.length≤9223372036854775807
 name:r.name.length≤9223372036854775807
 cs:r.c.s.length≤9223372036854775807
 e0:-9223372036854775808≤r.c.e
 e1:r.c.e≤9223372036854775807
theorem d_Short (v:List YRow) (m:Nat) (hm':m≤1000) (hv:v.length≤9223372036854775807) (hf:∀ n∈v,ERow n):Det cx 121 [.p (.sl (rowL v)),.p (.int .i64 m)] [] (.p (.bool (Jsx v m))) []:=by
 (refine bgo Tryz.func121 ?_;simp only [go_sem,simprocAttr]);refine SWP.loop (fun i:Nat=>⟨Ba 43 [(0,.p (.sl (rowL v))),(1,.p (.int .i64 m)),(5,.p (.int .i64 i))],[]⟩) (fun i=>i≤v.length∧i≤m∧(v.take i).all Jvd=true) (fun i=>v.length - i) 0 Jqb ⟨Nat.zero_le _,Nat.zero_le _,rfl⟩ ?_;rintro i ⟨h1,h2,h3⟩;by_cases hi:¬ i<v.length
 ·have c1:((i:Int)<(v.length:Int))=False:=eq_false omg;rw [List.take_of_length_le omg] at h3;rw [show Jsx v m=true by unfold Jsx;rw [h3,decide_eq_true omg];rfl];(refine lws ?_;simp only [go_sem,simprocAttr,Jqi,c1])
  skip
 ·have hi:=Decidable.not_not.1 hi;have c1:((i:Int)<(v.length:Int))=True:=eq_true omg;obtain ⟨n,hn⟩:∃ n,v[i]? = some n:=⟨_,List.getElem?_eq_getElem hi⟩
  have hg:=Jue hn;have hfn:=hf n (List.mem_of_getElem? hn);obtain ⟨f1,f2,f3,f4,f5⟩:=hfn;have w1:=wj1 (i:=i) omg;have hnot:Jvd n=false→Jsx v m=false:=fun h=>by
   unfold Jsx;rw [Bool.and_eq_false_iff];exact .inr (List.all_eq_false.2 ⟨n,List.mem_of_getElem? hn,by rw [h];simp⟩)
  by_cases him:(m:Int)≤(i:Int)
  ·have c2:=eq_true him;rw [show Jsx v m=false by unfold Jsx;rw [decide_eq_false omg];rfl];(refine lws ?_;simp only [go_sem,simprocAttr,Jqi,c1,c2])
   skip
  ·have c2:=eq_false him;(refine lws ?_;simp only [go_sem,simprocAttr,Jqi,c1,c2,hg,w1]);(repeat' (apply iteI <;> intro h))
   all_goals first
    | (
     refine ⟨i+1,⟨by omega,by omega,?_⟩,by omega,Jqb⟩;rw [List.take_add_one,hn,List.all_append,h3];simp [Jvd];omega)
    | (exact (hnot (by unfold Jvd;simp;omega)).symm)
theorem d_FewT (v:List YRow) (m:Nat) (hm':m≤1000) (hv:v.length≤9223372036854775807) (hf:∀ n∈v,ERow n):Det cx 48 [.p (.sl (rowL v)),.p (.int .i64 m)] [] (.p (.bool (Jzh v m))) []:=by
 have hS:=d_Short v m hm' hv hf;unfold Jzh;cases hs:Jsx v m with
 | false =>
  rw [hs] at hS;rw [Bool.false_and];(refine bgo Tryz.func48 ?_;simp only [go_sem,simprocAttr]);(repeat' (first | ((refine Jqa (hS) ?_);simp only [go_sem,simprocAttr]) | fail))
 | true =>
  rw [hs] at hS;rw [Bool.true_and];have hs':=hs;unfold Jsx at hs';rw [Bool.and_eq_true,decide_eq_true_eq,List.all_eq_true] at hs';have hG:=d_Good v omg (fun n hn=>by
   have:=hs'.2 n hn;simp only [Jvd,Bool.and_eq_true,decide_eq_true_eq] at this;exact ⟨by omega,by omega,⟨by omega,(hf n hn).e0,(hf n hn).e1⟩⟩) (fun n hn=>by
   have:=hs'.2 n hn;simp only [Jvd,Bool.and_eq_true,decide_eq_true_eq] at this;omega)
  (refine bgo Tryz.func48 ?_;simp only [go_sem,simprocAttr]);(repeat' (first | ((first | (refine Jqa (hS) ?_)|(refine Jqa (hG) ?_));simp only [go_sem,simprocAttr]) | fail))
def num1 (c:UInt8):Tree:=.mk 3 [c] false 0 .nil
def Jzt (c d:UInt8):Tree:=.mk 5 [] false 0 (.cons [] (num1 c) (.cons [] (num1 d) .nil))
def sort1:RT:=.mk 7 [46] 0 Jrp (.cons [] (.mk 1 [] 8 Jrp .nil) .nil)
def any1:RT:=.mk 0 [] 0 Jrp .nil
theorem J2u {c:UInt8} (h:c=49∨c=50):okT (num1 c):=by
 unfold num1;rw [okT];refine ⟨?_,⟨by simp,by simp [Forest.list],by simp⟩,by rw [okF];trivial⟩;rcases h with rfl | rfl <;> decide
theorem J3m {c d:UInt8} (hc:c=49∨c=50) (hd:d=49∨d=50):okT (Jzt c d):=by
 unfold Jzt;rw [okT];refine ⟨by simp [G3,Forest.len],⟨by simp [Forest.list],by intro p hp;simp only [Forest.list,List.mem_cons,List.not_mem_nil,or_false] at hp;rcases hp with rfl | rfl <;> rfl,by simp⟩,?_⟩;rw [okF,okF,okF];exact ⟨J2u hc,J2u hd,trivial⟩
theorem J48:Je [46]=([],0,0):=by decide +kernel
theorem J3y:okR sort1:=by
 unfold sort1;rw [Jt9];refine ⟨?_,⟨?_,fun h=>by omega⟩,?_,?_⟩
 ·unfold Jri;rw [if_neg de,if_neg de,if_neg de,if_neg de,if_neg de,if_neg de,if_pos de];refine ⟨rfl,rfl,rfl,?_⟩;unfold fldS;rw [J48];exact ⟨rfl,by simp⟩
 ·intro p hp;simp only [RF.list,List.mem_cons,List.not_mem_nil,or_false] at hp;subst hp;exact ⟨by simp [RT.kind],fun _=>rfl,fun h=>by omega⟩
 ·intro _ p hp;simp only [RF.list,List.head?_cons,Option.some.injEq] at hp;subst hp;rw [J48];exact ⟨_,Jxz _,rfl⟩
 ·rw [Jsp,Jt9];exact ⟨⟨by decide,Ju3 1,fun h=>by omega,Jtb⟩,Jtb⟩
theorem any1_ok:okR any1:=by
 unfold any1;rw [Jt9];exact ⟨by decide,Ju3 0,fun h=>by omega,Jtb⟩
theorem in_1:inTy sort1 (Jzt 49 50)=true:=by decide +kernel
theorem in_2:inTy sort1 (Jzt 50 49)=false:=by decide +kernel
theorem in_3:inTy any1 (num1 49)=true:=by decide +kernel
theorem key_1:keyV [46] (num1 49)=[⟨3,0,[],[49],false,0⟩]:=by decide +kernel
theorem Jsh:Det cx 16 [] [] (.p (.bool true)) []:=by
 have fit:∀ {t:Tree},okT t→(t.enc []).length≤1000000→(∀ n∈t.enc [],n.s.length≤1000∧n.name.length≤1000∧n.e=0)→VFit t:=fun h1 h2 h3 =>
  ⟨h1,fun n hn=>by obtain ⟨a,b,c⟩:=h3 n hn;exact ⟨by omega,by omega,by omega,by omega⟩,h2⟩
 have i1:=d_In 2 sort1 de J3y de (by unfold SFit;decide) de (Jzt 49 50) (fit (J3m (.inl rfl) (.inr rfl)) de de);have i2:=d_In 2 sort1 de J3y de (by unfold SFit;decide) de (Jzt 50 49) (fit (J3m (.inr rfl) (.inl rfl)) de de);have i3:=d_In 1 any1 de any1_ok de (by unfold SFit;decide) de (num1 49) (fit (J2u (.inl rfl)) de de);have k1:=d_Key [46] (num1 49) de de;rw [in_1] at i1;rw [in_2] at i2;rw [in_3] at i3;rw [key_1] at k1;have e1:rowL (sort1.enc [])=[[.int .i64 7,.int .i64 1,.str [],.str [46],.int .i64 0,.int .i64 0,.int .i64 0,.str [],.str [],.bool false,.int .i64 0],[.int .i64 1,.int .i64 0,.str [],.str [],.int .i64 8,.int .i64 0,.int .i64 0,.str [],.str [],.bool false,.int .i64 0]]:=by rfl
 have e2:rowL (any1.enc [])=[[.int .i64 0,.int .i64 0,.str [],.str [],.int .i64 0,.int .i64 0,.int .i64 0,.str [],.str [],.bool false,.int .i64 0]]:=by rfl
 have e3:∀ c d,valL ((Jzt c d).enc [])=[[.int .i64 5,.int .i64 2,.str [],.str [],.bool false,.int .i64 0],[.int .i64 3,.int .i64 0,.str [],.str [c],.bool false,.int .i64 0],[.int .i64 3,.int .i64 0,.str [],.str [d],.bool false,.int .i64 0]]:=fun _ _=>by rfl
 have e4:∀ c,valL ((num1 c).enc [])=[[.int .i64 3,.int .i64 0,.str [],.str [c],.bool false,.int .i64 0]]:=fun _=>by rfl
 have e5:valL [(⟨3,0,[],[49],false,0⟩:Node)]=[[.int .i64 3,.int .i64 0,.str [],.str [49],.bool false,.int .i64 0]]:=by rfl
 rw [e1,e3] at i1 i2;rw [e2,e4] at i3;rw [e4,e5] at k1;(refine bgo Tryz.func16 ?_;simp only [go_sem,simprocAttr]);(repeat' (first | ((first | (refine Jqa (i1) ?_)|(refine Jqa (i2) ?_)|(refine Jqa (i3) ?_)|(refine Jqa (k1) ?_));simp only [go_sem,simprocAttr]) | fail))
structure TyFit (v:List YRow):Prop where
 len:v.length≤140737488355328
 row:∀ n∈v,ERow n
theorem d_given (v:List YRow) (u:List Node) (hv:TyFit v) (hu:ValFit u):Det cx 15 [.p (.sl (rowL v)),.p (.sl (valL u))] [] (.p (.bool (Jzh v 60 && fewB u 60))) []:=by
 have h1:=d_FewT v 60 de (by have:=hv.len;omega) hv.row;have h2:=Ln u 60 de (by have:=hu.len;omega) hu.node;cases b1:Jzh v 60 with
 | false =>
  rw [b1] at h1;rw [Bool.false_and];(refine bgo Tryz.func15 ?_;simp only [go_sem,simprocAttr]);(repeat' (first | ((refine Jqa (h1) ?_);simp only [go_sem,simprocAttr]) | fail))
 | true =>
  rw [b1] at h1;rw [Bool.true_and];(refine bgo Tryz.func15 ?_;simp only [go_sem,simprocAttr]);(repeat' (first | ((first | (refine Jqa (h1) ?_)|(refine Jqa (h2) ?_));simp only [go_sem,simprocAttr]) | fail))
theorem J81 {v:List YRow} (h:Jzh v 60=true):∃ t:RT,okR t∧t.kind≠9∧v=t.enc []∧(t.enc []).length≤60∧SFit t:=by
 unfold Jzh Jwm Jsx at h;simp only [Bool.and_eq_true,decide_eq_true_eq,List.all_eq_true] at h;obtain ⟨⟨h1,h2⟩,h3,_⟩:=h;obtain ⟨t,a,b,rfl⟩:=Jt4.1 h3;refine ⟨t,a,b,rfl,h1,fun r hr=>?_⟩;have:=h2 r hr;simp only [Jvd,Bool.and_eq_true,decide_eq_true_eq] at this;omega
end Go.LX
namespace Go.LX
open Go Go.Proofs Go.RowKit Go.ChangeShapes Go.WideShapes Go.ChangeAt Go.Lib
open Go.Proofs.YtpaiiekgdgjjnaaGreatDoor
theorem cTy:Tryz.prog.cellsOf 31=11:=krf
theorem bTy:0<Tryz.prog.bytesOf 31:=by decide +kernel
def YRow.vals (r:YRow):List Value:=[.int .i64 r.kind,.int .i64 r.many,.string ⟨⟨r.name⟩⟩,.string ⟨⟨r.s⟩⟩,.int .i64 r.n,.int .i64 r.c.kind,.int .i64 r.c.many,.string ⟨⟨r.c.name⟩⟩,.string ⟨⟨r.c.s⟩⟩,.bool r.c.neg,.int .i64 r.c.e]
theorem eachTy {H:Type} {enc:TypeId×Value→H} {w:World} (fuel:Nat) (cs:List Value) (y:DataW H×List MemPlace) (h:DataW.trod enc Tryz.prog w 0 (fun _=>true) true fuel 31 cs=some y) (hz:∀ n∈y.1.weights Tryz.prog 31,n≤reachBytes) :
  ∃ x:YRow,ERow x∧cs=x.vals:=by
 obtain ⟨xs,n,_,rfl,hl,hlen,hf⟩:=DataW.trod_struct Tryz.underlying31 h;rw [cTy] at hl
 match xs,hlen,cs,hl with
 | [y0,y1,y2,y3,y4,y5],_,[a0,a1,a2,a3,a4,a5,a6,a7,a8,a9,a10],_ =>
  have g0:=hf 0 _ rfl;have g1:=hf 1 _ rfl;have g2:=hf 2 _ rfl;have g3:=hf 3 _ rfl;have g4:=hf 4 _ rfl;have g5:=hf 5 _ rfl;simp only [cBool,cStr,cInt,cNode,List.drop_zero,List.drop_succ_cons,List.take_succ_cons,List.take_zero,List.getElem?_cons_zero,List.getElem?_cons_succ] at g0 g1 g2 g3 g4 g5;obtain ⟨x0,e0,rfl,_⟩:=DataW.trod_int Tryz.underlying3 g0;obtain ⟨x1,e1,rfl,_⟩:=DataW.trod_int Tryz.underlying3 g1;obtain ⟨x2,e2,rfl,z2⟩:=DataW.trod_string Tryz.underlying9 g2;obtain ⟨x3,e3,rfl,z3⟩:=DataW.trod_string Tryz.underlying9 g3;obtain ⟨x4,e4,rfl,_⟩:=DataW.trod_int Tryz.underlying3 g4;obtain ⟨c,hc,e5⟩:=Jly _ _ _ g5 (fun n hn=>hz n (by simp [DataW.weights,DataW.weightsEach,Tryz.underlying31,hn]));cases e0;cases e1;cases e2;cases e3;cases e4;cases e5;have hm:maxLen=9223372036854775807:=by decide
  have s2:=T8 x2;have s3:=T8 x3;refine ⟨⟨x0,x1,x2.data.toList,x3.data.toList,x4,c⟩,⟨?_,?_,hc.s,hc.e0,hc.e1⟩,?_⟩
  ·show x3.data.toList.length≤_;omega
  ·show x2.data.toList.length≤_;omega
  ·simp only [YRow.vals,Jc3]
theorem ty_rep (w:World) (Im:Nat→Prop) (x:YRow) (j:Nat) (p:PV) (h:x.cells[j]? = some p):PRep w Im (x.vals.getD j undef) p:=by
 match j,h with
 | 0,h=>cases h;exact PRep.int _ _
 | 1,h=>cases h;exact PRep.int _ _
 | 2,h=>cases h;exact PRep.str _
 | 3,h=>cases h;exact PRep.str _
 | 4,h=>cases h;exact PRep.int _ _
 | 5,h=>cases h;exact PRep.int _ _
 | 6,h=>cases h;exact PRep.int _ _
 | 7,h=>cases h;exact PRep.str _
 | 8,h=>cases h;exact PRep.str _
 | 9,h=>cases h;exact PRep.bool _
 | 10,h=>cases h;exact PRep.int _ _
 | j+11,h=>simp [YRow.cells] at h
theorem cellTy {H:Type} {enc:TypeId×Value→H} {w:World} {b:Nat} {v:Value} (hok:Cell.okWide Tryz.prog w .any b 23 v) {fuel:Nat} {x:DataW H×List MemPlace} (h:DataW.trod enc Tryz.prog w 0 (fun _=>true) true fuel 23 [v]=some x) (hz:∀ n∈x.1.weights Tryz.prog 23,n≤reachBytes) :
  ∃ p:List YRow,TyFit p∧PRep w (Ja w) v (.sl (rowL p)):=by
 obtain ⟨p,h1,h2,h3⟩:=Xx YRow.vals YRow.cells ERow Tryz.underlying23 cTy bTy (fun _=>rfl) (fun _=>rfl) (fun x p hp=>by simp [YRow.cells] at hp;rcases hp with rfl | rfl | rfl | rfl | rfl | rfl | rfl | rfl | rfl | rfl | rfl <;> rfl) (ty_rep w) eachTy hok h hz;exact ⟨p,⟨h1,h2⟩,h3⟩
theorem argTy {H:Type} {enc:TypeId×Value→H} {w:World} {b:Nat} {v:Value} {d:DataW H} {q:List MemPlace} {ts:List TypeId} {ds:List (DataW H)} (hok:Value.okWide Tryz.prog w .any b 23 v) (h:DataW.Trod enc Tryz.prog w 0 (fun _=>true) true 23 v d q)
  (hz:(DataW.weightsEach Tryz.prog ts ds).all (· ≤ reachBytes)=true) {j:Nat} (h1:ts[j]? = some 23) (h2:ds[j]? = some d):∃ p:List YRow,TyFit p∧PRep w (Ja w) v (.sl (rowL p)):=by
 simp only [Value.okWide,Tryz.underlying23] at hok;obtain ⟨fuel,h⟩:=h;rw [Jkh Tryz.underlying23 hok] at h;exact cellTy hok h (J0 hz h1 h2)
theorem membG {W:World} (h:laidMetH Tryz.prog Rows.membTellsRow.laid W):QuoteG W (Ja W):=Jdp h
end Go.LX
namespace Go.LX
open Go Go.RowKit Go.Proofs
attribute [local irreducible] Al SWP Bi
def nameR (nm:List UInt8):List YRow→List YRow
 | []=>[]
 | r :: rs=>⟨r.kind,r.many,nm,r.s,r.n,r.c⟩ :: rs
def J9k (ns:List (List UInt8)) (ls:List (List YRow)) (i:Nat):List YRow:=if i<ns.length then nameR (ns.getD i []) (ls.getD i []) else ls.getD i []
def Jr7 (ns:List (List UInt8)) (ls:List (List YRow)):Nat→List YRow
 | 0=>[]
 | i+1=>Jr7 ns ls i ++ J9k ns ls i
def J7m (y:YRow) (ns:List (List UInt8)) (ls:List (List YRow)):List YRow:=⟨y.kind,ls.length,y.name,y.s,y.n,y.c⟩ :: Jr7 ns ls ls.length
def Jwf (ls:List (List YRow)):List (List PV):=ls.map fun v=>[.sl (rowL v)]
def J9a (ns:List (List UInt8)):List (List PV):=ns.map fun s=>[.str s]
@[simp] theorem Jwj (ls:List (List YRow)):(Jwf ls).length=ls.length:=by simp [Jwf]
@[simp] theorem namesL_len (ns:List (List UInt8)):(J9a ns).length=ns.length:=by simp [J9a]
theorem J6h {ls:List (List YRow)} {i:Nat} {v:List YRow} (h:ls[i]? = some v):(Jwf ls)[i]? = some [.sl (rowL v)]:=by simp [Jwf,h]
theorem d_Made0 (y:YRow) (ls:List (List YRow)) (hl:ls.length≤10000) (hs:∀ i,i≤ls.length→(Jr7 [] ls i).length≤900000) (he:∀ v∈ls,v.length≤900000):Det cx 22 [.p (.agg [.int .i64 y.kind,.int .i64 y.many,.str y.name,.str y.s,.int .i64 y.n,.int .i64 y.c.kind,.int .i64 y.c.many,.str y.c.name,.str y.c.s,.bool y.c.neg,.int .i64 y.c.e]),.p .snil,.p (.sl (Jwf ls))] [] (.p (.sl (rowL (J7m y [] ls)))) []:=by
 generalize hhd:(⟨y.kind,ls.length,y.name,y.s,y.n,y.c⟩:YRow)=hd;have hst:rowL (hd :: Jr7 [] ls 0)=[[.int .i64 y.kind,.int .i64 ls.length,.str y.name,.str y.s,.int .i64 y.n,.int .i64 y.c.kind,.int .i64 y.c.many,.str y.c.name,.str y.c.s,.bool y.c.neg,.int .i64 y.c.e]]:=by rw [← hhd];rfl
 have hst0:(Jr7 [] ls 0).length=0:=rfl;have hmd:J7m y [] ls=hd :: Jr7 [] ls ls.length:=by rw [← hhd];rfl
 rw [hmd];(refine bgo Tryz.func22 ?_;simp only [go_sem,simprocAttr,Jwj]);refine SWP.loop (fun i:Nat=>⟨Ba 56 [(1,.p .snil),(2,.p (.sl (Jwf ls))),(7,.own 15 0 ((Jr7 [] ls i).length+1)),(8,.p (.int .i64 i))],[(15,.row 31 11 (rowL (hd :: Jr7 [] ls i)))]⟩) (fun i=>i≤ls.length) (fun i=>ls.length - i) 0 (by rw [hst,hst0];exact Jqb) (Nat.zero_le _) ?_;rintro i hi;have hln:=hs i hi;have hpl:(rowL (hd :: Jr7 [] ls i)).length=(Jr7 [] ls i).length+1:=by rw [Jqi];rfl
 have hle0:((Jr7 [] ls i).length+1≤(Jr7 [] ls i).length+1)=True:=eq_true (Nat.le_refl _);by_cases hlt:i<ls.length
 ·have c1:((i:Int)<(ls.length:Int))=True:=eq_true omg;obtain ⟨v,hq⟩:∃ v,ls[i]? = some v:=⟨_,List.getElem?_eq_getElem hlt⟩
  have hg:=J6h hq;have hv:=he v (List.mem_of_getElem? hq);have w1:IntKind.i64.wrap ((i:Int)+1)=((i+1:Nat):Int):=by rw [Aa omg omg];omega
  have c0:((i:Int)<0)=False:=eq_false omg;have hstep:Jr7 [] ls (i+1)=Jr7 [] ls i ++ v:=by
   rw [Jr7,J9k,if_neg sm];simp [List.getD_eq_getElem?_getD,hq]
  have e1:rowL (hd :: (Jr7 [] ls i ++ v))=rowL (hd :: Jr7 [] ls i) ++ rowL v:=by rw [← J34];rfl
  have e2:(Jr7 [] ls i ++ v).length+1=(Jr7 [] ls i).length+1+v.length:=by rw [List.length_append];omega
  (refine lws ?_;simp only [go_sem,simprocAttr,Jwj,c1,c0,hg,hpl,w1,Jqi]);(repeat' (first | (refine And.intro (by first | (simp;done)|(simp;omega)|(intro q hq;exact Jun _ q hq)) ?_)|(refine Jqe ?_) | fail));refine ⟨i+1,by omega,by omega,?_⟩;refine (B1 [(29,15)] _ sm).trans ?_;simp only [go_sem,simprocAttr];rw [hstep,e1,e2];exact Jqb
 ·have hil:i=ls.length:=by omega
  subst hil;have c1:((ls.length:Int)<(ls.length:Int))=False:=eq_false omg;have htk:(rowL (hd :: Jr7 [] ls ls.length)).take ((Jr7 [] ls ls.length).length+1)=rowL (hd :: Jr7 [] ls ls.length):=List.take_of_length_le (by rw [hpl];exact Nat.le_refl _);(refine lws ?_;simp only [go_sem,simprocAttr,Jwj,c1,hpl,hle0,htk])
  skip
def rfL:List RKT→RF
 | []=>.nil
 | p :: l=>.cons p.1 p.2 (rfL l)
theorem J0i:∀ l:List RKT,(rfL l).list=l
 | []=>rfl
 | p :: l=>by rw [rfL,RF.list,J0i l]
theorem J2x:∀ l:List RKT,(rfL l).len=l.length
 | []=>rfl
 | p :: l=>by rw [rfL,Jr3,J2x l];rfl
theorem Jvi:∀ l:List RKT,(rfL l).enc=l.flatMap fun p=>p.2.enc p.1
 | []=>Jq2
 | p :: l=>by rw [rfL,Jqg,Jvi l];rfl
theorem nameR_enc (nm:List UInt8) (t:RT):nameR nm (t.enc [])=t.enc nm:=by
 cases t with
 | mk k s n c kids=>rw [Jqo,Jqo];rfl
theorem Jy8 {l:List RKT} (hn:∀ p∈l,p.1=[]):∀ i,i≤l.length→Jr7 [] (l.map fun p=>p.2.enc []) i=(rfL (l.take i)).enc
 | 0,_=>by rw [List.take_zero];exact Jq2.symm
 | i+1,h=>by
  obtain ⟨p,hp⟩:∃ p,l[i]? = some p:=⟨_,List.getElem?_eq_getElem omg⟩
  rw [Jr7,Jy8 hn i omg,Jvi,Jvi,List.take_add_one,hp,List.flatMap_append,J9k,if_neg sm];simp [List.getD_eq_getElem?_getD,hp,hn p (List.mem_of_getElem? hp)]
theorem J9g (k m:Int) (s:List UInt8) (n:Int) (c:Node) {l:List RKT} (hn:∀ p∈l,p.1=[]):J7m ⟨k,m,[],s,n,c⟩ [] (l.map fun p=>p.2.enc [])=(RT.mk k s n c (rfL l)).enc []:=by
 rw [Jqo,J2x,J7m,List.length_map,Jy8 hn l.length (Nat.le_refl _),List.take_length]
theorem J31 (l:List RKT) (i:Nat):(rfL (l.take i)).enc.length≤(rfL l).enc.length:=by
 rw [Jvi,Jvi]
 conv=>rhs;rw [← List.take_append_drop i l,List.flatMap_append,List.length_append]
 omega
def Js1 (ns:List (List UInt8)) (t:RT):List RKT:=ns.map fun nm=>(nm,t)
theorem Jxu (ns:List (List UInt8)) (t:RT):(rfL (Js1 ns t)).enc.length=ns.length * (t.enc []).length:=by
 induction ns with
 | nil=>simp [Js1,rfL,Jq2]
 | cons a ns ih =>
  rw [Js1,List.map_cons,rfL,Jqg,List.length_append,J6v t a];unfold Js1 at ih;rw [ih,List.length_cons,Nat.succ_mul];omega
theorem J9t {ns:List (List UInt8)} {t:RT} (h:okR t):okRF (rfL (Js1 ns t)):=by
 rw [Jug,J0i];intro p hp;obtain ⟨nm,_,rfl⟩:=List.mem_map.1 hp;exact h
theorem J8w {ns:List (List UInt8)} {t:RT} (h:SFit t) (k:Int) (n:Int):SFit (.mk k [] n Jrp (rfL (Js1 ns t))):=by
 intro r hr;rw [Jqo,Jvi] at hr;rcases List.mem_cons.1 hr with rfl | hr
 ·simp
 ·obtain ⟨p,hp,hr⟩:=List.mem_flatMap.1 hr;obtain ⟨nm,_,rfl⟩:=List.mem_map.1 hp;simp only at hr;obtain ⟨k,s,n,c,kids⟩:=t;have h2:=h;unfold SFit at h2;rw [Jqo] at hr h2;rcases List.mem_cons.1 hr with rfl | hr
  ·exact h2 ⟨k,kids.len,[],s,n,c⟩ List.mem_cons_self
  ·exact h2 _ (List.mem_cons_of_mem _ hr)
theorem J06 {t:RT} (ht:okR t) (h9:t.kind≠9) (k:Int) (m:Nat) (hk:(k=4∨((k=3∨k=5∨k=6)∧m=1))):okR (.mk k [] 0 Jrp (rfL (Js1 (List.replicate m []) t))):=by
 rw [Jt9,J0i,J2x];refine ⟨?_,⟨fun p hp=>?_,fun h=>by omega⟩,fun h=>by omega,J9t ht⟩
 ·unfold Jri;rcases hk with rfl | ⟨rfl | rfl | rfl,rfl⟩ <;> simp [Js1]
 ·obtain ⟨nm,hnm,rfl⟩:=List.mem_map.1 hp;have:=List.eq_of_mem_replicate hnm;subst this;exact ⟨⟨fun h=>absurd h h9,fun h=>by omega⟩,fun _=>rfl,fun h=>by omega⟩
theorem tup_all (P:Tree→Bool):∀ l:List KT,tupS (List.replicate l.length P) l=allP P l
 | []=>rfl
 | q :: l=>by
  rw [List.length_cons,List.replicate_succ,tupS,tup_all P l];rfl
theorem J86 (k:Int) (t:RT) (ht:(t.enc []).length≤1000):Det cx 22 [.p (.agg [.int .i64 k,.int .i64 0,.str [],.str [],.int .i64 0,.int .i64 0,.int .i64 0,.str [],.str [],.bool false,.int .i64 0]),.p .snil,.p (.sl [[.sl (rowL (t.enc []))]])] [] (.p (.sl (rowL ((RT.mk k [] 0 Jrp (rfL (Js1 [[]] t))).enc [])))) []:=by
 have h:=d_Made0 ⟨k,0,[],[],0,Jrp⟩ [t.enc []] sm (fun i hi=>by
  have h2:=Jy8 (l:=Js1 [[]] t) (fun p hp=>by simp [Js1] at hp;rw [hp]) i (by simpa [Js1] using hi);have h1:(Js1 [[]] t).map (fun p=>p.2.enc [])=[t.enc []]:=rfl;rw [h1] at h2;rw [h2];have h3:=J31 (Js1 [[]] t) i;rw [Jxu] at h3;simp at h3;omega) (fun v hv=>by simp at hv;subst hv;omega)
 have hm:=J9g k 0 [] 0 Jrp (l:=Js1 [[]] t) (fun p hp=>by simp [Js1] at hp;rw [hp]);have h1:(Js1 [[]] t).map (fun p=>p.2.enc [])=[t.enc []]:=rfl;rw [h1] at hm;rw [hm] at h;exact h
@[simp] theorem typesL_nil:Jwf []=[]:=rfl
structure Ord3 {α:Type} (P:α→Prop) (c:α→α→Int):Prop where
 self:∀ a,P a→c a a=0
 swap:∀ a b,P a→P b→c b a = -c a b
 zero:∀ a b,P a→P b→c a b=0→a=b
 trans:∀ a b d,P a→P b→P d→c a b<0→c b d<0→c a d<0
theorem J7d:Ord3 (fun _:Int=>True) cmpI where
 self a _:=by simp [cmpI]
 swap a b _ _:=J7q a b
 zero a b _ _ h:=(J87 a b).1 h
 trans a b d _ _ _ h1 h2:=by rw [J8y] at *;omega
theorem J7y {a b:List UInt8}:cmpS a b<0 ↔ Op.bytesLess a b=true:=by
 rw [Jvg];by_cases e:a=b
 ·subst e;simp [E0]
 ·rw [if_neg e];by_cases h:Op.bytesLess a b=true
  ·simp [h]
  ·simp [h]
theorem J7c:Ord3 (fun _:List UInt8=>True) cmpS where
 self a _:=Js6 a
 swap a b _ _:=by
  rw [Jvg,Jvg (a:=a)];by_cases e:a=b
  ·subst e;simp
  ·by_cases h:Op.bytesLess a b=true
   ·simp [e,Ne.symm e,h,L3 h]
   ·simp [e,Ne.symm e,h,Qf (by simpa using h) e]
 zero a b _ _ h:=J1z h
 trans a b d _ _ _ h1 h2:=by rw [J7y] at *;exact H8 h1 h2
theorem J7e {α:Type} {P:α→Prop} {c:α→α→Int} (o:Ord3 P c):Ord3 (fun l:List α=>∀ x∈l,P x) (lexI c) where
 self:=by
  intro l hl
  induction l with
  | nil=>rfl
  | cons x l ih=>rw [lexI,if_pos (o.self x (hl x List.mem_cons_self))];exact ih fun y hy=>hl y (List.mem_cons_of_mem _ hy)
 swap:=by
  intro l
  induction l with
  | nil=>intro m _ _;cases m <;> simp [lexI]
  | cons x l ih =>
   intro m hl hm';cases m with
   | nil=>simp [lexI]
   | cons y m =>
    have hs:=o.swap x y (hl x List.mem_cons_self) (hm' y List.mem_cons_self);rw [lexI,lexI];by_cases h:c x y=0
    ·rw [if_pos h,if_pos omg];exact ih m (fun z hz=>hl z (List.mem_cons_of_mem _ hz)) (fun z hz=>hm' z (List.mem_cons_of_mem _ hz))
    ·rw [if_neg h,if_neg omg];exact hs
 zero:=by
  intro l
  induction l with
  | nil =>
   intro m _ _ h;cases m with
   | nil=>rfl
   | cons y m=>simp [lexI] at h
  | cons x l ih =>
   intro m hl hm' h;cases m with
   | nil=>simp [lexI] at h
   | cons y m =>
    rw [lexI] at h;by_cases h0:c x y=0
    ·rw [if_pos h0] at h;rw [o.zero x y (hl x List.mem_cons_self) (hm' y List.mem_cons_self) h0,ih m (fun z hz=>hl z (List.mem_cons_of_mem _ hz)) (fun z hz=>hm' z (List.mem_cons_of_mem _ hz)) h]
    ·rw [if_neg h0] at h;exact absurd h h0
 trans:=by
  intro l
  induction l with
  | nil =>
   intro m n _ _ _ h1 h2;cases n with
   | nil =>
    cases m with
    | nil=>simp [lexI] at h1
    | cons y m=>simp [lexI] at h2
   | cons z n=>simp [lexI]
  | cons x l ih =>
   intro m n hl hm' hn h1 h2;cases m with
   | nil=>simp [lexI] at h1
   | cons y m =>
    cases n with
    | nil=>simp [lexI] at h2
    | cons z n =>
     rw [lexI] at h1 h2 ⊢;have hx:=hl x List.mem_cons_self;have hy:=hm' y List.mem_cons_self;have hz:=hn z List.mem_cons_self;by_cases a:c x y=0
     ·have e:=o.zero x y hx hy a;subst e;rw [if_pos a] at h1;by_cases b:c x z=0
      ·rw [if_pos b] at h2 ⊢;exact ih m n (fun w hw=>hl w (List.mem_cons_of_mem _ hw)) (fun w hw=>hm' w (List.mem_cons_of_mem _ hw)) (fun w hw=>hn w (List.mem_cons_of_mem _ hw)) h1 h2
      ·rw [if_neg b] at h2 ⊢;exact h2
     ·rw [if_neg a] at h1;by_cases b:c y z=0
      ·have e:=o.zero y z hy hz b;subst e;rw [if_neg a];exact h1
      ·rw [if_neg b] at h2;have:=o.trans x y z hx hy hz h1 h2;rw [if_neg omg];exact this
def lexP {α β:Type} (c:α→α→Int) (d:β→β→Int) (x y:α×β):Int:=if c x.1 y.1=0 then d x.2 y.2 else c x.1 y.1
theorem Jwz {α β:Type} {P:α→Prop} {Q:β→Prop} {c:α→α→Int} {d:β→β→Int} (o:Ord3 P c) (q:Ord3 Q d):Ord3 (fun x:α×β=>P x.1∧Q x.2) (lexP c d) where
 self x h:=by rw [lexP,if_pos (o.self _ h.1)];exact q.self _ h.2
 swap x y hx hy:=by
  have hs:=o.swap _ _ hx.1 hy.1;unfold lexP;by_cases h:c x.1 y.1=0
  ·rw [if_pos h,if_pos omg];exact q.swap _ _ hx.2 hy.2
  ·rw [if_neg h,if_neg omg];exact hs
 zero x y hx hy h:=by
  unfold lexP at h;by_cases h0:c x.1 y.1=0
  ·rw [if_pos h0] at h;exact Prod.ext (o.zero _ _ hx.1 hy.1 h0) (q.zero _ _ hx.2 hy.2 h)
  ·rw [if_neg h0] at h;exact absurd h h0
 trans x y z hx hy hz h1 h2:=by
  unfold lexP at *
  by_cases a:c x.1 y.1=0
  ·have e:=o.zero _ _ hx.1 hy.1 a;rw [if_pos a] at h1;rw [e];by_cases b:c y.1 z.1=0
   ·rw [if_pos b] at h2 ⊢;exact q.trans _ _ _ hx.2 hy.2 hz.2 h1 h2
   ·rw [if_neg b] at h2 ⊢;exact h2
  ·rw [if_neg a] at h1;by_cases b:c y.1 z.1=0
   ·have e:=o.zero _ _ hy.1 hz.1 b;rw [← e,if_neg a];exact h1
   ·rw [if_neg b] at h2;have:=o.trans _ _ _ hx.1 hy.1 hz.1 h1 h2;rw [if_neg omg];exact this
theorem ord_pull {α β:Type} {P:α→Prop} {R:β→Prop} {c:α→α→Int} {d:β→β→Int} (f:β→α) (o:Ord3 P c) (hP:∀ x,R x→P (f x)) (hc:∀ x y,R x→R y→d x y=c (f x) (f y)) (hf:∀ x y,R x→R y→f x=f y→x=y):Ord3 R d where
 self x h:=by rw [hc x x h h];exact o.self _ (hP x h)
 swap x y h h':=by rw [hc y x h' h,hc x y h h'];exact o.swap _ _ (hP x h) (hP y h')
 zero x y h h' e:=hf x y h h' (o.zero _ _ (hP x h) (hP y h') (by rw [← hc x y h h'];exact e))
 trans x y z h h' h'' e e':=by
  rw [hc x y h h'] at e;rw [hc y z h' h''] at e';rw [hc x z h h''];exact o.trans _ _ _ (hP x h) (hP y h') (hP z h'') e e'
theorem Jzk {α β:Type} (c:β→β→Int) (g:α→β):∀ l m:List α,lexI (fun p q=>c (g p) (g q)) l m=lexI c (l.map g) (m.map g)
 | [],[]=>rfl
 | [],_ :: _=>rfl
 | _ :: _,[]=>rfl
 | x :: l,y :: m=>by
  rw [lexI,Jzk c g l m];rfl
theorem Jv9:∀ {f g:Forest},f.list.map (·.1)=g.list.map (·.1)→f.list.map (·.2)=g.list.map (·.2)→f=g
 | .nil,.nil,_,_=>rfl
 | .nil,.cons _ _ _,h,_=>by simp [Forest.list] at h
 | .cons _ _ _,.nil,h,_=>by simp [Forest.list] at h
 | .cons a t r,.cons b u q,h1,h2=>by
  simp only [Forest.list,List.map_cons,List.cons.injEq] at h1 h2;obtain ⟨rfl,h1⟩:=h1;obtain ⟨rfl,h2⟩:=h2;rw [Jv9 h1 h2]
theorem Jvu {f:Forest} (h:(f.len:Int)=0):f=.nil:=by
 cases f with
 | nil=>rfl
 | cons a t r=>rw [Forest.len] at h;omega
def embT:Tree→Int×Int×List UInt8×List (List UInt8)×List Tree
 | .mk k s g e kids=>(k,(if k=3 then sv (ndN s g e) else 0),(if k=4 then s else []),(if k=6 then kids.list.map (·.1) else []),if k=5∨k=6 then kids.list.map (·.2) else [])
def cmpE:Int×Int×List UInt8×List (List UInt8)×List Tree→Int×Int×List UInt8×List (List UInt8)×List Tree→Int :=
 lexP cmpI (lexP cmpI (lexP cmpS (lexP (lexI cmpS) (lexI cmpT))))
theorem cmp_emb {t u:Tree} (ht:okT t) (hu:okT u):cmpT t u=cmpE (embT t) (embT u):=by
 obtain ⟨k,s,g,e,kids⟩:=t;obtain ⟨k',s',g',e',kids'⟩:=u;rw [Jrq];unfold cmpE embT lexP;by_cases hk:k=k'
 ·subst hk;have h1:=(Lu.1 ht).1;have h2:=(Lu.1 hu).1;simp only [Jr2,if_true];by_cases h3:k=3
  ·subst h3;rw [J1x (Jsi (Jtc h1 rfl)) (Jsi (Jtc h2 rfl))];simp only [reduceIte,Int.reduceEq,or_self,Js6,lexI];split <;> omega
  ·by_cases h4:k=4
   ·subst h4;simp only [reduceIte,Int.reduceEq,or_self,Jr2,lexI];split <;> omega
   ·by_cases h6:k=6
    ·subst h6;simp only [reduceIte,Int.reduceEq,or_true,Jr2,Js6];rw [Jtp,Jzk cmpT (fun p:KT=>p.2)]
    ·by_cases h5:k=5
     ·subst h5;simp only [reduceIte,Int.reduceEq,true_or,Jr2,Js6,lexI];rw [Jtp,Jzk cmpT (fun p:KT=>p.2)]
     ·simp only [h3,h4,h5,h6,or_self,reduceIte,Jr2,Js6,lexI]
 ·have:¬ cmpI k k'=0:=J23 hk;simp only [hk,this,if_false]
theorem emb_inj {t u:Tree} (ht:okT t) (hu:okT u) (h:embT t=embT u):t=u:=by
 obtain ⟨k,s,g,e,kids⟩:=t;obtain ⟨k',s',g',e',kids'⟩:=u;unfold embT at h;simp only [Prod.mk.injEq] at h;obtain ⟨rfl,a,b,c,d⟩:=h;obtain ⟨h1,q1,_⟩:=Lu.1 ht;obtain ⟨h2,q2,_⟩:=Lu.1 hu;by_cases h3:k=3
 ·subst h3;simp only [if_true] at a;have:=sv_inj (Jsi (Jtc h1 rfl)) (Jsi (Jtc h2 rfl)) a;simp only [ndN,Node.mk.injEq,true_and] at this;obtain ⟨rfl,rfl,rfl⟩:=this;simp [G3] at h1 h2;rw [Jvu (by omega:(kids.len:Int)=0),Jvu (by omega:(kids'.len:Int)=0)]
 ·by_cases h4:k=4
  ·subst h4;simp only [if_true] at b;subst b;simp [G3] at h1 h2;obtain ⟨_,n1,rfl,rfl⟩:=h1;obtain ⟨_,n2,rfl,rfl⟩:=h2;rw [Jvu (by omega:(kids.len:Int)=0),Jvu (by omega:(kids'.len:Int)=0)]
  ·by_cases h6:k=6
   ·subst h6;simp only [if_true,or_true] at c d;simp [G3] at h1 h2;obtain ⟨rfl,rfl,rfl⟩:=h1;obtain ⟨rfl,rfl,rfl⟩:=h2;rw [Jv9 c d]
   ·by_cases h5:k=5
    ·subst h5;simp only [if_true,true_or] at d;simp [G3] at h1 h2;obtain ⟨rfl,rfl,rfl⟩:=h1;obtain ⟨rfl,rfl,rfl⟩:=h2;have n1:∀ {f:Forest},(∀ p∈f.list,p.1=[])→f.list.map (·.1)=List.replicate (f.list.map (·.2)).length []:=fun {f} h=>by
      rw [List.eq_replicate_iff];refine ⟨by simp,fun b hb=>?_⟩;obtain ⟨p,hp,rfl⟩:=List.mem_map.1 hb;exact h p hp
     rw [Jv9 (by rw [n1 (q1.1 rfl),n1 (q2.1 rfl),d]) d]
    ·unfold G3 at h1 h2;by_cases h0:k=0∨k=1∨k=2
     ·rw [if_pos h0] at h1 h2;obtain ⟨n1,rfl,rfl,rfl⟩:=h1;obtain ⟨n2,rfl,rfl,rfl⟩:=h2;rw [Jvu n1,Jvu n2]
     ·rw [if_neg h0,if_neg h3,if_neg h4,if_neg omg] at h1;exact h1.elim
theorem Ju9:∀ n:Nat,Ord3 (fun t:Tree=>okT t∧(t.enc []).length≤n) cmpT
 | 0=>by
  have no:∀ t:Tree,okT t∧(t.enc []).length≤0→False:=fun t h=>by have:=Et t [];omega
  exact ⟨fun a h=>(no a h).elim,fun a _ h=>(no a h).elim,fun a _ h=>(no a h).elim,fun a _ _ h=>(no a h).elim⟩
 | n+1=>by
  refine ord_pull embT (Jwz J7d (Jwz J7d (Jwz J7c (Jwz (J7e J7c) (J7e (Ju9 n)))))) ?_ (fun x y hx hy=>cmp_emb hx.1 hy.1) (fun x y hx hy=>emb_inj hx.1 hy.1);rintro ⟨k,s,g,e,kids⟩ ⟨h1,h2⟩;refine ⟨trivial,trivial,trivial,fun _ _=>trivial,fun x hx=>?_⟩;unfold embT at hx;simp only at hx;split at hx
  ·obtain ⟨p,hp,rfl⟩:=List.mem_map.1 hx;rw [A6,List.length_cons] at h2;exact ⟨Jut h1 hp,by have:=Jd7 hp;omega⟩
  ·cases hx
theorem Jvl {a:Tree} (h:okT a):cmpT a a=0:=(Ju9 (a.enc []).length).self a ⟨h,Nat.le_refl _⟩
theorem Jvh {a b:Tree} (h:okT a) (h':okT b):cmpT b a = -cmpT a b:=(Ju9 (max (a.enc []).length (b.enc []).length)).swap a b ⟨h,Nat.le_max_left _ _⟩ ⟨h',Nat.le_max_right _ _⟩
theorem Juh {a b:Tree} (h:okT a) (h':okT b) (e:cmpT a b=0):a=b:=(Ju9 (max (a.enc []).length (b.enc []).length)).zero a b ⟨h,Nat.le_max_left _ _⟩ ⟨h',Nat.le_max_right _ _⟩ e
theorem Jum {a b c:Tree} (h:okT a) (h':okT b) (h'':okT c) (e:cmpT a b<0) (e':cmpT b c<0):cmpT a c<0 :=
 (Ju9 ((a.enc []).length+(b.enc []).length+(c.enc []).length)).trans a b c ⟨h,by omega⟩ ⟨h',by omega⟩ ⟨h'',by omega⟩ e e'
theorem J1e {a b c:Tree} (h:okT a) (h':okT b) (h'':okT c) (e:cmpT a b≤0) (e':cmpT b c≤0):cmpT a c≤0:=by
 by_cases x:cmpT a b=0
 ·rw [Juh h h' x];exact e'
 ·by_cases y:cmpT b c=0
  ·rw [← Juh h' h'' y];exact e
  ·have:=Jum h h' h'' omg omg;omega
end Go.LX
