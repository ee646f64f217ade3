/- Paths: texts. -/
import Derived.Test.YtmejkfclabmijaaGreatDoorLxS
import Derived.Lib.ItoaLen
import Derived.Lib.AtoiTie
import Derived.Test.YtmejkfclabmijaaGreatDoorLxP
set_option linter.unusedSimpArgs false
set_option linter.unusedVariables false
set_option linter.unusedSectionVars false
set_option linter.unnecessarySimpa false
set_option maxRecDepth 100000
set_option maxHeartbeats 2000000
namespace Go.LX
open Go Go.RowKit Go.Proofs
attribute [local irreducible] Al SWP Bi
theorem B9 (s:List UInt8) (hs:s.length≤1000000000):Det cx 118 [.ptr 1000 0 0,.p (.str s)] [(1000,.var 128 [.p .nptr,.p .snil])] (.tup [.int .i64 s.length,.nifc]) [(900,.row 5 1 (bstr s)),(1000,.var 128 [.ptr 1000 0 0,.own 900 0 s.length])]:=by
 (refine Al.of_code (X:=cx) false [(14,900)] (by simp) Tryz.func118 (by kernel_rfl) rfl (by simp only [List.length_cons,List.length_nil,Tryz.ntmps118];decide) (by simp) ?_;refine Ae hm _ _ _ ?_;simp only [Tryz.ntmps118,Tryz.results118,go_sem,Nat.reduceLT,Nat.reduceLeDiff,Nat.reduceEqDiff,Nat.reduceAdd,Nat.reduceSub,Nat.reduceMul,Nat.reduceBEq,Int.reduceToNat,Int.reduceLT,Int.reduceLE,Int.reduceEq,Int.reduceAdd,Int.reduceSub,Int.reduceNeg,↓reduceIte,reduceCtorEq])
 (repeat' (first | (refine iteI (fun h=>?_) (fun h=>?_))|(refine Ak (by first | omega | (simp (disch:=omega) only [Aa,Ab,Ac] at *;omega)) ?_;intro b hb)|(refine And.intro (by first | omega | (simp (disch:=omega) only [Aa,Ab,Ac] at *;omega)) ?_)|((first | (refine Ah hm (by rfl) (by kernel_rfl) ?_)|(refine Det.use (Cm) ?_)|(refine Det.useQ (Cm) ?_));simp only [go_sem,Nat.reduceLT,Nat.reduceLeDiff,Nat.reduceEqDiff,Nat.reduceAdd,↓reduceIte,reduceCtorEq])|(exact True.intro)|(exfalso;omega)))
 exact ⟨X6 s,by omega,by omega,rfl⟩
def Bv (x:Step):List UInt8:=if x.part=true then 91 :: (Lib.itoa x.n ++ [93]) else if isWd x.name then 46 :: x.name else 46 :: refQ x.name
def Br (p:List Step):List UInt8:=p.flatMap Bv
def Hy (p:List Step):List UInt8:=match p with
 | []=>[46]
 | x :: _=>if x.part=true then 46 :: Br p else Br p
theorem Kx (x:Step):1≤(Bv x).length:=by
 unfold Bv
 split
 ·simp
 ·split <;> simp
theorem Jd4 (s:List UInt8):(refQ s).length≤6 * s.length+2:=by
 have:=Jlg s
 unfold refQ;simp;omega
theorem Jc8 {n:Int} (h0:0≤n) (h1:n≤1000000):(Lib.itoa n).length≤21:=Lib.itoa_length_le n (by omega) (by omega)
theorem X4 {x:Step} (h:Bc x) (hn:x.name.length≤1000):(Bv x).length≤7000:=by
 have h1:=Jd4 x.name
 unfold Bc at h
 unfold Bv
 split
 ·rename_i hp
  rw [if_pos hp] at h
  have:=Jc8 h.2.1 h.2.2
  simp;omega
 ·split <;> simp <;> omega
theorem Rd {p:List Step} (h:∀ x∈p,Bc x) (hn:∀ x∈p,x.name.length≤1000):(Br p).length≤7000 * p.length:=by
 induction p with
 | nil=>simp [Br]
 | cons x p ih =>
  have h1:=ih (fun y hy=>h y (List.mem_cons_of_mem _ hy)) (fun y hy=>hn y (List.mem_cons_of_mem _ hy))
  have h2:=X4 (h x List.mem_cons_self) (hn x List.mem_cons_self)
  unfold Br at *
  rw [List.flatMap_cons,List.length_append,List.length_cons]
  omega
theorem Uf (p q:List Step):Br (p ++ q)=Br p ++ Br q:=by simp [Br]
theorem Jeq (x:Step):Br [x]=Bv x:=by simp [Br]
def tlSt (p:List Step) (i:Nat):List UInt8→St
 | []=>⟨Ba 36 [(0,.p (.sl (Bb p))),(3,.ptr 3 0 0),(6,.p (.sl (Bb p))),(7,.p (.int .i64 p.length)),(8,.p (.int .i64 i))],[(3,.var 128 [.p .nptr,.p .snil])]⟩
 | c :: t=>⟨Ba 36 [(0,.p (.sl (Bb p))),(3,.ptr 3 0 0),(6,.p (.sl (Bb p))),(7,.p (.int .i64 p.length)),(8,.p (.int .i64 i))],[(25,.row 5 1 (bstr (c :: t))),(3,.var 128 [.ptr 3 0 0,.own 25 0 (c :: t).length])]⟩
theorem Fh {p:List Step} {i:Nat} {out:List UInt8} (h:out≠[]):tlSt p i out=⟨Ba 36 [(0,.p (.sl (Bb p))),(3,.ptr 3 0 0),(6,.p (.sl (Bb p))),(7,.p (.int .i64 p.length)),(8,.p (.int .i64 i))],[(25,.row 5 1 (bstr out)),(3,.var 128 [.ptr 3 0 0,.own 25 0 out.length])]⟩:=by
 cases out with
 | nil=>exact absurd rfl h
 | cons c t=>rfl
theorem Kb {p:List Step} {i:Nat}:tlSt p i []=⟨Ba 36 [(0,.p (.sl (Bb p))),(3,.ptr 3 0 0),(6,.p (.sl (Bb p))),(7,.p (.int .i64 p.length)),(8,.p (.int .i64 i))],[(3,.var 128 [.p .nptr,.p .snil])]⟩:=rfl
theorem N4 (p:List Step) (hp:p.length≤100) (hok:∀ x∈p,Bc x) (hn:∀ x∈p,x.name.length≤1000):Det cx 55 [.p (.sl (Bb p))] [] (.p (.str (Br p))) []:=by
 skip
 (refine Al.of_code (X:=cx) false [] (by simp) Tryz.func55 (by kernel_rfl) rfl (by simp only [List.length_cons,List.length_nil,Tryz.ntmps55];decide) (by simp) ?_;refine Ae hm _ _ _ ?_;simp only [Tryz.ntmps55,Tryz.results55,go_sem,Nat.reduceLT,Nat.reduceLeDiff,Nat.reduceEqDiff,Nat.reduceAdd,Nat.reduceSub,Nat.reduceMul,Nat.reduceBEq,Int.reduceToNat,Int.reduceLT,Int.reduceLE,Int.reduceEq,Int.reduceAdd,Int.reduceSub,Int.reduceNeg,↓reduceIte,reduceCtorEq,Aq])
 (repeat' (first | (refine iteI (fun h=>?_) (fun h=>?_))|(refine Ak (by first | omega | (simp (disch:=omega) only [Aa,Ab,Ac] at *;omega)) ?_;intro b hb)|(refine And.intro (by first | omega | (simp (disch:=omega) only [Aa,Ab,Ac] at *;omega)) ?_)|((first | (refine Ah hm (by rfl) (by kernel_rfl) ?_));simp only [go_sem])|(exact True.intro)|(exfalso;omega)))
 refine SWP.loop (fun i:Nat=>tlSt p i (Br (p.take i))) (fun i=>i≤p.length) (fun i=>p.length - i) 0 (by show St.Le _ (tlSt p 0 []);rw [Kb];exact (St.le_slots (by simp only [Ap,Ar,Ao,Aj,Af,Nat.reduceEqDiff,reduceIte,Nat.reduceLT,Nat.reduceLeDiff];simp (disch:=omega) [Af,Ai,Au,Aa] <;> (repeat' apply And.intro) <;> omega) (by simp (disch:=omega) [Az,A3,Aw,Am,Af,Ai,Au,Aa]) (by simp [Ay]))) (Nat.zero_le _) ?_
 rintro i hi
 have hT:=Rd (p:=p.take i) (fun x hx=>hok x (List.mem_of_mem_take hx)) (fun x hx=>hn x (List.mem_of_mem_take hx))
 rw [List.length_take] at hT
 by_cases hlt:¬ i<p.length
 ·have hc:((i:Int)<(p.length:Int))=False:=eq_false (by omega)
  have htl:p.take i=p:=List.take_of_length_le (by omega)
  rw [htl] at hT ⊢
  by_cases hne:Br p=[]
  ·rw [hne,Kb]
   skip
   (refine Ae hm _ _ _ ?_;simp only [go_sem,Nat.reduceLT,Nat.reduceEqDiff,Nat.reduceAdd,↓reduceIte,reduceCtorEq,hc])
   (repeat' (first | (refine iteI (fun h=>?_) (fun h=>?_))|(refine Ak (by first | omega | (simp (disch:=omega) only [Aa,Ab,Ac] at *;omega)) ?_;intro b hb)|(refine And.intro (by first | omega | (simp (disch:=omega) only [Aa,Ab,Ac] at *;omega)) ?_)|((first | (refine Ah hm (by rfl) (by kernel_rfl) ?_)|(refine Det.use (Fa) ?_)|(refine Det.useQ (Fa) ?_));simp only [go_sem,Nat.reduceLT,Nat.reduceLeDiff,Nat.reduceEqDiff,↓reduceIte])|(exact True.intro)|(exfalso;omega)))
  ·have hl0:(Br p).length≠0:=fun h=>hne (List.eq_nil_of_length_eq_zero h)
   rw [Fh hne]
   (refine Ae hm _ _ _ ?_;simp only [go_sem,Nat.reduceLT,Nat.reduceLeDiff,Nat.reduceEqDiff,Nat.reduceAdd,Nat.reduceBEq,↓reduceIte,reduceCtorEq,hc])
   (repeat' (first | (refine iteI (fun h=>?_) (fun h=>?_))|(refine Ak (by first | omega | (simp (disch:=omega) only [Aa,Ab,Ac] at *;omega)) ?_;intro b hb)|(refine And.intro (by first | omega | (simp (disch:=omega) only [Aa,Ab,Ac] at *;omega)) ?_)|((first | (refine Ah hm (by rfl) (by kernel_rfl) ?_)|(refine Det.use (Eo (Br p) _ rfl (by omega) hl0) ?_)|(refine Det.useQ (Eo (Br p) _ rfl (by omega) hl0) ?_));simp only [go_sem,Nat.reduceLT,Nat.reduceLeDiff,Nat.reduceEqDiff,↓reduceIte])|(exact True.intro)|(exfalso;omega)))
 ·have hlt:=Decidable.not_not.1 hlt
  obtain ⟨x,hx⟩:∃ x,p[i]? = some x:=⟨_,List.getElem?_eq_getElem hlt⟩
  have hg:=Dk hx
  have hm':=List.mem_of_getElem? hx
  have hc:((i:Int)<(p.length:Int))=True:=eq_true (by omega)
  have hox:=hok x hm'
  have hnx:=hn x hm'
  have hS:=X4 hox hnx
  have hS1:=Kx x
  have hnext:Br (p.take (i+1))=Br (p.take i) ++ Bv x:=by rw [List.take_add_one,hx,Option.toList_some,Uf,Jeq]
  have hnn:Br (p.take (i+1))≠[]:=fun h=>by rw [hnext] at h;rw [(List.append_eq_nil_iff.1 h).2] at hS1;simp at hS1
  have hrow:bstr (Br (p.take (i+1)))=bstr (Br (p.take i)) ++ bstr (Bv x):=by rw [hnext,Gz]
  have hlen:(Br (p.take (i+1))).length=(Br (p.take i)).length+(Bv x).length:=by rw [hnext,List.length_append]
  have hw:=wi1 (i:=i) (by omega)
  cases hpt:x.part
  ·unfold Bc at hox
   rw [if_neg (by simp [hpt])] at hox
   skip
   by_cases hwd:isWd x.name
   ·have hst:Bv x=46 :: x.name:=by unfold Bv;rw [if_neg (by simp [hpt]),if_pos hwd]
    have hdw:decide (isWd x.name)=true:=decide_eq_true hwd
    skip
    by_cases hne:Br (p.take i)=[]
    ·rw [hne,Kb]
     rw [hne,show bstr []=[] from rfl,List.nil_append] at hrow
     rw [hne,List.length_nil,Nat.zero_add] at hlen
     (refine Ae hm _ _ _ ?_;simp only [go_sem,Nat.reduceLT,Nat.reduceLeDiff,Nat.reduceEqDiff,Nat.reduceAdd,↓reduceIte,reduceCtorEq,hc,hg,hpt])
     (repeat' (first | (refine iteI (fun h=>?_) (fun h=>?_))|(refine Ak (by first | omega | (simp (disch:=omega) only [Aa,Ab,Ac] at *;omega)) ?_;intro b hb)|(refine And.intro (by first | omega | (simp (disch:=omega) only [Aa,Ab,Ac] at *;omega)) ?_)|((first | (refine Ah hm (by rfl) (by kernel_rfl) ?_)|(refine Det.use (Er x.name (by omega)) ?_)|(refine Det.useQ (Er x.name (by omega)) ?_)|(refine Det.use (B9 (46 :: x.name) (by rw [← hst];omega)) ?_)|(refine Det.useQ (B9 (46 :: x.name) (by rw [← hst];omega)) ?_));simp only [go_sem,Nat.reduceLT,Nat.reduceLeDiff,Nat.reduceEqDiff,Nat.reduceAdd,Nat.reduceBEq,↓reduceIte,reduceCtorEq,hw,hdw])|(exact True.intro)|(exfalso;omega)))
     refine ⟨i+1,by omega,by omega,?_⟩
     rw [Fh hnn,hrow,hlen,hst]
     refine St.Le.trans (B1 [(33,25)] _ (by simp)) ?_
     simp only [go_sem,Nat.reduceEqDiff,↓reduceIte]
     exact (St.le_slots (by simp only [Ap,Ar,Ao,Aj,Af,Nat.reduceEqDiff,reduceIte,Nat.reduceLT,Nat.reduceLeDiff];simp (disch:=omega) [Af,Ai,Au,Aa] <;> (repeat' apply And.intro) <;> omega) (by simp (disch:=omega) [Az,A3,Aw,Am,Af,Ai,Au,Aa]) (by simp [Ay]))
    ·rw [Fh hne]
     (refine Ae hm _ _ _ ?_;simp only [go_sem,Nat.reduceLT,Nat.reduceLeDiff,Nat.reduceEqDiff,Nat.reduceAdd,↓reduceIte,reduceCtorEq,hc,hg,hpt])
     (repeat' (first | (refine iteI (fun h=>?_) (fun h=>?_))|(refine Ak (by first | omega | (simp (disch:=omega) only [Aa,Ab,Ac] at *;omega)) ?_;intro b hb)|(refine And.intro (by first | omega | (simp (disch:=omega) only [Aa,Ab,Ac] at *;omega)) ?_)|((first | (refine Ah hm (by rfl) (by kernel_rfl) ?_)|(refine Det.use (Er x.name (by omega)) ?_)|(refine Det.useQ (Er x.name (by omega)) ?_)|(refine Det.use (Bx (46 :: x.name) _ _ (Di _) (by omega) (by rw [← hst];omega)) ?_)|(refine Det.useQ (Bx (46 :: x.name) _ _ (Di _) (by omega) (by rw [← hst];omega)) ?_));simp only [go_sem,Nat.reduceLT,Nat.reduceLeDiff,Nat.reduceEqDiff,Nat.reduceAdd,Nat.reduceBEq,↓reduceIte,reduceCtorEq,hw,hdw])|(exact True.intro)|(exfalso;omega)))
     refine ⟨i+1,by omega,by omega,?_⟩
     rw [Fh hnn,hrow,hlen,hst]
     exact (St.le_slots (by simp only [Ap,Ar,Ao,Aj,Af,Nat.reduceEqDiff,reduceIte,Nat.reduceLT,Nat.reduceLeDiff];simp (disch:=omega) [Af,Ai,Au,Aa] <;> (repeat' apply And.intro) <;> omega) (by simp (disch:=omega) [Az,A3,Aw,Am,Af,Ai,Au,Aa]) (by simp [Ay]))
   ·have hst:Bv x=46 :: refQ x.name:=by unfold Bv;rw [if_neg (by simp [hpt]),if_neg hwd]
    have hdw:decide (isWd x.name)=false:=decide_eq_false hwd
    have hQ:=Jd4 x.name
    by_cases hne:Br (p.take i)=[]
    ·rw [hne,Kb]
     rw [hne,show bstr []=[] from rfl,List.nil_append] at hrow
     rw [hne,List.length_nil,Nat.zero_add] at hlen
     (refine Ae hm _ _ _ ?_;simp only [go_sem,Nat.reduceLT,Nat.reduceLeDiff,Nat.reduceEqDiff,Nat.reduceAdd,↓reduceIte,reduceCtorEq,hc,hg,hpt])
     (repeat' (first | (refine iteI (fun h=>?_) (fun h=>?_))|(refine Ak (by first | omega | (simp (disch:=omega) only [Aa,Ab,Ac] at *;omega)) ?_;intro b hb)|(refine And.intro (by first | omega | (simp (disch:=omega) only [Aa,Ab,Ac] at *;omega)) ?_)|((first | (refine Ah hm (by rfl) (by kernel_rfl) ?_)|(refine Det.use (Er x.name (by omega)) ?_)|(refine Det.useQ (Er x.name (by omega)) ?_)|(refine Det.use (Kt x.name (by omega) hox.2) ?_)|(refine Det.useQ (Kt x.name (by omega) hox.2) ?_)|(refine Det.use (B9 (46 :: refQ x.name) (by rw [← hst];omega)) ?_)|(refine Det.useQ (B9 (46 :: refQ x.name) (by rw [← hst];omega)) ?_));simp only [go_sem,Nat.reduceLT,Nat.reduceLeDiff,Nat.reduceEqDiff,Nat.reduceAdd,Nat.reduceBEq,↓reduceIte,reduceCtorEq,hw,hdw])|(exact True.intro)|(exfalso;omega)))
     refine ⟨i+1,by omega,by omega,?_⟩
     rw [Fh hnn,hrow,hlen,hst]
     refine St.Le.trans (B1 [(16,25)] _ (by simp)) ?_
     simp only [go_sem,Nat.reduceEqDiff,↓reduceIte]
     exact (St.le_slots (by simp only [Ap,Ar,Ao,Aj,Af,Nat.reduceEqDiff,reduceIte,Nat.reduceLT,Nat.reduceLeDiff];simp (disch:=omega) [Af,Ai,Au,Aa] <;> (repeat' apply And.intro) <;> omega) (by simp (disch:=omega) [Az,A3,Aw,Am,Af,Ai,Au,Aa]) (by simp [Ay]))
    ·rw [Fh hne]
     (refine Ae hm _ _ _ ?_;simp only [go_sem,Nat.reduceLT,Nat.reduceLeDiff,Nat.reduceEqDiff,Nat.reduceAdd,↓reduceIte,reduceCtorEq,hc,hg,hpt])
     (repeat' (first | (refine iteI (fun h=>?_) (fun h=>?_))|(refine Ak (by first | omega | (simp (disch:=omega) only [Aa,Ab,Ac] at *;omega)) ?_;intro b hb)|(refine And.intro (by first | omega | (simp (disch:=omega) only [Aa,Ab,Ac] at *;omega)) ?_)|((first | (refine Ah hm (by rfl) (by kernel_rfl) ?_)|(refine Det.use (Er x.name (by omega)) ?_)|(refine Det.useQ (Er x.name (by omega)) ?_)|(refine Det.use (Kt x.name (by omega) hox.2) ?_)|(refine Det.useQ (Kt x.name (by omega) hox.2) ?_)|(refine Det.use (Bx (46 :: refQ x.name) _ _ (Di _) (by omega) (by rw [← hst];omega)) ?_)|(refine Det.useQ (Bx (46 :: refQ x.name) _ _ (Di _) (by omega) (by rw [← hst];omega)) ?_));simp only [go_sem,Nat.reduceLT,Nat.reduceLeDiff,Nat.reduceEqDiff,Nat.reduceAdd,Nat.reduceBEq,↓reduceIte,reduceCtorEq,hw,hdw])|(exact True.intro)|(exfalso;omega)))
     refine ⟨i+1,by omega,by omega,?_⟩
     rw [Fh hnn,hrow,hlen,hst]
     exact (St.le_slots (by simp only [Ap,Ar,Ao,Aj,Af,Nat.reduceEqDiff,reduceIte,Nat.reduceLT,Nat.reduceLeDiff];simp (disch:=omega) [Af,Ai,Au,Aa] <;> (repeat' apply And.intro) <;> omega) (by simp (disch:=omega) [Az,A3,Aw,Am,Af,Ai,Au,Aa]) (by simp [Ay]))
  ·have hst:Bv x=91 :: (Lib.itoa x.n ++ [93]):=by unfold Bv;rw [if_pos hpt]
   have hb:0≤x.n∧x.n≤1000000:=by unfold Bc at hox;rw [if_pos hpt] at hox;exact hox.2
   have hdw:=Jc8 hb.1 hb.2
   by_cases hne:Br (p.take i)=[]
   ·rw [hne,Kb]
    rw [hne,show bstr []=[] from rfl,List.nil_append] at hrow
    rw [hne,List.length_nil,Nat.zero_add] at hlen
    (refine Ae hm _ _ _ ?_;simp only [go_sem,Nat.reduceLT,Nat.reduceLeDiff,Nat.reduceEqDiff,Nat.reduceAdd,↓reduceIte,reduceCtorEq,hc,hg,hpt])
    (repeat' (first | (refine iteI (fun h=>?_) (fun h=>?_))|(refine Ak (by first | omega | (simp (disch:=omega) only [Aa,Ab,Ac] at *;omega)) ?_;intro b hb)|(refine And.intro (by first | omega | (simp (disch:=omega) only [Aa,Ab,Ac] at *;omega)) ?_)|((first | (refine Ah hm (by rfl) (by kernel_rfl) ?_)|(refine Det.use (N0 x.n (by omega) (by omega)) ?_)|(refine Det.useQ (N0 x.n (by omega) (by omega)) ?_)|(refine Det.use (B9 (91 :: (Lib.itoa x.n ++ [93])) (by rw [← hst];omega)) ?_)|(refine Det.useQ (B9 (91 :: (Lib.itoa x.n ++ [93])) (by rw [← hst];omega)) ?_));simp only [go_sem,Nat.reduceLT,Nat.reduceLeDiff,Nat.reduceEqDiff,Nat.reduceAdd,Nat.reduceBEq,↓reduceIte,reduceCtorEq,hw])|(exact True.intro)|(exfalso;omega)))
    refine ⟨i+1,by omega,by omega,?_⟩
    rw [Fh hnn,hrow,hlen,hst]
    exact (St.le_slots (by simp only [Ap,Ar,Ao,Aj,Af,Nat.reduceEqDiff,reduceIte,Nat.reduceLT,Nat.reduceLeDiff];simp (disch:=omega) [Af,Ai,Au,Aa] <;> (repeat' apply And.intro) <;> omega) (by simp (disch:=omega) [Az,A3,Aw,Am,Af,Ai,Au,Aa]) (by simp [Ay]))
   ·rw [Fh hne]
    (refine Ae hm _ _ _ ?_;simp only [go_sem,Nat.reduceLT,Nat.reduceLeDiff,Nat.reduceEqDiff,Nat.reduceAdd,↓reduceIte,reduceCtorEq,hc,hg,hpt])
    (repeat' (first | (refine iteI (fun h=>?_) (fun h=>?_))|(refine Ak (by first | omega | (simp (disch:=omega) only [Aa,Ab,Ac] at *;omega)) ?_;intro b hb)|(refine And.intro (by first | omega | (simp (disch:=omega) only [Aa,Ab,Ac] at *;omega)) ?_)|((first | (refine Ah hm (by rfl) (by kernel_rfl) ?_)|(refine Det.use (N0 x.n (by omega) (by omega)) ?_)|(refine Det.useQ (N0 x.n (by omega) (by omega)) ?_)|(refine Det.use (Bx (91 :: (Lib.itoa x.n ++ [93])) _ _ (Di _) (by omega) (by rw [← hst];omega)) ?_)|(refine Det.useQ (Bx (91 :: (Lib.itoa x.n ++ [93])) _ _ (Di _) (by omega) (by rw [← hst];omega)) ?_));simp only [go_sem,Nat.reduceLT,Nat.reduceLeDiff,Nat.reduceEqDiff,Nat.reduceAdd,Nat.reduceBEq,↓reduceIte,reduceCtorEq,hw])|(exact True.intro)|(exfalso;omega)))
    refine ⟨i+1,by omega,by omega,?_⟩
    rw [Fh hnn,hrow,hlen,hst]
    exact (St.le_slots (by simp only [Ap,Ar,Ao,Aj,Af,Nat.reduceEqDiff,reduceIte,Nat.reduceLT,Nat.reduceLeDiff];simp (disch:=omega) [Af,Ai,Au,Aa] <;> (repeat' apply And.intro) <;> omega) (by simp (disch:=omega) [Az,A3,Aw,Am,Af,Ai,Au,Aa]) (by simp [Ay]))
end Go.LX
set_option maxRecDepth 100000
set_option maxHeartbeats 2000000
namespace Go.LX
open Go Go.RowKit Go.Proofs
attribute [local irreducible] Al SWP Bi
theorem Ui (p:List Step) (hp:p.length≤100) (hok:∀ x∈p,Bc x) (hn:∀ x∈p,x.name.length≤1000):Det cx 21 [.p (.sl (Bb p))] [] (.p (.str (Hy p))) []:=by
 have hT:=Rd hok hn
 cases p with
 | nil =>
  (refine Al.of_code (X:=cx) false [] (by simp) Tryz.func21 (by kernel_rfl) rfl (by simp only [List.length_cons,List.length_nil,Tryz.ntmps21];decide) (by simp) ?_;refine Ae hm _ _ _ ?_;simp only [Tryz.ntmps21,Tryz.results21,go_sem,Nat.reduceLT,Nat.reduceLeDiff,Nat.reduceEqDiff,Nat.reduceAdd,Nat.reduceSub,Nat.reduceMul,Nat.reduceBEq,Int.reduceToNat,Int.reduceLT,Int.reduceLE,Int.reduceEq,Int.reduceAdd,Int.reduceSub,Int.reduceNeg,↓reduceIte,reduceCtorEq])
  (repeat' (first | (refine iteI (fun h=>?_) (fun h=>?_))|(refine Ak (by first | omega | (simp (disch:=omega) only [Aa,Ab,Ac] at *;omega)) ?_;intro b hb)|(refine And.intro (by first | omega | (simp (disch:=omega) only [Aa,Ab,Ac] at *;omega)) ?_)|((first | (refine Ah hm (by rfl) (by kernel_rfl) ?_)|(refine Det.use (N4 [] hp hok hn) ?_)|(refine Det.useQ (N4 [] hp hok hn) ?_));simp only [go_sem,Nat.reduceLT,↓reduceIte])|(exact True.intro)|(exfalso;omega)))
  ·rfl
  ·exact absurd rfl (by assumption)
 | cons x p =>
  have hg:(Bb (x :: p))[0]? = some [.bool x.part,.str x.name,.int .i64 x.n]:=rfl
  rw [List.length_cons] at hT
  unfold Hy
  cases hpt:x.part
  ·skip
   (refine Al.of_code (X:=cx) false [] (by simp) Tryz.func21 (by kernel_rfl) rfl (by simp only [List.length_cons,List.length_nil,Tryz.ntmps21];decide) (by simp) ?_;refine Ae hm _ _ _ ?_;simp only [Tryz.ntmps21,Tryz.results21,go_sem,Nat.reduceLT,Nat.reduceLeDiff,Nat.reduceEqDiff,Nat.reduceAdd,Nat.reduceSub,Nat.reduceMul,Nat.reduceBEq,Int.reduceToNat,Int.reduceLT,Int.reduceLE,Int.reduceEq,Int.reduceAdd,Int.reduceSub,Int.reduceNeg,↓reduceIte,reduceCtorEq,Aq,hg,hpt])
   (repeat' (first | (refine iteI (fun h=>?_) (fun h=>?_))|(refine Ak (by first | omega | (simp (disch:=omega) only [Aa,Ab,Ac] at *;omega)) ?_;intro b hb)|(refine And.intro (by first | omega | (simp (disch:=omega) only [Aa,Ab,Ac] at *;omega)) ?_)|((first | (refine Ah hm (by rfl) (by kernel_rfl) ?_)|(refine Det.use (N4 (x :: p) hp hok hn) ?_)|(refine Det.useQ (N4 (x :: p) hp hok hn) ?_));simp only [go_sem,Nat.reduceLT,↓reduceIte])|(exact True.intro)|(exfalso;omega)))
  ·(refine Al.of_code (X:=cx) false [] (by simp) Tryz.func21 (by kernel_rfl) rfl (by simp only [List.length_cons,List.length_nil,Tryz.ntmps21];decide) (by simp) ?_;refine Ae hm _ _ _ ?_;simp only [Tryz.ntmps21,Tryz.results21,go_sem,Nat.reduceLT,Nat.reduceLeDiff,Nat.reduceEqDiff,Nat.reduceAdd,Nat.reduceSub,Nat.reduceMul,Nat.reduceBEq,Int.reduceToNat,Int.reduceLT,Int.reduceLE,Int.reduceEq,Int.reduceAdd,Int.reduceSub,Int.reduceNeg,↓reduceIte,reduceCtorEq,Aq,hg,hpt])
   (repeat' (first | (refine iteI (fun h=>?_) (fun h=>?_))|(refine Ak (by first | omega | (simp (disch:=omega) only [Aa,Ab,Ac] at *;omega)) ?_;intro b hb)|(refine And.intro (by first | omega | (simp (disch:=omega) only [Aa,Ab,Ac] at *;omega)) ?_)|((first | (refine Ah hm (by rfl) (by kernel_rfl) ?_)|(refine Det.use (N4 (x :: p) hp hok hn) ?_)|(refine Det.useQ (N4 (x :: p) hp hok hn) ?_));simp only [go_sem,Nat.reduceLT,↓reduceIte])|(exact True.intro)|(exfalso;omega)))
   rw [List.length_cons] at hp
   omega
def textR (p:List Step):List UInt8:=match p with
 | []=>[]
 | x :: _=>if x.part=true then 46 :: Br p else Br p
end Go.LX
set_option maxRecDepth 100000
set_option maxHeartbeats 2000000
namespace Go.LX
open Go Go.RowKit Go.Proofs
attribute [local irreducible] Al SWP Bi
def isDg (c:Nat):Prop:=48≤c∧c≤57
instance (c:Nat):Decidable (isDg c):=inferInstanceAs (Decidable (_∧_))
def dgR:Nat→List UInt8→List UInt8
 | k+1,c :: r=>if isDg c.toNat then c :: dgR k r else []
 | _,_=>[]
def valD (l:List UInt8):Nat:=l.foldl (fun a c=>a * 10+(c.toNat - 48)) 0
theorem Zl (l:List UInt8) (c:UInt8):valD (l ++ [c])=valD l * 10+(c.toNat - 48):=by simp [valD]
theorem Jc6:∀ (k:Nat) (l:List UInt8),∀ c∈dgR k l,isDg c.toNat
 | 0,l=>by simp [dgR]
 | k+1,[]=>by simp [dgR]
 | k+1,c :: r=>by
  intro d hd
  rw [dgR] at hd
  split at hd
  ·rcases List.mem_cons.1 hd with rfl | hd
   ·assumption
   ·exact Jc6 k r d hd
  ·cases hd
theorem Jd2:∀ (k:Nat) (l:List UInt8),(dgR k l).length≤k∧(dgR k l).length≤l.length
 | 0,l=>by simp [dgR]
 | k+1,[]=>by simp [dgR]
 | k+1,c :: r=>by
  rw [dgR]
  split
  ·have:=Jd2 k r
   simp;omega
  ·simp
theorem Jdy:∀ (k:Nat) (l:List UInt8),dgR k l=l.take (dgR k l).length
 | 0,l=>by simp [dgR]
 | k+1,[]=>by simp [dgR]
 | k+1,c :: r=>by
  rw [dgR]
  split
  ·rw [List.length_cons,List.take_succ_cons,← Jdy k r]
  ·simp
end Go.LX
set_option maxRecDepth 100000
set_option maxHeartbeats 2000000
namespace Go.LX
open Go Go.RowKit Go.Proofs
attribute [local irreducible] Al SWP Bi
theorem Fv (m:Nat):Lib.decDigits m=if m<10 then [UInt8.ofNat (48+m)] else Lib.decDigits (m / 10) ++ [UInt8.ofNat (48+m % 10)]:=by
 rw [Lib.decDigits]
 split <;> rfl
theorem Qj {m:Nat} (h:m<10):(UInt8.ofNat (48+m)).toNat=48+m:=by
 rw [UInt8.toNat_ofNat'];omega
theorem Jmj:∀ m:Nat,∀ c∈Lib.decDigits m,isDg c.toNat:=by
 intro m
 induction m using Nat.strongRecOn with
 | _ m ih =>
  intro c hc
  rw [Fv] at hc
  split at hc
  ·rw [List.mem_singleton] at hc;subst hc
   rw [Qj (by assumption)];unfold isDg;omega
  ·rcases List.mem_append.1 hc with hc | hc
   ·exact ih (m / 10) (by omega) c hc
   ·rw [List.mem_singleton] at hc;subst hc
    rw [Qj (by omega)];unfold isDg;omega
theorem Xc:∀ m:Nat,valD (Lib.decDigits m)=m:=by
 intro m
 induction m using Nat.strongRecOn with
 | _ m ih =>
  rw [Fv]
  split
  ·show 0 * 10+((UInt8.ofNat (48+m)).toNat - 48)=m
   rw [Qj (by assumption)];omega
  ·rw [Zl,ih (m / 10) (by omega),Qj (by omega)];omega
theorem U6 (m:Nat):Lib.decDigits m≠[]:=by
 rw [Fv];split <;> simp
theorem Jg0:∀ m:Nat,∀ c r,Lib.decDigits m=c :: r→c.toNat=48→r=[]∧m=0:=by
 intro m
 induction m using Nat.strongRecOn with
 | _ m ih =>
  intro c r h hc
  rw [Fv] at h
  split at h
  ·cases h
   rw [Qj (by assumption)] at hc
   exact ⟨rfl,by omega⟩
  ·cases hd:Lib.decDigits (m / 10) with
   | nil=>exact absurd hd (U6 _)
   | cons d q =>
    rw [hd] at h
    cases h
    have:=(ih (m / 10) (by omega) _ _ hd hc).2
    omega
theorem Sa:∀ (n:Nat) (t:List UInt8),t.length=n+1→(∀ c∈t,isDg c.toNat)→(n=0∨at_ t 0≠48)→Lib.decDigits (valD t)=t∧(at_ t 0≠48→0<valD t)
 | 0,t,hl,hd,_=>by
  match t,hl with
  | [c],_ =>
   have hc:=hd c (by simp)
   unfold isDg at hc
   have e:valD [c]=c.toNat - 48:=by show 0 * 10+(c.toNat - 48)=_;omega
   rw [e,Fv,if_pos (by omega)]
   refine ⟨?_,fun h=>?_⟩
   ·congr 1
    apply UInt8.toNat_inj.1
    rw [Qj (by omega)];omega
   ·have:at_ [c] 0=c.toNat:=rfl
    omega
 | n+1,t,hl,hd,h0=>by
  have hne:t≠[]:=fun e=>by subst e;simp at hl
  have ht:=List.dropLast_concat_getLast hne
  have hdl:t.dropLast.length=n+1:=by rw [List.length_dropLast];omega
  have ha0:at_ t.dropLast 0=at_ t 0:=by
   rw [← ht]
   have:0<t.dropLast.length:=by omega
   simp only [at_,List.getD_eq_getElem?_getD,List.dropLast_concat]
   rw [List.getElem?_append_left this]
  have h1:=Sa n t.dropLast hdl (fun c hc=>hd c (List.dropLast_subset _ hc)) (.inr (by rw [ha0];omega))
  rw [ha0] at h1
  have h2:=h1.2 (by omega)
  have h3:=hd _ (List.getLast_mem hne)
  unfold isDg at h3
  have hv:valD t=valD t.dropLast * 10+((t.getLast hne).toNat - 48):=by
   conv=>lhs;rw [← ht]
   rw [Zl]
  refine ⟨?_,fun _=>by omega⟩
  rw [Fv,if_neg (by omega)]
  have e1:valD t / 10=valD t.dropLast:=by omega
  have e2:UInt8.ofNat (48+valD t % 10)=t.getLast hne:=by
   apply UInt8.toNat_inj.1
   rw [Qj (by omega)];omega
  rw [e1,e2,h1.1,ht]
theorem Pj:∀ (l:List UInt8) (a:Nat),(∀ c∈l,isDg c.toNat)→Lib.decFrom a l=some (l.foldl (fun a c=>a * 10+(c.toNat - 48)) a)
 | [],a,_=>rfl
 | c :: r,a,h=>by
  have hc:=h c List.mem_cons_self
  unfold isDg at hc
  rw [Lib.decFrom,Lib.digitVal,if_pos hc]
  exact Pj r _ fun d hd=>h d (List.mem_cons_of_mem _ hd)
theorem Jbw {t:List UInt8} (hne:t≠[]) (hl:t.length≤7) (hd:∀ c∈t,isDg c.toNat):Lib.atoiAll t=.ok (valD t:Int):=by
 rw [Lib.atoiAll_short t (by omega)]
 cases t with
 | nil=>exact absurd rfl hne
 | cons c r =>
  have hc:=hd c List.mem_cons_self
  unfold isDg at hc
  have h45:¬ (c == 45)=true:=fun h=>by have:=beq_iff_eq.1 h;subst this;simp at hc
  have h43:¬ (c == 43)=true:=fun h=>by have:=beq_iff_eq.1 h;subst this;simp at hc
  rw [Lib.atoi,if_neg h45,if_neg h43,Lib.decNat,if_neg (by simp),Pj _ _ hd]
  rfl
theorem Jkf:∀ (T rest:List UInt8) (k:Nat),(∀ c∈T,isDg c.toNat)→T.length≤k→(∀ c q,rest=c :: q→¬ isDg c.toNat)→dgR k (T ++ rest)=T
 | [],rest,k,_,_,h=>by
  cases k with
  | zero=>rfl
  | succ k=>cases rest with
   | nil=>rfl
   | cons c q=>rw [List.nil_append,dgR,if_neg (h c q rfl)]
 | c :: T,rest,k,hd,hl,h=>by
  cases k with
  | zero=>simp at hl
  | succ k =>
   rw [List.cons_append,dgR,if_pos (hd c List.mem_cons_self),Jkf T rest k (fun d hm=>hd d (List.mem_cons_of_mem _ hm)) (by simp at hl;omega) h]
theorem eI_of {u:List UInt8} {e:Nat} (h:u[e]? = some 93) (hb:∀ j,j<e→u[j]? ≠ some 93):eI u=e:=by
 have hge:=Lib.indexByte_ge u ((93:Int).toNat.toUInt8)
 have hc:(93:Int).toNat.toUInt8=93:=rfl
 by_cases hlt:eI u<0
 ·have:Lib.indexByte u ((93:Int).toNat.toUInt8) = -1:=by unfold eI at hlt;omega
  exact absurd h (Lib.indexByte_none this e)
 ·obtain ⟨o,ho⟩:∃ o:Nat,eI u=o:=⟨(eI u).toNat,by omega⟩
  obtain ⟨h1,h2⟩:=Lib.indexByte_some (show Lib.indexByte u ((93:Int).toNat.toUInt8)=o from ho)
  rw [hc] at h1 h2
  rw [ho]
  rcases Nat.lt_trichotomy o e with hl | hl | hl
  ·exact absurd h1 (hb o hl)
  ·omega
  ·exact absurd h (h2 e hl)
theorem Jle {r:List UInt8} (h0:dgR 7 r≠[]) (h1:¬ (at_ r 0=48∧1<(dgR 7 r).length)) (h2:valD (dgR 7 r)≤1000000) (h3:r[(dgR 7 r).length]? = some 93) :
  Ce (91 :: r)=(⟨true,[],(valD (dgR 7 r):Nat)⟩,(dgR 7 r).length+2):=by
 have hl:=Jd2 7 r
 have hp:=Jdy 7 r
 have hall:=Jc6 7 r
 generalize dgR 7 r=t at *
 have hlt:0<t.length:=List.length_pos_iff.2 h0
 have he:eI (91 :: r)=((t.length+1:Nat):Int):=by
  refine eI_of (by simpa using h3) fun j hj hjs=>?_
  cases j with
  | zero=>simp at hjs
  | succ j =>
   rw [List.getElem?_cons_succ] at hjs
   have hjt:t[j]? = some 93:=by rw [hp,List.getElem?_take_of_lt (by omega)];exact hjs
   have:=hall 93 (List.mem_of_getElem? hjt)
   unfold isDg at this
   simp at this
 have hT:pT (91 :: r)=t:=by
  unfold pT;rw [he,List.drop_succ_cons,List.drop_zero]
  rw [show ((t.length+1:Nat):Int).toNat - 1=t.length by omega]
  exact hp.symm
 have ha0:at_ t 0=at_ r 0:=by
  rw [hp];simp only [at_,List.getD_eq_getElem?_getD]
  rw [List.getElem?_take_of_lt (by omega)]
 have hcan:=Sa (t.length - 1) t (by omega) hall (by rw [ha0];omega)
 unfold Ce
 rw [if_pos ⟨rfl,by omega,by omega⟩,hT,Jbw h0 hl.1 hall]
 simp only
 rw [if_pos ⟨by omega,by omega,by rw [Lib.itoa_nonneg,hcan.1]⟩,he]
 rfl
end Go.LX
set_option maxRecDepth 100000
set_option maxHeartbeats 2000000
namespace Go.LX
open Go Go.RowKit Go.Proofs
attribute [local irreducible] Al SWP Bi
def H3 (s:List UInt8) (j:Nat):Prop:=letP (at_ s j)∨(0<j∧figP (at_ s j))
instance (s:List UInt8) (j:Nat):Decidable (H3 s j):=inferInstanceAs (Decidable (_∨_))
theorem Wt (s:List UInt8):∀ f i,i≤s.length→s.length+1≤i+f→(∀ j,i≤j→j<wF s f i→H3 s j)∧(wF s f i<s.length→¬ H3 s (wF s f i))
 | 0,i,h,h2=>by omega
 | f+1,i,h,h2=>by
  rw [wF]
  split
  ·rename_i hc
   obtain ⟨g1,g2⟩:=Wt s f (i+1) (by omega) (by omega)
   refine ⟨fun j h3 h4=>?_,g2⟩
   by_cases hj:j=i
   ·subst hj;exact hc.2
   ·exact g1 j (by omega) h4
  ·rename_i hc
   exact ⟨fun j h3 h4=>by omega,fun hl hg=>hc ⟨hl,hg⟩⟩
theorem Sh {s:List UInt8} {j:Nat} (h:j<Dm s):H3 s j:=(Wt s (s.length+1) 0 (Nat.zero_le _) (by omega)).1 j (Nat.zero_le _) h
theorem Jam {s:List UInt8} (h:Dm s<s.length):¬ H3 s (Dm s):=(Wt s (s.length+1) 0 (Nat.zero_le _) (by omega)).2 h
end Go.LX
set_option maxRecDepth 100000
set_option maxHeartbeats 2000000
namespace Go.LX
open Go Go.RowKit Go.Proofs
attribute [local irreducible] Al SWP Bi
end Go.LX
set_option maxRecDepth 100000
set_option maxHeartbeats 2000000
namespace Go.LX
open Go Go.RowKit Go.Proofs
attribute [local irreducible] Al SWP Bi
def F8 (x y:Step):Prop:=x.part=y.part∧x.name=y.name∧x.n=y.n
instance (x y:Step):Decidable (F8 x y):=inferInstanceAs (Decidable (_∧_))
theorem Dc {x y:Step}:F8 x y ↔ x=y:=by
 unfold F8
 constructor
 ·rintro ⟨h1,h2,h3⟩
  cases x;cases y
  simp_all
 ·rintro rfl;exact ⟨rfl,rfl,rfl⟩
theorem Pw {x y:Step}:(x.part == y.part && (x.name == y.name && x.n == y.n))=decide (F8 x y):=by
 rw [Bool.eq_iff_iff,decide_eq_true_eq];simp [F8]
def B7:List Step→List Step→Bool
 | x :: p,y :: q=>!decide (F8 x y) || B7 p q
 | _,_=>false
theorem Jb0 (p:List Step):B7 p []=false:=by cases p <;> rfl
theorem Jch (p q:List Step) (hp:p.length≤1000000) (hq:q.length≤1000000) (hn:∀ x∈p,x.name.length≤1000000) (hnq:∀ x∈q,x.name.length≤1000000):Det cx 30 [.p (.sl (Bb p)),.p (.sl (Bb q))] [] (.p (.bool (B7 p q))) []:=by
 skip
 (refine Al.of_code (X:=cx) false [] (by simp) Tryz.func30 (by kernel_rfl) rfl (by simp only [List.length_cons,List.length_nil,Tryz.ntmps30];decide) (by simp) ?_;refine Ae hm _ _ _ ?_;simp only [Tryz.ntmps30,Tryz.results30,go_sem,Nat.reduceLT,Nat.reduceLeDiff,Nat.reduceEqDiff,Nat.reduceAdd,Nat.reduceSub,Nat.reduceMul,Nat.reduceBEq,Int.reduceToNat,Int.reduceLT,Int.reduceLE,Int.reduceEq,Int.reduceAdd,Int.reduceSub,Int.reduceNeg,↓reduceIte,reduceCtorEq,Aq])
 refine SWP.loop (fun i:Nat=>⟨Ba 27 [(0,.p (.sl (Bb p))),(1,.p (.sl (Bb q))),(5,.p (.int .i64 i))],[]⟩) (fun i=>i≤p.length∧i≤q.length∧B7 (p.drop i) (q.drop i)=B7 p q) (fun i=>p.length - i) 0 (St.le_slots (by simp only [Ap,Ar,Ao,Aj,Af,Nat.reduceEqDiff,reduceIte,Nat.reduceLT,Nat.reduceLeDiff];simp (disch:=omega) [Af,Ai,Au,Aa] <;> (repeat' apply And.intro) <;> omega) (by simp (disch:=omega) [Az,A3,Aw,Am,Af,Ai,Au,Aa]) (by simp [Ay])) ⟨Nat.zero_le _,Nat.zero_le _,rfl⟩ ?_
 rintro i ⟨h1,h2,h3⟩
 by_cases hi:¬ (i<p.length∧i<q.length)
 ·have e:B7 (p.drop i) (q.drop i)=false:=by
   by_cases hi':i<p.length
   ·rw [show q.drop i=[] from List.drop_eq_nil_of_le (by omega)];exact Jb0 _
   ·rw [show p.drop i=[] from List.drop_eq_nil_of_le (by omega)];rfl
  (refine Ae hm _ _ _ ?_;simp only [go_sem,Nat.reduceLT,Nat.reduceEqDiff,↓reduceIte,reduceCtorEq,Aq])
  (repeat' (first | (exfalso;omega)|(refine iteI (fun h=>?_) (fun h=>?_))|(refine Ak (by first | omega | (simp (disch:=omega) only [Aa,Ab,Ac] at *;omega)) ?_;intro b hb)|(refine And.intro (by first | omega | (simp (disch:=omega) only [Aa,Ab,Ac] at *;omega)) ?_)|((first | (refine Ah hm (by rfl) (by kernel_rfl) ?_));simp only [go_sem])|(exact True.intro)|(exfalso;omega)))
  all_goals rw [← h3,e]
 ·have hi:=Decidable.not_not.1 hi
  obtain ⟨x,hx⟩:∃ x,p[i]? = some x:=⟨_,List.getElem?_eq_getElem hi.1⟩
  obtain ⟨y,hy⟩:∃ y,q[i]? = some y:=⟨_,List.getElem?_eq_getElem hi.2⟩
  have hgx:=Dk hx
  have hgy:=Dk hy
  have hlx:=hn x (List.mem_of_getElem? hx)
  have hly:=hnq y (List.mem_of_getElem? hy)
  have hdx:p.drop i=x :: p.drop (i+1):=by rw [List.drop_eq_getElem_cons hi.1];congr 1;rw [List.getElem?_eq_getElem hi.1] at hx;exact Option.some.inj hx
  have hdy:q.drop i=y :: q.drop (i+1):=by rw [List.drop_eq_getElem_cons hi.2];congr 1;rw [List.getElem?_eq_getElem hi.2] at hy;exact Option.some.inj hy
  rw [hdx,hdy,B7] at h3
  have c1:((i:Int)<(p.length:Int))=True:=eq_true (by omega)
  have c2:((i:Int)<(q.length:Int))=True:=eq_true (by omega)
  skip
  (refine Ae hm _ _ _ ?_;simp only [go_sem,Nat.reduceLT,Nat.reduceEqDiff,↓reduceIte,reduceCtorEq,Aq,wi1 (i:=i) (by omega)])
  (repeat' (first | (refine iteI (fun h=>?_) (fun h=>?_))|(refine Ak (by first | omega | (simp (disch:=omega) only [Aa,Ab,Ac] at *;omega)) ?_;intro b hb)|(refine And.intro (by first | omega | (simp (disch:=omega) only [Aa,Ab,Ac] at *;omega)) ?_)|((first | (refine Ah hm (by rfl) (by kernel_rfl) ?_));simp only [go_sem,Nat.reduceLT,Nat.reduceLeDiff,Nat.reduceEqDiff,Nat.reduceAdd,↓reduceIte,reduceCtorEq,hgx,hgy,wi1 (i:=i) (by omega)])|(exact True.intro)|(exfalso;omega)))
  ·have h:=(show (x.part == y.part && (x.name == y.name && x.n == y.n))=false by assumption)
   rw [Pw] at h
   rw [← h3,h];rfl
  ·have h:=(show ¬ (x.part == y.part && (x.name == y.name && x.n == y.n))=false by assumption)
   rw [Pw,Bool.not_eq_false] at h
   rw [h] at h3
   exact ⟨i+1,⟨by omega,by omega,h3⟩,by omega,(St.le_slots (by simp only [Ap,Ar,Ao,Aj,Af,Nat.reduceEqDiff,reduceIte,Nat.reduceLT,Nat.reduceLeDiff];simp (disch:=omega) [Af,Ai,Au,Aa] <;> (repeat' apply And.intro) <;> omega) (by simp (disch:=omega) [Az,A3,Aw,Am,Af,Ai,Au,Aa]) (by simp [Ay]))⟩
instance:DecidableEq Step:=fun x y=>decidable_of_iff _ (Dc (x:=x) (y:=y))
theorem Xl (p q:List Step) (hl:¬ p.length=q.length):Det cx 64 [.p (.sl (Bb p)),.p (.sl (Bb q))] [] (.p (.bool (decide (p=q)))) []:=by
 skip
 (refine Al.of_code (X:=cx) false [] (by simp) Tryz.func64 (by kernel_rfl) rfl (by simp only [List.length_cons,List.length_nil,Tryz.ntmps64];decide) (by simp) ?_;refine Ae hm _ _ _ ?_;simp only [Tryz.ntmps64,Tryz.results64,go_sem,Nat.reduceLT,Nat.reduceLeDiff,Nat.reduceEqDiff,Nat.reduceAdd,Nat.reduceSub,Nat.reduceMul,Nat.reduceBEq,Int.reduceToNat,Int.reduceLT,Int.reduceLE,Int.reduceEq,Int.reduceAdd,Int.reduceSub,Int.reduceNeg,↓reduceIte,reduceCtorEq,Aq])
 (repeat' (first | (refine iteI (fun h=>?_) (fun h=>?_))|(refine Ak (by first | omega | (simp (disch:=omega) only [Aa,Ab,Ac] at *;omega)) ?_;intro b hb)|(refine And.intro (by first | omega | (simp (disch:=omega) only [Aa,Ab,Ac] at *;omega)) ?_)|((first | (refine Ah hm (by rfl) (by kernel_rfl) ?_));simp only [go_sem])|(exact True.intro)|(exfalso;omega)))
 exact (decide_eq_false fun e=>hl (by rw [e])).symm
theorem Zs (p q:List Step) (hp:p.length≤1000000) (hq:q.length≤1000000) (hn:∀ x∈p,x.name.length≤1000000) (hnq:∀ x∈q,x.name.length≤1000000):Det cx 64 [.p (.sl (Bb p)),.p (.sl (Bb q))] [] (.p (.bool (decide (p=q)))) []:=by
 by_cases hl:p.length=q.length
 ·have hpl:(p.length:Int)=(q.length:Int):=by omega
  skip
  (refine Al.of_code (X:=cx) false [] (by simp) Tryz.func64 (by kernel_rfl) rfl (by simp only [List.length_cons,List.length_nil,Tryz.ntmps64];decide) (by simp) ?_;refine Ae hm _ _ _ ?_;simp only [Tryz.ntmps64,Tryz.results64,go_sem,Nat.reduceLT,Nat.reduceLeDiff,Nat.reduceEqDiff,Nat.reduceAdd,Nat.reduceSub,Nat.reduceMul,Nat.reduceBEq,Int.reduceToNat,Int.reduceLT,Int.reduceLE,Int.reduceEq,Int.reduceAdd,Int.reduceSub,Int.reduceNeg,↓reduceIte,reduceCtorEq,Aq])
  (repeat' (first | (refine iteI (fun h=>?_) (fun h=>?_))|(refine Ak (by first | omega | (simp (disch:=omega) only [Aa,Ab,Ac] at *;omega)) ?_;intro b hb)|(refine And.intro (by first | omega | (simp (disch:=omega) only [Aa,Ab,Ac] at *;omega)) ?_)|((first | (refine Ah hm (by rfl) (by kernel_rfl) ?_));simp only [go_sem])|(exact True.intro)|(exfalso;omega)))
  refine SWP.loop (fun i:Nat=>⟨Ba 26 [(0,.p (.sl (Bb p))),(1,.p (.sl (Bb q))),(12,.p (.int .i64 p.length)),(13,.p (.int .i64 i))],[]⟩) (fun i=>i≤p.length∧p.take i=q.take i) (fun i=>p.length - i) 0 (St.le_slots (by simp only [Ap,Ar,Ao,Aj,Af,Nat.reduceEqDiff,reduceIte,Nat.reduceLT,Nat.reduceLeDiff];simp (disch:=omega) [Af,Ai,Au,Aa] <;> (repeat' apply And.intro) <;> omega) (by simp (disch:=omega) [Az,A3,Aw,Am,Af,Ai,Au,Aa]) (by simp [Ay])) ⟨Nat.zero_le _,rfl⟩ ?_
  rintro i ⟨h1,h3⟩
  by_cases hi:¬ i<p.length
  ·have c1:((i:Int)<(p.length:Int))=False:=eq_false (by omega)
   skip
   (refine Ae hm _ _ _ ?_;simp only [go_sem,Nat.reduceLT,Nat.reduceEqDiff,↓reduceIte,reduceCtorEq,c1])
   (repeat' (first | (refine iteI (fun h=>?_) (fun h=>?_))|(refine Ak (by first | omega | (simp (disch:=omega) only [Aa,Ab,Ac] at *;omega)) ?_;intro b hb)|(refine And.intro (by first | omega | (simp (disch:=omega) only [Aa,Ab,Ac] at *;omega)) ?_)|((first | (refine Ah hm (by rfl) (by kernel_rfl) ?_));simp only [go_sem])|(exact True.intro)|(exfalso;omega)))
   rw [List.take_of_length_le (by omega),List.take_of_length_le (by omega)] at h3
   exact (decide_eq_true h3).symm
  ·have hi:=Decidable.not_not.1 hi
   obtain ⟨x,hx⟩:∃ x,p[i]? = some x:=⟨_,List.getElem?_eq_getElem hi⟩
   obtain ⟨y,hy⟩:∃ y,q[i]? = some y:=⟨_,List.getElem?_eq_getElem (by omega)⟩
   have hgx:=Dk hx
   have hgy:=Dk hy
   have hlx:=hn x (List.mem_of_getElem? hx)
   have hly:=hnq y (List.mem_of_getElem? hy)
   have c1:((i:Int)<(p.length:Int))=True:=eq_true (by omega)
   skip
   (refine Ae hm _ _ _ ?_;simp only [go_sem,Nat.reduceLT,Nat.reduceEqDiff,↓reduceIte,reduceCtorEq,c1,wi1 (i:=i) (by omega)])
   (repeat' (first | (refine iteI (fun h=>?_) (fun h=>?_))|(refine Ak (by first | omega | (simp (disch:=omega) only [Aa,Ab,Ac] at *;omega)) ?_;intro b hb)|(refine And.intro (by first | omega | (simp (disch:=omega) only [Aa,Ab,Ac] at *;omega)) ?_)|((first | (refine Ah hm (by rfl) (by kernel_rfl) ?_));simp only [go_sem,Nat.reduceLT,Nat.reduceLeDiff,Nat.reduceEqDiff,Nat.reduceAdd,↓reduceIte,reduceCtorEq,hgx,hgy,wi1 (i:=i) (by omega)])|(exact True.intro)|(exfalso;omega)))
   ·have h:=(show (x.part == y.part && (x.name == y.name && x.n == y.n))=false by assumption)
    rw [Pw,decide_eq_false_iff_not,Dc] at h
    refine (decide_eq_false fun e=>h ?_).symm
    subst e
    rw [hx] at hy;exact Option.some.inj hy
   ·have h:=(show ¬ (x.part == y.part && (x.name == y.name && x.n == y.n))=false by assumption)
    rw [Pw,Bool.not_eq_false,decide_eq_true_eq,Dc] at h
    subst h
    refine ⟨i+1,⟨by omega,?_⟩,by omega,(St.le_slots (by simp only [Ap,Ar,Ao,Aj,Af,Nat.reduceEqDiff,reduceIte,Nat.reduceLT,Nat.reduceLeDiff];simp (disch:=omega) [Af,Ai,Au,Aa] <;> (repeat' apply And.intro) <;> omega) (by simp (disch:=omega) [Az,A3,Aw,Am,Af,Ai,Au,Aa]) (by simp [Ay]))⟩
    rw [List.take_add_one,List.take_add_one,h3,hx,hy]
 ·exact Xl p q hl
def Nz (p q:List Step):Bool:=!decide (p.take (min p.length q.length)=q.take (min p.length q.length))
theorem Bp (p:List Step):∀ x∈Bb p,x.length=3:=by
 intro x hx
 obtain ⟨y,-,rfl⟩:=List.mem_map.1 hx
 rfl
theorem I7 (p q:List Step) (hp:p.length≤1000000) (hq:q.length≤1000000) (hn:∀ x∈p,x.name.length≤1000000) (hnq:∀ x∈q,x.name.length≤1000000):Det cx 29 [.p (.sl (Bb p)),.p (.sl (Bb q))] [] (.p (.bool (Nz p q))) []:=by
 have htk (k:Nat) (r:List Step):(Bb r).take k=Bb (r.take k):=by simp [Bb]
 have hmin:min (p.length:Int) (q.length:Int)=((min p.length q.length:Nat):Int):=by omega
 skip
 (refine Al.of_code (X:=cx) false [] (by simp) Tryz.func29 (by kernel_rfl) rfl (by simp only [List.length_cons,List.length_nil,Tryz.ntmps29];decide) (by simp) ?_;refine Ae hm _ _ _ ?_;simp only [Tryz.ntmps29,Tryz.results29,go_sem,Nat.reduceLT,Nat.reduceLeDiff,Nat.reduceEqDiff,Nat.reduceAdd,Nat.reduceSub,Nat.reduceMul,Nat.reduceBEq,Int.reduceToNat,Int.reduceLT,Int.reduceLE,Int.reduceEq,Int.reduceAdd,Int.reduceSub,Int.reduceNeg,↓reduceIte,reduceCtorEq,Aq,htk,hmin])
 (repeat' (first | (refine iteI (fun h=>?_) (fun h=>?_))|(refine Ak (by first | omega | (simp (disch:=omega) only [Aa,Ab,Ac] at *;omega)) ?_;intro b hb)|(refine And.intro (by first | omega | (simp (disch:=omega) only [Aa,Ab,Ac] at *;omega)) ?_)|((first | (refine Ah hm (by rfl) (by kernel_rfl) ?_)|(refine Det.use (Zs (p.take (min p.length q.length)) (q.take (min p.length q.length)) (by rw [List.length_take];omega) (by rw [List.length_take];omega) (fun x h=>hn x (List.mem_of_mem_take h)) (fun x h=>hnq x (List.mem_of_mem_take h))) ?_)|(refine Det.useQ (Zs (p.take (min p.length q.length)) (q.take (min p.length q.length)) (by rw [List.length_take];omega) (by rw [List.length_take];omega) (fun x h=>hn x (List.mem_of_mem_take h)) (fun x h=>hnq x (List.mem_of_mem_take h))) ?_));simp only [go_sem,Nat.reduceLT,Nat.reduceEqDiff,↓reduceIte,reduceCtorEq,Aq,htk])|(refine And.intro (Bp _) ?_)|(exact True.intro)|(exfalso;omega)))
 unfold Nz;rw [Bool.not_not]
end Go.LX
set_option maxRecDepth 100000
set_option maxHeartbeats 2000000
namespace Go.LX
open Go Go.RowKit Go.Proofs
attribute [local irreducible] Al SWP Bi
def inT:Tree→Step→Except Nat Tree
 | .mk k _ _ _ kids,x =>
  if x.part=true then (if k≠5 then .error 5 else match kids.list[x.n.toNat]? with
   | some p=>.ok p.2
   | none=>.error 6)
  else (if k≠6 then .error 5 else match Ch x.name kids.list with
   | some t=>.ok t
   | none=>.error 6)
theorem Iz {k:Int} {s:List UInt8} {g:Bool} {e:Int} {kids:Forest} {x:Step} (hp:x.part=true) (hk:¬ k=5):inT (.mk k s g e kids) x=.error 5:=by
 show (if x.part=true then (if k≠5 then Except.error 5 else _) else _)=_
 rw [if_pos hp,if_pos hk]
theorem Iw {k:Int} {s:List UInt8} {g:Bool} {e:Int} {kids:Forest} {x:Step} (hp:x.part=false) (hk:¬ k=6):inT (.mk k s g e kids) x=.error 5:=by
 show (if x.part=true then _ else (if k≠6 then Except.error 5 else _))=_
 rw [if_neg (by simp [hp]),if_pos hk]
theorem Tm {s:List UInt8} {g:Bool} {e:Int} {kids:Forest} {x:Step} (hp:x.part=true):inT (.mk 5 s g e kids) x=match kids.list[x.n.toNat]? with
   | some p=>.ok p.2
   | none=>.error 6:=by
 show (if x.part=true then _ else _)=_
 rw [if_pos hp];rfl
theorem Tp {s:List UInt8} {g:Bool} {e:Int} {kids:Forest} {x:Step} (hp:x.part=false):inT (.mk 6 s g e kids) x=match Ch x.name kids.list with
   | some t=>.ok t
   | none=>.error 6:=by
 show (if x.part=true then _ else _)=_
 rw [if_neg (by simp [hp])];rfl
def getR:Except Nat Tree→L
 | .ok t=>.tup [.sl (valL (t.enc [])),.int .i64 0]
 | .error e=>.tup [.snil,.int .i64 e]
theorem Hx {l:List (List UInt8×Tree)} {i:Nat} {p:List UInt8×Tree} (h:l[i]? = some p):(A4 l)[i]? = some [.sl (valL (p.2.enc []))]:=by simp [A4,h]
theorem d_in (t:Tree) (x:Step) (hv:(t.enc []).length≤1000000) (hx:Bc x):Det cx 59 [.p (.sl (valL (t.enc []))),.p (.agg [.bool x.part,.str x.name,.int .i64 x.n])] [] (getR (inT t x)) []:=by
 cases t with
 | mk k s g e kids =>
 have hkv:kids.enc.length≤999999:=by rw [A6] at hv;simp at hv;omega
 have hll:=Forest.len_le kids
 have hkl:=Forest.list_len kids
 unfold Bc at hx
 cases hp:x.part
 ·by_cases hk:k=6
  ·subst hk
   rw [Tp hp]
   cases hf:Ch x.name kids.list with
   | none =>
    have hF:=Jdk [] s g e kids x.name hkv
    rw [hf] at hF
    unfold Oo at hF
    skip
    (refine Al.of_code (X:=cx) false [] (by simp) Tryz.func59 (by kernel_rfl) rfl (by simp only [List.length_cons,List.length_nil,Tryz.ntmps59];decide) (by simp) ?_;refine Ae hm _ _ _ ?_;simp only [Tryz.ntmps59,Tryz.results59,go_sem,Nat.reduceLT,Nat.reduceLeDiff,Nat.reduceEqDiff,Nat.reduceAdd,Nat.reduceSub,Nat.reduceMul,Nat.reduceBEq,Int.reduceToNat,Int.reduceLT,Int.reduceLE,Int.reduceEq,Int.reduceAdd,Int.reduceSub,Int.reduceNeg,↓reduceIte,reduceCtorEq,Cc])
    (repeat' (first | (refine iteI (fun h=>?_) (fun h=>?_))|(refine Ak (by first | omega | (simp (disch:=omega) only [Aa,Ab,Ac] at *;omega)) ?_;intro b hb)|(refine And.intro (by first | omega | (simp (disch:=omega) only [Aa,Ab,Ac] at *;omega)) ?_)|((first | (refine Ah hm (by rfl) (by kernel_rfl) ?_)|(refine Det.use (hF) ?_)|(refine Det.useQ (hF) ?_)|(refine Ag.use (hF) ?_)|(refine Ad.use (hF) ?_));simp only [go_sem,Nat.reduceLT,Nat.reduceEqDiff,↓reduceIte])|(exact True.intro)|(exfalso;omega)))
    all_goals rfl
   | some t =>
    have hF:=Jdk [] s g e kids x.name hkv
    rw [hf] at hF
    unfold Oo at hF
    (refine Al.of_code (X:=cx) false [] (by simp) Tryz.func59 (by kernel_rfl) rfl (by simp only [List.length_cons,List.length_nil,Tryz.ntmps59];decide) (by simp) ?_;refine Ae hm _ _ _ ?_;simp only [Tryz.ntmps59,Tryz.results59,go_sem,Nat.reduceLT,Nat.reduceLeDiff,Nat.reduceEqDiff,Nat.reduceAdd,Nat.reduceSub,Nat.reduceMul,Nat.reduceBEq,Int.reduceToNat,Int.reduceLT,Int.reduceLE,Int.reduceEq,Int.reduceAdd,Int.reduceSub,Int.reduceNeg,↓reduceIte,reduceCtorEq,Cc])
    (repeat' (first | (refine iteI (fun h=>?_) (fun h=>?_))|(refine Ak (by first | omega | (simp (disch:=omega) only [Aa,Ab,Ac] at *;omega)) ?_;intro b hb)|(refine And.intro (by first | omega | (simp (disch:=omega) only [Aa,Ab,Ac] at *;omega)) ?_)|((first | (refine Ah hm (by rfl) (by kernel_rfl) ?_)|(refine Det.use (hF) ?_)|(refine Det.useQ (hF) ?_)|(refine Ag.use (hF) ?_)|(refine Ad.use (hF) ?_));simp only [go_sem,Nat.reduceLT,Nat.reduceEqDiff,↓reduceIte])|(exact True.intro)|(exfalso;omega)))
    all_goals rfl
  ·rw [Iw hp hk]
   (refine Al.of_code (X:=cx) false [] (by simp) Tryz.func59 (by kernel_rfl) rfl (by simp only [List.length_cons,List.length_nil,Tryz.ntmps59];decide) (by simp) ?_;refine Ae hm _ _ _ ?_;simp only [Tryz.ntmps59,Tryz.results59,go_sem,Nat.reduceLT,Nat.reduceLeDiff,Nat.reduceEqDiff,Nat.reduceAdd,Nat.reduceSub,Nat.reduceMul,Nat.reduceBEq,Int.reduceToNat,Int.reduceLT,Int.reduceLE,Int.reduceEq,Int.reduceAdd,Int.reduceSub,Int.reduceNeg,↓reduceIte,reduceCtorEq,Cc])
   (repeat' (first | (refine iteI (fun h=>?_) (fun h=>?_))|(refine Ak (by first | omega | (simp (disch:=omega) only [Aa,Ab,Ac] at *;omega)) ?_;intro b hb)|(refine And.intro (by first | omega | (simp (disch:=omega) only [Aa,Ab,Ac] at *;omega)) ?_)|((first | (refine Ah hm (by rfl) (by kernel_rfl) ?_));simp only [go_sem])|(exact True.intro)|(exfalso;omega)))
   all_goals rfl
 ·rw [if_pos hp] at hx
  obtain ⟨n,hn⟩:∃ n:Nat,x.n=n:=⟨x.n.toNat,by omega⟩
  by_cases hk:k=5
  ·subst hk
   rw [Tm hp,hn]
   have hpt:((n:Int)).toNat=n:=rfl
   rw [hpt]
   by_cases hlt:n<kids.len
   ·obtain ⟨p,hpk⟩:∃ p,kids.list[n]? = some p:=⟨_,List.getElem?_eq_getElem (by omega)⟩
    have hpg:=Hx hpk
    rw [hpk]
    skip
    (refine Al.of_code (X:=cx) false [] (by simp) Tryz.func59 (by kernel_rfl) rfl (by simp only [List.length_cons,List.length_nil,Tryz.ntmps59];decide) (by simp) ?_;refine Ae hm _ _ _ ?_;simp only [Tryz.ntmps59,Tryz.results59,go_sem,Nat.reduceLT,Nat.reduceLeDiff,Nat.reduceEqDiff,Nat.reduceAdd,Nat.reduceSub,Nat.reduceMul,Nat.reduceBEq,Int.reduceToNat,Int.reduceLT,Int.reduceLE,Int.reduceEq,Int.reduceAdd,Int.reduceSub,Int.reduceNeg,↓reduceIte,reduceCtorEq,Cc,hpg])
    (repeat' (first | (refine iteI (fun h=>?_) (fun h=>?_))|(refine Ak (by first | omega | (simp (disch:=omega) only [Aa,Ab,Ac] at *;omega)) ?_;intro b hb)|(refine And.intro (by first | omega | (simp (disch:=omega) only [Aa,Ab,Ac] at *;omega)) ?_)|((first | (refine Ah hm (by rfl) (by kernel_rfl) ?_)|(refine Det.use (Px [] 5 s g e kids hkv) ?_)|(refine Det.useQ (Px [] 5 s g e kids hkv) ?_));simp only [go_sem,Nat.reduceLT,Nat.reduceLeDiff,Nat.reduceEqDiff,Nat.reduceAdd,Int.reduceToNat,Int.reduceLE,↓reduceIte,reduceCtorEq,Cc,hpg])|(exact True.intro)|(exfalso;omega)))
    all_goals rfl
   ·rw [List.getElem?_eq_none (by omega)]
    have hpg:=hn
    (refine Al.of_code (X:=cx) false [] (by simp) Tryz.func59 (by kernel_rfl) rfl (by simp only [List.length_cons,List.length_nil,Tryz.ntmps59];decide) (by simp) ?_;refine Ae hm _ _ _ ?_;simp only [Tryz.ntmps59,Tryz.results59,go_sem,Nat.reduceLT,Nat.reduceLeDiff,Nat.reduceEqDiff,Nat.reduceAdd,Nat.reduceSub,Nat.reduceMul,Nat.reduceBEq,Int.reduceToNat,Int.reduceLT,Int.reduceLE,Int.reduceEq,Int.reduceAdd,Int.reduceSub,Int.reduceNeg,↓reduceIte,reduceCtorEq,Cc,hpg])
    (repeat' (first | (exfalso;omega)|(refine iteI (fun h=>?_) (fun h=>?_))|(refine Ak (by first | omega | (simp (disch:=omega) only [Aa,Ab,Ac] at *;omega)) ?_;intro b hb)|(refine And.intro (by first | omega | (simp (disch:=omega) only [Aa,Ab,Ac] at *;omega)) ?_)|((first | (refine Ah hm (by rfl) (by kernel_rfl) ?_)|(refine Det.use (Px [] 5 s g e kids hkv) ?_)|(refine Det.useQ (Px [] 5 s g e kids hkv) ?_));simp only [go_sem,Nat.reduceLT,Nat.reduceLeDiff,Nat.reduceEqDiff,Nat.reduceAdd,Int.reduceToNat,Int.reduceLE,↓reduceIte,reduceCtorEq,Cc])|(exact True.intro)|(exfalso;omega)))
    all_goals rfl
  ·rw [Iz hp hk,hn]
   have hpg:=hn
   (refine Al.of_code (X:=cx) false [] (by simp) Tryz.func59 (by kernel_rfl) rfl (by simp only [List.length_cons,List.length_nil,Tryz.ntmps59];decide) (by simp) ?_;refine Ae hm _ _ _ ?_;simp only [Tryz.ntmps59,Tryz.results59,go_sem,Nat.reduceLT,Nat.reduceLeDiff,Nat.reduceEqDiff,Nat.reduceAdd,Nat.reduceSub,Nat.reduceMul,Nat.reduceBEq,Int.reduceToNat,Int.reduceLT,Int.reduceLE,Int.reduceEq,Int.reduceAdd,Int.reduceSub,Int.reduceNeg,↓reduceIte,reduceCtorEq,Cc,hpg])
   (repeat' (first | (refine iteI (fun h=>?_) (fun h=>?_))|(refine Ak (by first | omega | (simp (disch:=omega) only [Aa,Ab,Ac] at *;omega)) ?_;intro b hb)|(refine And.intro (by first | omega | (simp (disch:=omega) only [Aa,Ab,Ac] at *;omega)) ?_)|((first | (refine Ah hm (by rfl) (by kernel_rfl) ?_));simp only [go_sem,Nat.reduceLT,Nat.reduceLeDiff,Nat.reduceEqDiff,Nat.reduceAdd,Int.reduceToNat,Int.reduceLE,↓reduceIte,reduceCtorEq,Cc])|(exact True.intro)|(exfalso;omega)))
   all_goals rfl
end Go.LX
