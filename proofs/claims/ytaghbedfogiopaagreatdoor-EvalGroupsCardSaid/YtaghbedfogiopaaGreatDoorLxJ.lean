/- Slots as a list of what was written, the last first. -/
import Derived.Test.YtaghbedfogiopaaGreatDoorLxI
set_option linter.unusedSimpArgs false
set_option linter.unusedVariables false
set_option linter.unusedSectionVars false
set_option linter.unnecessarySimpa false
namespace Go.LX
open Go Go.RowKit Go.Proofs
def Ba (n:Nat):List (Nat×L)->List L
 | []=>List.replicate n .junk
 | (i,l) :: ws=>(Ba n ws).set i l
theorem Cg (n:Nat):∀ ws,(Ba n ws).length=n
 | []=>by simp [Ba]
 | (i,l) :: ws=>by simp [Ba,Cg n ws]
theorem Je3 {n i:Nat} {l:L} {ws:List (Nat×L)}:(Ba n ws).set i l=Ba n ((i,l) :: ws):=(rfl)
theorem Ao {n i j:Nat} {l:L} {ws:List (Nat×L)}:(Ba n ((i,l) :: ws)).getD j .junk=if i=j then (if i<n then l else .junk) else (Ba n ws).getD j .junk:=by
 simp only [Ba,Eah,Ebn,Cg];split
 ·rename_i h;subst h;split <;> rfl
 ·rfl
theorem Aj {n j:Nat}:(Ba n []).getD j .junk=.junk:=by
 simp only [Ba,Eah,Ech];split <;> rfl
def mapW (f:L->L):List (Nat×L)->List (Nat×L)
 | []=>[]
 | (i,l) :: ws=>(i,f l) :: mapW f ws
theorem Kw {f:L->L} (h:f .junk=.junk) {n:Nat}:∀ {ws:List (Nat×L)},(Ba n ws).map f=Ba n (mapW f ws)
 | []=>by simp [Ba,mapW,h]
 | (i,l) :: ws=>by simp only [Ba,mapW,Edj,Kw h]
theorem U7 {d n:Nat} {ws:List (Nat×L)}:(Ba n ws).map (L.forget d)=Ba n (mapW (L.forget d) ws):=Kw rfl
theorem Wd {d n:Nat} {es:Fz} {ws:List (Nat×L)}:(Ba n ws).map (L.freeze d es)=Ba n (mapW (L.freeze d es) ws):=Kw rfl
theorem Jac {f:Nat->Option Nat} {n:Nat} {ws:List (Nat×L)}:(Ba n ws).map (L.map f)=Ba n (mapW (L.map f) ws):=Kw rfl
theorem Jlb {f:L->L}:mapW f []=[]:=(rfl)
theorem Jg1 {f:L->L} {i:Nat} {l:L} {ws:List (Nat×L)}:mapW f ((i,l) :: ws)=(i,f l) :: mapW f ws:=(rfl)
def argW:Nat->List L->List (Nat×L)
 | _,[]=>[]
 | k,l :: ls=>(k,l) :: argW (k+1) ls
theorem Tq {n:Nat}:∀ (k:Nat) (ls:List L) (i:Nat),k+ls.length<=n->(Ba n (argW k ls))[i]? = if i<n then (if k<=i then (ls[i - k]?).orElse fun _=>some .junk else some .junk) else none
 | k,[],i,h=>by
  simp only [argW,Ba,Ech];split
  ·split <;> simp
  ·rfl
 | k,l :: ls,i,h=>by
  simp only [List.length_cons] at h;have ih:=Tq (n:=n) (k+1) ls i omg;simp only [argW,Ba,Ebn,Cg,ih];by_cases h1:k=i
  ·subst h1;simp
  ·simp only [if_neg h1];by_cases h2:i<n
   ·simp only [if_pos h2];by_cases h3:k+1<=i
    ·simp only [if_pos h3,if_pos (show k<=i by omega)];have:i - k=(i - (k+1))+1:=by omega
     rw [this,List.getElem?_cons_succ]
    ·simp only [if_neg h3,if_neg (show ¬ k<=i by omega)]
   ·simp only [if_neg h2]
theorem Rx {n:Nat} {ls:List L} (h:ls.length<=n):ls ++ List.replicate (n - ls.length) .junk=Ba n (argW 0 ls):=by
 apply Eb9;intro i;rw [Tq 0 ls i omg];by_cases h1:i<ls.length
 ·rw [Eaq h1,if_pos omg,if_pos (Eav _)];simp [h1]
 ·rw [Ean omg,Ech];by_cases h2:i<n
  ·rw [if_pos omg,if_pos h2,if_pos (Eav _)];simp [h1]
  ·rw [if_neg omg,if_neg h2]
def wsLe (n:Nat) (ws:List (Nat×L)):List (Nat×L)->Prop
 | []=>True
 | (i,l) :: rest=>LLe ((Ba n ws).getD i .junk) l/\wsLe n ws rest
theorem Ar {n:Nat} {ws:List (Nat×L)}:wsLe n ws []=True:=(rfl)
theorem Ap {n i:Nat} {l:L} {ws rest:List (Nat×L)}:wsLe n ws ((i,l) :: rest)=(LLe ((Ba n ws).getD i .junk) l/\wsLe n ws rest):=(rfl)
theorem R2:∀ {a b:List L},a.length=b.length->(∀ i,LLe (a.getD i .junk) (b.getD i .junk))->Aw a b
 | [],[],_,_=>trivial
 | x :: a,y :: b,h,hi=>⟨by simpa using hi 0,R2 (by simpa using h) fun i=>by simpa using hi (i+1)⟩
 | [],_ :: _,h,_=>by simp at h
 | _ :: _,[],h,_=>by simp at h
theorem Z1 {n:Nat} {ws:List (Nat×L)}:∀ {rest:List (Nat×L)},wsLe n ws rest->∀ i,LLe ((Ba n ws).getD i .junk) ((Ba n rest).getD i .junk)
 | [],_,i=>by rw [Aj];exact .inl rfl
 | (j,l) :: rest,h,i=>by
  rw [Ao];split
  ·rename_i hj;subst hj;split
   ·exact h.1
   ·exact .inl rfl
  ·exact Z1 h.2 i
theorem Jqt {n:Nat} {ws ws':List (Nat×L)} {r r':Regs} (ht:wsLe n ws ws') (hr:Az r r') (hk:Ay r'):St.Le ⟨Ba n ws,r⟩ ⟨Ba n ws',r'⟩ :=
 Kbu (R2 (by simp [Cg]) (Z1 ht)) hr hk
theorem Jua {X:Cx} {f:FuncId} {fn:Func} {c:Code} {args:List L} {rs:Regs} {Post:L->Regs->Prop} (own:Bool) (rn:List (Nat×Nat)) (hrn:∀ x∈rn,x.2<1000\/500000<=x.2) (hf:X.P.funcs[f]? = some fn) (hname:(fn.name == "runtime.NumGoroutine")=false) (hb:fn.body=some c) (hn:args.length<=fn.ntmps)
  (h900:900 ∉ rs.map (·.1)) (h:SWP X none c (Jed X.P own rn fn.results.toList (rs.map (·.1)) Post) ⟨Ba fn.ntmps (argW 0 args),rs⟩):Al X f args rs Post :=
 J0j own rn hrn hf hname hb h900 (by rw [Rx hn];exact h)
end Go.LX
