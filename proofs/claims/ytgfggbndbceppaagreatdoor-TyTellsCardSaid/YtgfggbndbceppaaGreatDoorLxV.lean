/- Membership: values without parts, the program's side. -/
import Derived.Test.YtgfggbndbceppaaGreatDoorLxU
import Derived.Test.YtgfggbndbceppaaGreatDoorLxP
import Derived.Test.YtgfggbndbceppaaGreatDoorLxS
import Derived.Test.YtgfggbndbceppaaGreatDoorLxT
import Derived.Test.YtgfggbndbceppaaGreatDoorLxO
set_option linter.unusedSimpArgs false
set_option linter.unusedVariables false
set_option linter.unusedSectionVars false
set_option linter.unnecessarySimpa false
set_option maxRecDepth 100000
set_option maxHeartbeats 2000000
namespace Go.LX
open Go Go.RowKit Go.Proofs
attribute [local irreducible] Al SWP Bi
theorem J71 {k:Int} {s:List UInt8} {g:Bool} {e m:Int} (h:G3 k s g e m) (hk:k<5):k=0∨k=1∨k=2∨k=3∨k=4:=by
 unfold G3 at h;split at h
 ·omega
 ·split at h
  ·omega
  ·split at h
   ·omega
   ·split at h
    ·omega
    ·exact h.elim
theorem J5c {s:List UInt8} {g:Bool} {e:Int} (h:Yz s g e):Jsa ⟨3,0,[],s,g,e⟩=true:=(J0o _).2 (J3w h)
theorem Kda (k:Int) (s:List UInt8) (g:Bool) (e:Int) (h:G3 k s g e 0) (hk:k<5) (hs:s.length≤1000000):Det cx 149 [.p (.agg [.int .i64 k,.int .i64 0,.str [],.str s,.bool g,.int .i64 e])] [] (.p (.bool true)) []:=by
 rcases J71 h hk with rfl | rfl | rfl | rfl | rfl
 ·obtain ⟨rfl,rfl,rfl⟩:s=[]∧g=false∧e=0:=by simpa [G3] using h
  (refine bgo Tryz.func149 ?_;simp only [go_sem,simprocAttr])
  all_goals (first | rfl | simp)
 ·obtain ⟨rfl,rfl,rfl⟩:s=[]∧g=false∧e=0:=by simpa [G3] using h
  (refine bgo Tryz.func149 ?_;simp only [go_sem,simprocAttr])
  all_goals (first | rfl | simp)
 ·obtain ⟨rfl,rfl,rfl⟩:s=[]∧g=false∧e=0:=by simpa [G3] using h
  (refine bgo Tryz.func149 ?_;simp only [go_sem,simprocAttr])
  all_goals (first | rfl | simp)
 ·have hn:=J41 h rfl;have hR:=J17 ⟨3,0,[],s,g,e⟩ hs;rw [J5c hn,Jr9] at hR;(refine bgo Tryz.func149 ?_;simp only [go_sem,simprocAttr]);(repeat' (first | ((refine Jqa (hR) ?_);simp only [go_sem,simprocAttr]) | fail))
  all_goals (first | rfl | simp)
 ·obtain ⟨hv,rfl,rfl⟩:valid s=true∧g=false∧e=0:=by simpa [G3] using h
  have hV:=Fi s omg;rw [hv] at hV;(refine bgo Tryz.func149 ?_;simp only [go_sem,simprocAttr]);(repeat' (first | ((refine Jqa (hV) ?_);simp only [go_sem,simprocAttr]) | fail))
  all_goals (first | rfl | simp)
def stk2 (k:Int):List (List PV):=[[.int .i64 5,.int .i64 0,.bool false,.str []],[.int .i64 k,.int .i64 0,.bool true,.str []]]
theorem J0l (a:Int) (b:Bool) (c:List UInt8):Det cx 151 [.p (.agg [.int .i64 a,.int .i64 0,.bool b,.str c])] [] (.p (.bool false)) []:=by
 (refine bgo Tryz.func151 ?_;simp only [go_sem,simprocAttr])
 skip
theorem J6d (k:Int):Det cx 178 [.p (.sl (stk2 k)),.fn 151 []] [] (.p (.int .i64 (-1))) []:=by
 have hl2:(stk2 k).length=2:=rfl;(refine bgo Tryz.func178 ?_;simp only [go_sem,simprocAttr,hl2]);refine SWP.loop (fun i:Nat=>⟨Ba 19 [(0,.p (.sl (stk2 k))),(1,.fn 151 []),(7,.p (.int .i64 2)),(8,.p (.int .i64 i))],[]⟩) (fun i=>i≤2) (fun i=>2 - i) 0 Jqb (Nat.zero_le _) ?_;rintro i hi;have hcase:i=0∨i=1∨i=2:=by omega
 rcases hcase with rfl | rfl | rfl
 ·have h0:(stk2 k)[0]? = some [.int .i64 5,.int .i64 0,.bool false,.str []]:=rfl;have w0:IntKind.i64.wrap 1=1:=by decide
  (refine lws ?_;simp only [go_sem,simprocAttr,h0]);(repeat' (first | ((refine Jqa (J0l _ _ _) ?_);simp only [go_sem,simprocAttr,w0]) | fail));exact ⟨1,by omega,by omega,Jqb⟩
 ·have h0:(stk2 k)[1]? = some [.int .i64 k,.int .i64 0,.bool true,.str []]:=rfl;have w0:IntKind.i64.wrap (1+1)=2:=by decide
  have w1:IntKind.i64.wrap 2=2:=by decide
  (refine lws ?_;simp only [go_sem,simprocAttr,h0]);(repeat' (first | ((refine Jqa (J0l _ _ _) ?_);simp only [go_sem,simprocAttr,w1]) | fail));exact ⟨2,by omega,by omega,Jqb⟩
 ·(refine lws ?_;simp only [go_sem,simprocAttr])
  skip
theorem Jz1 (k:Int):Det cx 150 [.p (.sl (stk2 k)),.fn 151 []] [] (.p (.bool false)) []:=by
 (refine bgo Tryz.func150 ?_;simp only [go_sem,simprocAttr]);(repeat' (first | ((refine Jqa (J6d k) ?_);simp only [go_sem,simprocAttr]) | fail))
theorem J3g (k:Int) (s:List UInt8) (g:Bool) (e:Int) (h:G3 k s g e 0) (hk:k<5) (hs:s.length≤1000000):Det cx 121 [.p (.sl [[.int .i64 k,.int .i64 0,.str [],.str s,.bool g,.int .i64 e]])] [] (.p (.bool true)) []:=by
 have hP:=Kda k s g e h hk hs;have hC:=Jz1 k;(refine bgo Tryz.func121 ?_;simp only [go_sem,simprocAttr]);refine SWP.loop (fun i:Nat=>if i=0 then ⟨Ba 123 [(0,.p (.sl [[.int .i64 k,.int .i64 0,.str [],.str s,.bool g,.int .i64 e]])),(3,.own 9 0 1),(10,.p (.sl [[.int .i64 k,.int .i64 0,.str [],.str s,.bool g,.int .i64 e]])),(11,.p (.int .i64 1)),(12,.p (.int .i64 0))],[(9,.row 160 4 [[.int .i64 5,.int .i64 1,.bool false,.str []]])]⟩ else ⟨Ba 123 [(0,.p (.sl [[.int .i64 k,.int .i64 0,.str [],.str s,.bool g,.int .i64 e]])),(3,.own 113 0 2),(11,.p (.int .i64 1)),(12,.p (.int .i64 1))],[(113,.row 160 4 (stk2 k))]⟩) (fun i=>i≤1) (fun i=>1 - i) 0 (by rw [if_pos rfl];exact Jqb) (Nat.zero_le _) ?_;rintro i hi;have hcase:i=0∨i=1:=by omega
 rcases hcase with rfl | rfl
 ·rw [if_pos rfl];(refine lws ?_;simp only [go_sem,simprocAttr]);refine SWP.loop (fun _:Unit=>⟨Ba 123 [(0,.p (.sl [[.int .i64 k,.int .i64 0,.str [],.str s,.bool g,.int .i64 e]])),(3,.own 9 0 1),(5,.ptr 5 0 0),(10,.p (.sl [[.int .i64 k,.int .i64 0,.str [],.str s,.bool g,.int .i64 e]])),(11,.p (.int .i64 1)),(12,.p (.int .i64 0))],[(5,.var 35 [.p (.int .i64 k),.p (.int .i64 0),.p (.str []),.p (.str s),.p (.bool g),.p (.int .i64 e)]),(9,.row 160 4 [[.int .i64 5,.int .i64 1,.bool false,.str []]])]⟩) (fun _=>True) (fun _=>0) () Jqb trivial ?_;rintro _ _;have e1:((1:Nat):Int)=1:=rfl;have e2:((2:Nat):Int)=2:=rfl;have w0:IntKind.i64.wrap 0=0:=by decide
  have w1:IntKind.i64.wrap 1=1:=by decide
  have hk6:(k=6)=False:=eq_false omg;(refine lws ?_;simp only [go_sem,simprocAttr,e1,w0]);(repeat' (first | ((first | (refine Jqp ?_)|(refine Jqa (hP) ?_));simp only [go_sem,simprocAttr,e1,w0,decide_false,Bool.not_false,Bool.not_true]) | fail));refine J64 6 [0,4,5] (.node 1 (.node 2 (.node 3 (.node 6 (.node 7 (.node 8 (.node 9 .leaf .nil) .nil) .nil) .nil) (.node 6 (.node 3 (.node 7 (.node 8 (.node 9 .leaf .nil) .nil) .nil) .nil) .nil)) (.node 6 (.node 2 (.node 3 (.node 7 (.node 8 (.node 9 .leaf .nil) .nil) .nil) .nil) .nil) .nil)) (.node 2 (.node 1 (.node 3 (.node 6 (.node 7 (.node 8 (.node 9 .leaf .nil) .nil) .nil) .nil) (.node 6 (.node 3 (.node 7 (.node 8 (.node 9 .leaf .nil) .nil) .nil) .nil) .nil)) (.node 3 (.node 1 (.node 6 (.node 7 (.node 8 (.node 9 .leaf .nil) .nil) .nil) .nil) (.node 6 (.node 1 (.node 7 (.node 8 (.node 9 .leaf .nil) .nil) .nil) .nil) .nil)) (.node 6 (.node 1 (.node 3 (.node 7 (.node 8 (.node 9 .leaf .nil) .nil) .nil) .nil) (.node 3 (.node 1 (.node 7 (.node 8 (.node 9 .leaf .nil) .nil) .nil) .nil) .nil)) .nil))) (.node 6 (.node 1 (.node 2 (.node 3 (.node 7 (.node 8 (.node 9 .leaf .nil) .nil) .nil) .nil) .nil) (.node 2 (.node 1 (.node 3 (.node 7 (.node 8 (.node 9 .leaf .nil) .nil) .nil) .nil) (.node 3 (.node 1 (.node 7 (.node 8 (.node 9 .leaf .nil) .nil) .nil) .nil) .nil)) .nil)) .nil))) 7 hm rfl krf krf ?_;simp only [go_sem,simprocAttr,w1];(repeat' (refine And.intro ?_ ?_))
  all_goals first
   | (intro q hq;simp at hq;rw [hq];rfl)
   | (
    refine ⟨1,by omega,by omega,?_⟩;rw [if_neg de];unfold stk2;exact Jqb)
 ·rw [if_neg de];have hl2:(stk2 k).length=2:=rfl;have ht2:(stk2 k).take 2=stk2 k:=rfl;have hle:(2≤2)=True:=eq_true (Nat.le_refl 2);(refine lws ?_;simp only [go_sem,simprocAttr,hl2,ht2,hle]);(repeat' (first | ((refine Jqa (hC) ?_);simp only [go_sem,simprocAttr]) | fail))
theorem Jto {n:Node} (h:Jqr n):n.many=0:=by
 obtain ⟨hk,_,h⟩:=h;unfold G3 at h;split at h
 ·exact h.1
 ·split at h
  ·exact h.1
  ·split at h
   ·exact h.2.1
   ·split at h
    ·omega
    ·exact h.elim
theorem Kal (n:Node) (h:n.kind<5→Jqr n) (hs:n.s.length≤1000000):Det cx 141 [.p (.agg [.int .i64 n.kind,.int .i64 n.many,.str n.name,.str n.s,.bool n.neg,.int .i64 n.e])] [] (.p (.bool (decide (n.kind<5)))) []:=by
 by_cases hk:n.kind<5
 ·have hp:=h hk;have hmz:=Jto hp;obtain ⟨_,hn,ho⟩:=hp;rw [hmz] at ho;have hR:=J3g n.kind n.s n.neg n.e ho hk hs;have c1:(n.kind<5)=True:=eq_true hk;rw [hmz,hn];(refine bgo Tryz.func141 ?_;simp only [go_sem,simprocAttr,c1,decide_true]);(repeat' (first | ((refine Jqa (hR) ?_);simp only [go_sem,simprocAttr]) | fail))
  all_goals (first | rfl | simp [hk])
 ·have c1:(n.kind<5)=False:=eq_false hk;(refine bgo Tryz.func141 ?_;simp only [go_sem,simprocAttr,c1,decide_false])
  all_goals (first | rfl | simp [hk])
theorem J82 {n:Node} (h:Jqr n):okT (ndT n):=by
 have hm:=Jto h;obtain ⟨hk,hn,ho⟩:=h;rw [hm] at ho;exact Lu.2 ⟨ho,Sb _,I6⟩
theorem Jxl {n:Node} (h:Jqr n):(ndT n).enc []=[n]:=by
 have hm:=Jto h;obtain ⟨hk,hn,ho⟩:=h;rw [ndT,A6,Bl];cases n;simp only at hm hn;subst hm;subst hn;rfl
theorem J9t {n:Node} (h:Jqr n):valL ((ndT n).enc [])=[[.int .i64 n.kind,.int .i64 n.many,.str n.name,.str n.s,.bool n.neg,.int .i64 n.e]]:=by rw [Jxl h];rfl
theorem Ke6 (a n:Int×Node) (ha:Jrf a.1 a.2) (hn:Jqr n.2):Det cx 144 [.p (.agg [.int .i64 a.1,.int .i64 a.2.kind,.int .i64 a.2.many,.str a.2.name,.str a.2.s,.bool a.2.neg,.int .i64 a.2.e]),.p (.agg [.int .i64 n.2.kind,.int .i64 n.2.many,.str n.2.name,.str n.2.s,.bool n.2.neg,.int .i64 n.2.e])] [] (.p (.bool (Juu a n.2))) []:=by
 obtain ⟨a0,a5,hap⟩:=ha;have hC:=d_Cmp 1 (ndT n.2) (ndT a.2) (by rw [Jxl hn];simp) (J82 hn) (J82 hap) (by rw [Jxl hn];simp) (by rw [Jxl hap];simp);rw [J9t hn,J9t hap] at hC;have hcase:a.1=0∨a.1=1∨a.1=2∨a.1=3∨a.1=4∨a.1=5:=by omega
 rw [show Juu a n.2=J9v a.1 (cmpT (ndT n.2) (ndT a.2)) from rfl];generalize cmpT (ndT n.2) (ndT a.2)=c at hC ⊢;rcases hcase with h | h | h | h | h | h <;> rw [h]
 all_goals
  (refine bgo Tryz.func144 ?_;simp only [go_sem,simprocAttr]);(repeat' (first | ((refine Jqa (hC) ?_);simp only [go_sem,simprocAttr]) | fail))
  all_goals first
   | rfl
   | (simp [J9v];done)
   | (by_cases hc:c=0 <;> simp [J9v,hc])
theorem Kbs (a:Int×Node) (n:Node) (ha:Jrf a.1 a.2) (hn:Jqr n):Det cx 143 [.p (.agg [.int .i64 a.1,.int .i64 a.2.kind,.int .i64 a.2.many,.str a.2.name,.str a.2.s,.bool a.2.neg,.int .i64 a.2.e]),.ptr 1000 0 0] [(1000,.var 35 [.p (.int .i64 n.kind),.p (.int .i64 n.many),.p (.str n.name),.p (.str n.s),.p (.bool n.neg),.p (.int .i64 n.e)])] (.p (.bool (!Juu a n))) [(1000,.var 35 [.p (.int .i64 n.kind),.p (.int .i64 n.many),.p (.str n.name),.p (.str n.s),.p (.bool n.neg),.p (.int .i64 n.e)])]:=by
 have hH:=Ke6 a (0,n) ha hn;(refine bgo Tryz.func143 ?_;simp only [go_sem,simprocAttr]);(repeat' (first | ((refine Jqa (hH) ?_);simp only [go_sem,simprocAttr]) | fail))
def memF (l:List (Int×Node)) (n:Node) (i:Nat):Bool:=match l[i]? with
 | some a=>Juu a n
 | none=>true
theorem J5b {l:List (Int×Node)} {n:Node}:∀ {m:List (Int×Node)} {i:Nat},l.drop i=m→allF (memF l n) m.length i=m.all fun a=>Juu a n
 | [],i,_=>rfl
 | a :: m,i,h=>by
  have ha:l[i]? = some a:=by have:=congrArg (·[0]?) h;simpa using this
  rw [List.length_cons,allF,List.all_cons,memF,ha,J5b (m:=m) (i:=i+1) (by rw [← List.drop_drop,h];rfl)]
theorem J6p (l:List (Int×Node)) (n:Node) (hl:l.length≤1000000) (ha:∀ a∈l,Jrf a.1 a.2) (hn:Jqr n):Det cx 171 [.p (.sl (Jq9 l)),.fn 143 [1000]] [(1000,.var 35 [.p (.int .i64 n.kind),.p (.int .i64 n.many),.p (.str n.name),.p (.str n.s),.p (.bool n.neg),.p (.int .i64 n.e)])] (.p (.int .i64 (idxF (memF l n) l.length 0))) [(1000,.var 35 [.p (.int .i64 n.kind),.p (.int .i64 n.many),.p (.str n.name),.p (.str n.s),.p (.bool n.neg),.p (.int .i64 n.e)])]:=by
 (refine bgo Tryz.func171 ?_;simp only [go_sem,simprocAttr,Jqm]);refine SWP.loop (fun i:Nat=>⟨Ba 19 [(0,.p (.sl (Jq9 l))),(1,.fn 143 [1000]),(7,.p (.int .i64 l.length)),(8,.p (.int .i64 i))],[(1000,.var 35 [.p (.int .i64 n.kind),.p (.int .i64 n.many),.p (.str n.name),.p (.str n.s),.p (.bool n.neg),.p (.int .i64 n.e)])]⟩) (fun i=>i≤l.length∧idxF (memF l n) l.length 0=idxF (memF l n) (l.length - i) i) (fun i=>l.length - i) 0 Jqb ⟨Nat.zero_le _,rfl⟩ ?_;rintro i ⟨h2,h4⟩;by_cases hi:¬ i<l.length
 ·have c9:((i:Int)<(l.length:Int))=False:=eq_false omg;rw [show l.length - i=0 by omega,idxF] at h4;(refine lws ?_;simp only [go_sem,simprocAttr,c9]);rw [h4]
 ·have hi:=Decidable.not_not.1 hi;have c9:((i:Int)<(l.length:Int))=True:=eq_true omg;obtain ⟨a,hq⟩:∃ a,l[i]? = some a:=⟨_,List.getElem?_eq_getElem hi⟩
  obtain ⟨k,hk1⟩:∃ k,l.length - i=k+1:=⟨l.length - i - 1,by omega⟩
  have hg:=Jt9 hq;have hA:=Kbs a n (ha a (List.mem_of_getElem? hq)) hn;rw [hk1,idxF,show memF l n i=Juu a n by rw [memF,hq]] at h4;cases hb:Juu a n with
  | false =>
   rw [hb] at hA h4;(refine lws ?_;simp only [go_sem,simprocAttr,c9,hg]);(repeat' (first | ((refine Jqa (hA) ?_);simp only [go_sem,simprocAttr,Bool.not_false]) | fail));rw [h4];rfl
  | true =>
   rw [hb,if_pos rfl] at h4;rw [hb] at hA;(refine lws ?_;simp only [go_sem,simprocAttr,c9,hg,wj1 (i:=i) omg]);(repeat' (first | ((refine Jqa (hA) ?_);simp only [go_sem,simprocAttr,wj1 (i:=i) omg,Bool.not_true]) | fail));exact ⟨i+1,⟨by omega,by rw [h4,show l.length - (i+1)=k by omega]⟩,by omega,Jqb⟩
theorem J0p (l:List (Int×Node)) (n:Node) (hl:l.length≤1000000) (ha:∀ a∈l,Jrf a.1 a.2) (hn:Jqr n):Det cx 142 [.p (.sl (Jq9 l)),.fn 143 [1000]] [(1000,.var 35 [.p (.int .i64 n.kind),.p (.int .i64 n.many),.p (.str n.name),.p (.str n.s),.p (.bool n.neg),.p (.int .i64 n.e)])] (.p (.bool (!l.all fun a=>Juu a n))) [(1000,.var 35 [.p (.int .i64 n.kind),.p (.int .i64 n.many),.p (.str n.name),.p (.str n.s),.p (.bool n.neg),.p (.int .i64 n.e)])]:=by
 have hI:=J6p l n hl ha hn;(refine bgo Tryz.func142 ?_;simp only [go_sem,simprocAttr]);(repeat' (first | ((refine Jqa (hI) ?_);simp only [go_sem,simprocAttr]) | fail));rw [← J5b (l:=l) (m:=l) (i:=0) rfl,← J05]
theorem Keg:∀ (m:Fin 32) (k:Fin 5),decide (IntKind.i64.wrap ((BitVec.ofInt (B0 .i64) (((m.val:Int)).fdiv (2 ^ min k.val (B0 .i64))) &&& BitVec.ofInt (B0 .i64) 1).toNat:Int)=0) = !Jr0 m.val k.val:=by decide +kernel
theorem Kfg {m k:Int} (h0:0≤m) (hm':m≤31) (k0:0≤k) (k5:k<5):(IntKind.i64.wrap ((BitVec.ofInt (B0 .i64) (m.fdiv (2 ^ min k.toNat (B0 .i64))) &&& BitVec.ofInt (B0 .i64) 1).toNat:Int)=0) ↔ Jr0 m k=false:=by
 obtain ⟨a,rfl⟩:∃ a:Nat,m=a:=⟨m.toNat,by omega⟩
 obtain ⟨b,rfl⟩:∃ b:Nat,k=b:=⟨k.toNat,by omega⟩
 have:=Keg ⟨a,by omega⟩ ⟨b,by omega⟩;simp only [Int.toNat_natCast] at this ⊢;cases hl:Jr0 (a:Int) (b:Int) <;> rw [hl] at this <;> simpa using this
theorem Kc9 (mask:Int) (l:List (Int×Node)) (n:Node) (h0:0≤mask) (hmk:mask≤31) (hl:l.length≤1000000) (ha:∀ a∈l,Jrf a.1 a.2) (hn:n.kind<5→Jqr n) (hs:n.s.length≤1000000) (hk0:0≤n.kind):Det cx 116 [.p (.int .i64 mask),.p (.sl (Jq9 l)),.p (.agg [.int .i64 n.kind,.int .i64 n.many,.str n.name,.str n.s,.bool n.neg,.int .i64 n.e])] [] (.p (.bool (Jso mask l n))) []:=by
 have hP:=Kal n hn hs;by_cases hk:n.kind<5
 ·have hC:=J0p l n hl ha (hn hk);have hb:=Kfg h0 hmk hk0 hk;rw [decide_eq_true hk] at hP;have hmm:Jso mask l n=(Jr0 mask n.kind && l.all fun a=>Juu a n):=by
   unfold Jso;rw [decide_eq_true (hn hk),Bool.true_and]
  rw [hmm];(refine bgo Tryz.func116 ?_;simp only [go_sem,simprocAttr]);(repeat' (first | (apply iteI <;> intro h)|(refine Jqd ?_)|((first | (refine Jqa (hP) ?_)|(refine Jqa (hC) ?_));simp only [go_sem,simprocAttr]) | fail))
  ·rw [hb.1 h];rfl
  ·have:Jr0 mask n.kind=true:=by
    cases hl2:Jr0 mask n.kind with
    | true=>rfl
    | false=>exact absurd (hb.2 hl2) h
   rw [this,Bool.true_and,Bool.not_not]
 ·rw [decide_eq_false hk] at hP;have hno:Jso mask l n=false:=by
   unfold Jso;rw [decide_eq_false (fun h=>hk h.1)];rfl
  rw [hno];(refine bgo Tryz.func116 ?_;simp only [go_sem,simprocAttr]);(repeat' (first | ((refine Jqa (hP) ?_);simp only [go_sem,simprocAttr]) | fail))
theorem J6y {n:Node} (hk:n.kind<5):Jw [n]=decide (Jqr n):=by
 rw [Bool.eq_iff_iff,Iq,decide_eq_true_eq];constructor
 ·rintro ⟨t,ht,h⟩;cases t with
  | mk k s g e kids =>
   rw [A6] at h;have h1:=(List.cons.inj h).1;have h2:=(List.cons.inj h).2;cases kids with
   | nil =>
    subst h1;exact ⟨hk,rfl,(Lu.1 ht).1⟩
   | cons a b c =>
    rw [A0] at h2;have:=congrArg List.length h2;have hp:=Et b a;simp at this;omega
 ·intro h;exact ⟨ndT n,J82 h,(Jxl h).symm⟩
theorem J4v (n:Node) (hf:NodeFit n):Det cx 133 [.p (.agg [.int .i64 n.kind,.int .i64 n.many,.str n.name,.str n.s,.bool n.neg,.int .i64 n.e])] [] (.p (.bool (decide (Jqr n)))) []:=by
 by_cases hk:n.kind<5
 ·have hR:=Jp [n] sm (by intro x hx;simp at hx;subst hx;exact hf);rw [J6y hk,show valL [n]=[[.int .i64 n.kind,.int .i64 n.many,.str n.name,.str n.s,.bool n.neg,.int .i64 n.e]] from rfl] at hR;have c1:(n.kind<5)=True:=eq_true hk;(refine bgo Tryz.func133 ?_;simp only [go_sem,simprocAttr,c1,decide_true]);(repeat' (first | ((refine Jqa (hR) ?_);simp only [go_sem,simprocAttr]) | fail))
 ·have c1:(n.kind<5)=False:=eq_false hk;rw [decide_eq_false (fun h=>hk h.1)];(refine bgo Tryz.func133 ?_;simp only [go_sem,simprocAttr,c1,decide_false])
  skip
theorem Jx4 (s:List UInt8):(Je s).1.length≤20∧∀ x∈(Je s).1,Bc x:=by
 by_cases h:(Je s).2.2=0
 ·obtain ⟨_,h2,_⟩:=Jyf h;exact h2
 ·obtain ⟨_,h2,_⟩:=Kar h;rw [h2];exact ⟨by simp,by simp⟩
def keysL (s:List UInt8) (l:List KT):List (List PV):=l.map fun q=>[.sl (valL (keyV s q.2))]
theorem Jzi (v:List YRow) (i:Nat) (nm:List UInt8) (t:RT) (rest:List YRow) (hv:v.length≤1000000) (h:v.drop i=t.enc nm ++ rest):Det cx 69 [.p (.sl (rowL v)),.p (.int .i64 i)] [] (.p (.int .i64 (i+(t.enc nm).length:Nat))) []:=by
 (refine bgo Tryz.func69 ?_;simp only [go_sem,simprocAttr]);have hp:=Jrs t nm;have hb:=Jwl h (fun e=>by have e2:(t.enc nm ++ rest).length=0:=(by rw [e];rfl);rw [List.length_append] at e2;omega);rw [List.length_append] at hb;refine SWP.loop (fun x:Nat×Nat×RF=>⟨Ba 41 [(0,.p (.sl (rowL v))),(1,.p (.int .i64 x.1)),(5,.p (.int .i64 x.2.1))],[]⟩) (fun x=>x.2.1=x.2.2.len∧v.drop x.1=x.2.2.enc ++ rest∧x.1+x.2.2.enc.length=i+(t.enc nm).length) (fun x=>x.2.2.enc.length) (i,1,.cons nm t .nil) Jqb ⟨rfl,by simp [Jqe,Jq5,h],by simp [Jqe,Jq5]⟩ ?_;rintro ⟨j,left,F⟩ ⟨h0,h1,h2⟩;simp only at h0 h1 h2
 match F,h0,h1,h2 with
 | .nil,h0,h1,h2 =>
  rw [Jq5] at h2;simp only [RF.len] at h0;subst h0;have c0:((0:Int)<((0:Nat):Int))=False:=eq_false omg;(refine lws ?_;simp only [go_sem,simprocAttr]);simp only [List.length_nil] at h2;omega
 | .cons nm' (.mk k s g e kids) r,h0,h1,h2 =>
  rw [Jsd] at h0;rw [Jqe,Jqh] at h1 h2;have hg:=Jru h1;rw [Jq0] at hg;simp only [List.length_cons,List.length_append] at h2;have hl1:=Jqs kids;have hl2:=Jqs r;have w0:IntKind.i64.wrap ((left:Int) - 1)=(r.len:Int):=by rw [Aa omg omg];omega
  have w1:IntKind.i64.wrap ((r.len:Int)+(kids.len:Int))=((r.len+kids.len:Nat):Int):=by rw [Aa omg omg];omega
  (refine lws ?_;simp only [go_sem,simprocAttr,wj1 (i:=j) omg,hg,w0,w1,Jqc]);(repeat' (first | (apply iteI <;> intro h)|(exfalso;omega)))
  ·exact ⟨(j+1,r.len+kids.len,kids.app r),⟨by simp only [Jry];omega,by
    simp only [Jqk];rw [← List.drop_drop,h1];simp,by simp only [Jqk,List.length_append];omega⟩,by simp only [Jqk,Jqe,Jqh,List.length_append,List.length_cons];omega,Jqb⟩
theorem J7f (v:List YRow) (hv:v.length≤10000):Det cx 69 [.p (.sl (rowL v)),.p (.int .i64 0)] [] (.p (.int .i64 (Jtd v 0 1))) []:=by
 (refine bgo Tryz.func69 ?_;simp only [go_sem,simprocAttr]);refine SWP.loop (fun x:Nat×Nat=>⟨Ba 41 [(0,.p (.sl (rowL v))),(1,.p (.int .i64 x.1)),(5,.p (.int .i64 x.2))],[]⟩) (fun x=>x.1≤v.length∧x.2≤1+x.1 * 10000∧Jtd v x.1 x.2=Jtd v 0 1) (fun x=>v.length - x.1) (0,1) Jqb ⟨Nat.zero_le _,by simp,rfl⟩ ?_;rintro ⟨i,o⟩ ⟨h1,h2,h3⟩;simp only at h1 h2 h3;by_cases ho:o=0
 ·subst ho;rw [J7j] at h3;have c0:((0:Int)<((0:Nat):Int))=False:=eq_false omg;(refine lws ?_;simp only [go_sem,simprocAttr]);rw [h3]
 ·have c0:((0:Int)<(o:Int))=True:=eq_true omg;by_cases hi:¬ i<v.length
  ·have c1:((v.length:Int)≤(i:Int))=True:=eq_true omg;rw [Kbn omg omg] at h3;(refine lws ?_;simp only [go_sem,simprocAttr,Jqc,c0,c1]);rw [← h3]
  ·have hi:=Decidable.not_not.1 hi;have c1:((v.length:Int)≤(i:Int))=False:=eq_false omg;obtain ⟨n,hn⟩:∃ n,v[i]? = some n:=⟨_,List.getElem?_eq_getElem hi⟩
   have hg:=Jsr hn;by_cases hb:n.many<0∨(v.length:Int)<n.many
   ·rw [Kbd hn omg hb] at h3;by_cases hb1:n.many<0
    ·have c2:(n.many<0)=True:=eq_true hb1;(refine lws ?_;simp only [go_sem,simprocAttr,Jqc,c0,c1,c2,hg]);rw [← h3]
    ·have c2:(n.many<0)=False:=eq_false hb1;have c3:((v.length:Int)<n.many)=True:=eq_true omg;(refine lws ?_;simp only [go_sem,simprocAttr,Jqc,c0,c1,c2,c3,hg]);rw [← h3]
   ·have c2:(n.many<0)=False:=eq_false omg;have c3:((v.length:Int)<n.many)=False:=eq_false omg;obtain ⟨o',rfl⟩:∃ o',o=o'+1:=⟨o - 1,by omega⟩
    rw [J81 hn hb] at h3;have w1:IntKind.i64.wrap (((o'+1:Nat):Int) - 1)=(o':Int):=by rw [Aa omg omg];omega
    have w2:IntKind.i64.wrap ((o':Int)+n.many)=((o'+n.many.toNat:Nat):Int):=by rw [Aa omg omg];omega
    have w3:=wj1 (i:=i) omg;(refine lws ?_;simp only [go_sem,simprocAttr,Jqc,c0,c1,c2,c3,hg,w1,w2,w3]);exact ⟨(i+1,o'+n.many.toNat),⟨by simp only;omega,by simp only;omega,h3⟩,by simp only;omega,Jqb⟩
theorem J30 {v:List YRow} {j:Nat} {nm:List UInt8} {t:RT} {b:List YRow} (h:v.drop j=t.enc nm ++ b):∃ (k n:Int) (s:List UInt8) (g:Int) (e:Node),(rowL v)[j]? = some [.int .i64 k,.int .i64 n,.str nm,.str s,.int .i64 g,.int .i64 e.kind,.int .i64 e.many,.str e.name,.str e.s,.bool e.neg,.int .i64 e.e]:=by
 cases t with
 | mk k s g e kids =>
  rw [Jqh] at h;exact ⟨k,kids.len,s,g,e,Jru h⟩
theorem Jv4 (nm:List UInt8) (kd:Int) (s:List UInt8) (g:Int) (e:Node) (kids:RF) (hv:kids.enc.length≤999999) (hk1:kd≠1):Det cx 40 [.p (.sl (rowL ((RT.mk kd s g e kids).enc nm)))] [] (.p (.sl (Jra kids.list))) []:=by
 have hl:=Jqs kids;have hkl:=Jqo kids;generalize hvv:(RT.mk kd s g e kids).enc nm=v;have h0:v.drop 0=⟨kd,kids.len,nm,s,g,e⟩ :: kids.enc:=by rw [← hvv,Jqh];rfl
 have hg0:=Jru h0;rw [Jq0] at hg0;have hvl:v.length=kids.enc.length+1:=by rw [← hvv,Jqh];rfl
 have hk2:(kd=1)=False:=eq_false hk1;(refine bgo Tryz.func40 ?_;simp only [go_sem,simprocAttr]);refine Jqn (B1 [(9,44)] _ sm) ?_;simp only [go_sem,simprocAttr];refine SWP.loop (fun x:Nat×Nat×RF=>⟨Ba 47 [(0,.p (.sl (rowL v))),(3,.own 44 0 x.1),(4,.p (.int .i64 x.2.1)),(5,.p (.int .i64 x.1))],[(44,.row 40 1 (Jra (kids.list.take x.1)))]⟩) (fun x=>x.1+x.2.2.len=kids.len∧v.drop x.2.1=x.2.2.enc∧x.2.1+x.2.2.enc.length=v.length∧kids.list.drop x.1=x.2.2.list) (fun x=>x.2.2.enc.length) (0,1,kids) Jqb ⟨by simp,by rw [← hvv,Jqh];rfl,by simp only;omega,rfl⟩ ?_;rintro ⟨k,j,F⟩ ⟨h1,h2,h3,h4⟩;simp only at h1 h2 h3 h4 ⊢
 match F,h1,h2,h3,h4 with
 | .nil,h1,h2,h3,h4 =>
  simp only [RF.len] at h1;have hkk:k=kids.len:=by omega
  subst hkk;have hpl:(kids.len≤(Jra (kids.list.take kids.len)).length)=True:=eq_true (by rw [Jq3,List.length_take];omega);have htk:(Jra (kids.list.take kids.len)).take kids.len=Jra kids.list:=by
   rw [List.take_of_length_le (by rw [Jq3,List.length_take];omega),List.take_of_length_le omg]
  (refine lws ?_;simp only [go_sem,simprocAttr,hg0,hk2,not_false_eq_true,hpl,htk]);(repeat' (first | (apply iteI <;> intro h)|(exact True.intro)|(exfalso;omega)))
  skip
 | .cons nm' (.mk k' s' g' e' kids') r,h1,h2,h3,h4 =>
  rw [Jsd] at h1;rw [Jqe] at h2 h3;rw [List.length_append] at h3;have hkk:kids.list[k]? = some (nm',.mk k' s' g' e' kids'):=by
   have:=congrArg (·[0]?) h4;simpa [RF.list] using this
  have hpk:=Jy2 hkk;rw [Jqh,Jsk,Jq0] at hpk;have hpl:(Jra (kids.list.take k)).length=k:=by rw [Jq3,List.length_take];omega
  have hs:=Ju4 h2;have hel:((RT.mk k' s' g' e' kids').enc nm').length=kids'.enc.length+1:=by rw [Jqh];rfl
  have hs':((rowL v).drop j).take (j+((RT.mk k' s' g' e' kids').enc nm').length - j)=[.int .i64 k',.int .i64 kids'.len,.str nm',.str s',.int .i64 g',.int .i64 e'.kind,.int .i64 e'.many,.str e'.name,.str e'.s,.bool e'.neg,.int .i64 e'.e] :: rowL kids'.enc:=by
   rw [Nat.add_sub_cancel_left,hs,Jqh,Jsk,Jq0]
  have h6:∀ q∈[.int .i64 k',.int .i64 kids'.len,.str nm',.str s',.int .i64 g',.int .i64 e'.kind,.int .i64 e'.many,.str e'.name,.str e'.s,.bool e'.neg,.int .i64 e'.e] :: rowL kids'.enc,q.length=11:=fun q hq=>Jrx ((RT.mk k' s' g' e' kids').enc nm') q (by rw [Jqh];exact hq)
  have htk:(rowL kids'.enc).take kids'.enc.length=rowL kids'.enc:=List.take_of_length_le sm;(refine lws ?_;simp only [go_sem,simprocAttr,hg0,hk2,not_false_eq_true,wj1 (i:=k) omg,hpl,Nat.le_refl]);(repeat' (first | (refine And.intro (Jrx _) ?_)|(apply iteI <;> intro h)|(refine Jqd ?_)|((refine Jqa (Jzi v j nm' (.mk k' s' g' e' kids') r.enc omg h2) ?_);simp only [go_sem,simprocAttr,not_false_eq_true,wj1 (i:=k) omg,hs',htk,hpl,Jqc,Nat.le_refl])|(exfalso;omega)));refine ⟨by simp,by omega,by omega,(k+1,j+((RT.mk k' s' g' e' kids').enc nm').length,r),⟨by simp only;omega,by simp only;rw [← List.drop_drop,h2,List.drop_left],by simp only;omega,by simp only;rw [← List.drop_drop,h4];rfl⟩,by have:=Jrs (.mk k' s' g' e' kids') nm';simp only [Jqe,List.length_append];omega,?_⟩;simp only;rw [hpk];exact Jqb
def Jr6 (l:List (List UInt8×RT)):List (List PV):=l.map fun p=>[.str p.1]
@[simp] theorem tnameL_nil:Jr6 []=[]:=rfl
theorem Jxa (l:List (List UInt8×RT)):(Jr6 l).length=l.length:=by simp [Jr6]
theorem J5n {l:List (List UInt8×RT)} {k:Nat} {p:List UInt8×RT} (h:l[k]? = some p):Jr6 (l.take (k+1))=Jr6 (l.take k) ++ [[.str p.1]]:=by
 rw [List.take_add_one,h];simp [Jr6]
theorem Jvz (nm:List UInt8) (s:List UInt8) (g:Int) (e:Node) (kids:RF) (hv:kids.enc.length≤999999):Det cx 46 [.p (.sl (rowL ((RT.mk 2 s g e kids).enc nm)))] [] (.p (.sl (Jr6 kids.list))) []:=by
 have hl:=Jqs kids;have hkl:=Jqo kids;generalize hvv:(RT.mk 2 s g e kids).enc nm=v;have h0:v.drop 0=⟨2,kids.len,nm,s,g,e⟩ :: kids.enc:=by rw [← hvv,Jqh];rfl
 have hg0:=Jru h0;rw [Jq0] at hg0;have hvl:v.length=kids.enc.length+1:=by rw [← hvv,Jqh];rfl
 (refine bgo Tryz.func46 ?_;simp only [go_sem,simprocAttr]);refine Jqn (B1 [(6,29)] _ sm) ?_;simp only [go_sem,simprocAttr];refine SWP.loop (fun x:Nat×Nat×RF=>⟨Ba 34 [(0,.p (.sl (rowL v))),(3,.own 29 0 x.1),(4,.p (.int .i64 x.2.1)),(5,.p (.int .i64 x.1))],[(29,.row 9 1 (Jr6 (kids.list.take x.1)))]⟩) (fun x=>x.1+x.2.2.len=kids.len∧v.drop x.2.1=x.2.2.enc∧x.2.1+x.2.2.enc.length=v.length∧kids.list.drop x.1=x.2.2.list) (fun x=>x.2.2.enc.length) (0,1,kids) Jqb ⟨by simp,by rw [← hvv,Jqh];rfl,by simp only;omega,rfl⟩ ?_;rintro ⟨k,j,F⟩ ⟨h1,h2,h3,h4⟩;simp only at h1 h2 h3 h4 ⊢
 match F,h1,h2,h3,h4 with
 | .nil,h1,h2,h3,h4 =>
  simp only [RF.len] at h1;have hkk:k=kids.len:=by omega
  subst hkk;have hpl:(kids.len≤(Jr6 (kids.list.take kids.len)).length)=True:=eq_true (by rw [Jxa,List.length_take];omega);have htk:(Jr6 (kids.list.take kids.len)).take kids.len=Jr6 kids.list:=by
   rw [List.take_of_length_le (by rw [Jxa,List.length_take];omega),List.take_of_length_le omg]
  have c1:((kids.len:Int)<(kids.len:Int))=False:=eq_false omg;(refine lws ?_;simp only [go_sem,simprocAttr,hg0,hpl,htk,c1])
  skip
 | .cons nm' t' r,h1,h2,h3,h4 =>
  rw [Jsd] at h1;rw [Jqe] at h2 h3;rw [List.length_append] at h3;have hkk:kids.list[k]? = some (nm',t'):=by
   have:=congrArg (·[0]?) h4;simpa [RF.list] using this
  have hpk:=J5n hkk;have hpl:(Jr6 (kids.list.take k)).length=k:=by rw [Jxa,List.length_take];omega
  obtain ⟨k',n',s',g',e',hga⟩:=J30 (v:=v) (j:=j) (nm:=nm') (t:=t') (b:=r.enc) h2;have c1:((k:Int)<(kids.len:Int))=True:=eq_true omg;(refine lws ?_;simp only [go_sem,simprocAttr,hg0,wj1 (i:=k) omg,hga,hpl,c1]);refine ⟨by simp,by omega,by omega,?_⟩;(repeat' (first | ((refine Jqa (Jzi v j nm' t' r.enc omg h2) ?_);simp only [go_sem,simprocAttr,wj1 (i:=k) omg]) | fail));refine ⟨(k+1,j+(t'.enc nm').length,r),⟨by simp only;omega,by simp only;rw [← List.drop_drop,h2,List.drop_left],by simp only;omega,by simp only;rw [← List.drop_drop,h4];rfl⟩,by have:=Jrs t' nm';simp only [Jqe,List.length_append];omega,?_⟩;simp only;rw [hpk];exact Jqb
def placeR (rows:List RKT) (i:Nat):Nat:=1+((rows.take i).map fun p=>(p.2.enc p.1).length).sum
theorem J34 (a b:List UInt8):(Op.bytesLess a b || a == b) = !Op.bytesLess b a:=by
 cases h:Op.bytesLess b a with
 | true =>
  rw [L3 h];simp [Ne.symm (bl_ne h)]
 | false =>
  by_cases he:a=b
  ·simp [he]
  ·rw [Qf h (Ne.symm he)];rfl
def Jve (p:List Step):Bool:=p.all fun x=>!x.part
def fldB (p:List Step) (i:Nat):Bool:=match p[i]? with
 | some x=>!x.part
 | none=>true
theorem J0v {p:List Step}:∀ {m:List Step} {i:Nat},p.drop i=m→allF (fldB p) m.length i=Jve m
 | [],i,_=>rfl
 | x :: m,i,h=>by
  have hx:p[i]? = some x:=by have:=congrArg (·[0]?) h;simpa using this
  rw [List.length_cons,allF,fldB,hx,J0v (m:=m) (i:=i+1) (by rw [← List.drop_drop,h];rfl)];rfl
theorem J5m (p:List Step) (hp:p.length≤1000000):Det cx 106 [.p (.sl (Bb p))] [] (.p (.bool (Jve p))) []:=by
 rw [← J0v (p:=p) (m:=p) (i:=0) rfl];(refine bgo Tryz.func106 ?_;simp only [go_sem,simprocAttr]);refine SWP.loop (fun i:Nat=>⟨Ba 15 [(0,.p (.sl (Bb p))),(3,.p (.int .i64 i))],[]⟩) (fun i=>i≤p.length∧allF (fldB p) p.length 0=allF (fldB p) (p.length - i) i) (fun i=>p.length - i) 0 Jqb ⟨Nat.zero_le _,rfl⟩ ?_;rintro i ⟨h2,h4⟩;by_cases hi:¬ i<p.length
 ·have c9:((i:Int)<(p.length:Int))=False:=eq_false omg;rw [show p.length - i=0 by omega,allF] at h4;(refine lws ?_;simp only [go_sem,simprocAttr,Aq,c9]);rw [h4]
 ·have hi:=Decidable.not_not.1 hi;have c9:((i:Int)<(p.length:Int))=True:=eq_true omg;obtain ⟨x,hq⟩:∃ x,p[i]? = some x:=⟨_,List.getElem?_eq_getElem hi⟩
  obtain ⟨k,hk1⟩:∃ k,p.length - i=k+1:=⟨p.length - i - 1,by omega⟩
  have hg:=Dk hq;rw [hk1,allF,show fldB p i = !x.part by rw [fldB,hq]] at h4;cases hb:x.part with
  | true =>
   rw [hb] at h4 hg;(refine lws ?_;simp only [go_sem,simprocAttr,Aq,c9,hg]);rw [h4];rfl
  | false =>
   rw [hb,Bool.not_false,Bool.true_and] at h4;rw [hb] at hg;(refine lws ?_;simp only [go_sem,simprocAttr,Aq,c9,hg,wj1 (i:=i) omg]);exact ⟨i+1,⟨by omega,by rw [h4,show p.length - (i+1)=k by omega]⟩,by omega,Jqb⟩
theorem Jy1 (s:List UInt8) (hs:s.length≤1000000):Det cx 72 [.p (.str s)] [] (.tup [.sl (Bb (Je s).1),.bool (decide (fldS s))]) []:=by
 have hR:=Ka0 s hs;have hl:=(Jx4 s).1;have hF:=J5m (Je s).1 omg;by_cases h0:(Je s).2.2=0
 ·have c1:(((Je s).2.2:Int)=0)=True:=eq_true omg;have:decide (fldS s)=Jve (Je s).1:=by
   rw [Bool.eq_iff_iff,decide_eq_true_eq];unfold fldS Jve;simp [h0]
  rw [this];(refine bgo Tryz.func72 ?_;simp only [go_sem,simprocAttr]);(repeat' (first | ((first | (refine Jqa (hR) ?_)|(refine Jqa (hF) ?_));simp only [go_sem,simprocAttr,c1]) | fail))
 ·have c1:(((Je s).2.2:Int)=0)=False:=eq_false omg;have:decide (fldS s)=false:=decide_eq_false fun h=>h0 h.1
  rw [this];(refine bgo Tryz.func72 ?_;simp only [go_sem,simprocAttr]);(repeat' (first | ((refine Jqa (hR) ?_);simp only [go_sem,simprocAttr,c1]) | fail))
structure NodeFitC (n:Node):Prop where
 s:n.s.length≤1000000
 e0:-9223372036854775808≤n.e
 e1:n.e≤9223372036854775807
theorem Jxs (n:Node) (hnm:n.name≠[]):Det cx 102 [.p (.sl [[.int .i64 n.kind,.int .i64 n.many,.str n.name,.str n.s,.bool n.neg,.int .i64 n.e]])] [] (.p (.bool false)) []:=by
 have hg0:([[PV.int .i64 n.kind,PV.int .i64 n.many,PV.str n.name,PV.str n.s,PV.bool n.neg,PV.int .i64 n.e]]:List (List PV))[0]? = some [PV.int .i64 n.kind,PV.int .i64 n.many,PV.str n.name,PV.str n.s,PV.bool n.neg,PV.int .i64 n.e]:=rfl;have c2:(n.name=[])=False:=eq_false hnm;have hN:=Uv [n] sm;rw [show valL [n]=[[.int .i64 n.kind,.int .i64 n.many,.str n.name,.str n.s,.bool n.neg,.int .i64 n.e]] from rfl] at hN;(refine bgo Tryz.func102 ?_;simp only [go_sem,simprocAttr,hg0,c2,List.length_cons,List.length_nil])
 skip
theorem J2d (n:Node) (hf:NodeFitC n):Det cx 133 [.p (.agg [.int .i64 n.kind,.int .i64 n.many,.str n.name,.str n.s,.bool n.neg,.int .i64 n.e])] [] (.p (.bool (decide (Jqr n)))) []:=by
 by_cases hnm:n.name=[]
 ·exact J4v n ⟨hf.s,by rw [hnm];simp,hf.e0,hf.e1⟩
 ·rw [decide_eq_false (fun h=>hnm h.2.1)];have hR:=Jxs n hnm;by_cases hk:n.kind<5
  ·have c1:(n.kind<5)=True:=eq_true hk;(refine bgo Tryz.func133 ?_;simp only [go_sem,simprocAttr,c1,decide_true]);(repeat' (first | ((refine Jqa (hR) ?_);simp only [go_sem,simprocAttr]) | fail))
  ·have c1:(n.kind<5)=False:=eq_false hk;(refine bgo Tryz.func133 ?_;simp only [go_sem,simprocAttr,c1,decide_false])
   skip
theorem J4i (n:Int) (c:Node) (hf:NodeFitC c):Det cx 104 [.p (.agg [.int .i64 n,.int .i64 c.kind,.int .i64 c.many,.str c.name,.str c.s,.bool c.neg,.int .i64 c.e])] [] (.p (.bool (decide (Jrf n c)))) []:=by
 have hP:=J2d c hf;by_cases h0:0≤n
 ·by_cases h5:n≤5
  ·have c1:=eq_true h0;have c2:=eq_true h5;rw [show decide (Jrf n c)=decide (Jqr c) by rw [Bool.eq_iff_iff];simp [Jrf,h0,h5]];(refine bgo Tryz.func104 ?_;simp only [go_sem,simprocAttr,c1,c2,decide_true]);(repeat' (first | ((refine Jqa (hP) ?_);simp only [go_sem,simprocAttr]) | fail))
  ·have c1:=eq_true h0;have c2:=eq_false h5;rw [show decide (Jrf n c)=false from decide_eq_false fun h=>h5 h.2.1];(refine bgo Tryz.func104 ?_;simp only [go_sem,simprocAttr,c1,c2,decide_true,decide_false])
   skip
 ·have c1:=eq_false h0;rw [show decide (Jrf n c)=false from decide_eq_false fun h=>h0 h.1];(refine bgo Tryz.func104 ?_;simp only [go_sem,simprocAttr,c1,decide_false])
  skip
theorem Jrl {c:Node}:c=zeroN ↔ c.kind=0∧c.many=0∧c.name=[]∧c.s=[]∧c.neg=false∧c.e=0:=by
 rw [← Qo];rfl
theorem Kbj (k m:Int) (nm s:List UInt8) (n:Int) (c:Node) (hs:s.length≤1000000) (hf:NodeFitC c):Det cx 70 [.p (.agg [.int .i64 k,.int .i64 m,.str nm,.str s,.int .i64 n,.int .i64 c.kind,.int .i64 c.many,.str c.name,.str c.s,.bool c.neg,.int .i64 c.e])] [] (.p (.bool (decide (Jqv k s n c m)))) []:=by
 have hA:=J4i n c hf;have hP:=Jy1 s hs;by_cases k0:k=0
 ·subst k0;(refine bgo Tryz.func70 ?_;simp only [go_sem,simprocAttr]);(repeat' (apply iteI <;> intro h))
  all_goals (clear hA hP hf hs)
  all_goals (rw [Bool.eq_iff_iff])
  all_goals (simp only [Jqv,Jrl,decide_eq_true_eq,Int.reduceEq,if_true,if_false,true_or,or_true,or_false,false_or,or_self,ite_true,ite_false,reduceIte])
  all_goals (try simp_all)
  all_goals (try omega)
 ·by_cases k1:k=1
  ·subst k1;(refine bgo Tryz.func70 ?_;simp only [go_sem,simprocAttr]);(repeat' (apply iteI <;> intro h))
   all_goals (clear hA hP hf hs)
   all_goals (rw [Bool.eq_iff_iff])
   all_goals (simp only [Jqv,Jrl,decide_eq_true_eq,Int.reduceEq,if_true,if_false,true_or,or_true,or_false,false_or,or_self,ite_true,ite_false,reduceIte])
   all_goals (try simp_all)
   all_goals (try omega)
  ·by_cases k9:k=9
   ·subst k9;(refine bgo Tryz.func70 ?_;simp only [go_sem,simprocAttr]);(repeat' (first | (apply iteI <;> intro h)|((refine Jqa (hA) ?_);simp only [go_sem,simprocAttr]) | fail))
    all_goals (clear hA hP hf hs)
    all_goals (rw [Bool.eq_iff_iff])
    all_goals (simp only [Jqv,Jrl,decide_eq_true_eq,Int.reduceEq,if_true,if_false,true_or,or_true,or_false,false_or,or_self,ite_true,ite_false,reduceIte])
    all_goals (try simp_all)
    all_goals (try omega)
   ·by_cases k2:k=2
    ·subst k2;(refine bgo Tryz.func70 ?_;simp only [go_sem,simprocAttr]);(repeat' (apply iteI <;> intro h))
     all_goals (clear hA hP hf hs)
     all_goals (rw [Bool.eq_iff_iff])
     all_goals (simp only [Jqv,Jrl,decide_eq_true_eq,Int.reduceEq,if_true,if_false,true_or,or_true,or_false,false_or,or_self,ite_true,ite_false,reduceIte])
     all_goals (try simp_all)
     all_goals (try omega)
    ·by_cases k4:k=4
     ·subst k4;(refine bgo Tryz.func70 ?_;simp only [go_sem,simprocAttr]);(repeat' (apply iteI <;> intro h))
      all_goals (clear hA hP hf hs)
      all_goals (rw [Bool.eq_iff_iff])
      all_goals (simp only [Jqv,Jrl,decide_eq_true_eq,Int.reduceEq,if_true,if_false,true_or,or_true,or_false,false_or,or_self,ite_true,ite_false,reduceIte])
      all_goals (try simp_all)
      all_goals (try omega)
     ·by_cases k3:k=3
      ·subst k3;(refine bgo Tryz.func70 ?_;simp only [go_sem,simprocAttr]);(repeat' (apply iteI <;> intro h))
       all_goals (clear hA hP hf hs)
       all_goals (rw [Bool.eq_iff_iff])
       all_goals (simp only [Jqv,Jrl,decide_eq_true_eq,Int.reduceEq,if_true,if_false,true_or,or_true,or_false,false_or,or_self,ite_true,ite_false,reduceIte])
       all_goals (try simp_all)
       all_goals (try omega)
      ·by_cases k5:k=5
       ·subst k5;(refine bgo Tryz.func70 ?_;simp only [go_sem,simprocAttr]);(repeat' (apply iteI <;> intro h))
        all_goals (clear hA hP hf hs)
        all_goals (rw [Bool.eq_iff_iff])
        all_goals (simp only [Jqv,Jrl,decide_eq_true_eq,Int.reduceEq,if_true,if_false,true_or,or_true,or_false,false_or,or_self,ite_true,ite_false,reduceIte])
        all_goals (try simp_all)
        all_goals (try omega)
       ·by_cases k6:k=6
        ·subst k6;(refine bgo Tryz.func70 ?_;simp only [go_sem,simprocAttr]);(repeat' (apply iteI <;> intro h))
         all_goals (clear hA hP hf hs)
         all_goals (rw [Bool.eq_iff_iff])
         all_goals (simp only [Jqv,Jrl,decide_eq_true_eq,Int.reduceEq,if_true,if_false,true_or,or_true,or_false,false_or,or_self,ite_true,ite_false,reduceIte])
         all_goals (try simp_all)
         all_goals (try omega)
        ·by_cases k7:k=7
         ·subst k7;(refine bgo Tryz.func70 ?_;simp only [go_sem,simprocAttr]);(repeat' (first | (apply iteI <;> intro h)|((refine Jqa (hP) ?_);simp only [go_sem,simprocAttr]) | fail))
          all_goals (clear hA hP hf hs)
          all_goals (rw [Bool.eq_iff_iff])
          all_goals (simp only [Jqv,Jrl,decide_eq_true_eq,Int.reduceEq,if_true,if_false,true_or,or_true,or_false,false_or,or_self,ite_true,ite_false,reduceIte])
          all_goals (try simp_all)
          all_goals (try omega)
         ·by_cases k8:k=8
          ·subst k8;(refine bgo Tryz.func70 ?_;simp only [go_sem,simprocAttr]);(repeat' (first | (apply iteI <;> intro h)|((refine Jqa (hP) ?_);simp only [go_sem,simprocAttr]) | fail))
           all_goals (clear hA hP hf hs)
           all_goals (rw [Bool.eq_iff_iff])
           all_goals (simp only [Jqv,Jrl,decide_eq_true_eq,Int.reduceEq,if_true,if_false,true_or,or_true,or_false,false_or,or_self,ite_true,ite_false,reduceIte])
           all_goals (try simp_all)
           all_goals (try omega)
          ·have e0:=eq_false k0;have e1:=eq_false k1;have e9:=eq_false k9;have e2:=eq_false k2;have e4:=eq_false k4;have e3:=eq_false k3;have e5:=eq_false k5;have e6:=eq_false k6;have e7:=eq_false k7;have e8:=eq_false k8;rw [show decide (Jqv k s n c m)=false by simp [Jqv,k0,k1,k9,k2,k4,k3,k5,k6,k7,k8]];(refine bgo Tryz.func70 ?_;simp only [go_sem,simprocAttr,e0,e1,e9,e2,e4,e3,e5,e6,e7,e8])
           skip
open Classical in
noncomputable def J3n (k:Int) (l:List RKT):Bool:=decide (Jrq k l)
theorem J9m {k:Int} {l:List RKT} (h:Jrq k l):true=J3n k l:=by unfold J3n;exact (@decide_eq_true _ (Classical.propDecidable _) h).symm
theorem J9n {k:Int} {l:List RKT} (h:¬ Jrq k l):false=J3n k l:=by unfold J3n;exact (@decide_eq_false _ (Classical.propDecidable _) h).symm
def Jw9 (k:Int) (j:Nat) (last:List UInt8) (l:List RKT):Prop:=Jrq k l∧(k=2→j≠0→∀ q,l.head? = some q→Op.bytesLess last q.1=true)
theorem J8r (k:Int) (j:Nat) (last:List UInt8):Jw9 k j last []:=⟨Jv6 k,fun _ _ q h=>by cases h⟩
theorem J6u {k:Int} {j:Nat} {last:List UInt8} {p:RKT} {l:List RKT}:Jw9 k j last (p :: l) ↔ (Jvl k p∧(k=2→j≠0→Op.bytesLess last p.1=true))∧Jw9 k (j+1) p.1 l:=by
 unfold Jw9;rw [J4e];constructor
 ·rintro ⟨⟨h1,h2,h3⟩,h4⟩;exact ⟨⟨h1,fun hk hj=>h4 hk hj p rfl⟩,h3,fun hk _ q hq=>h2 hk q hq⟩
 ·rintro ⟨⟨h1,h2⟩,h3,h4⟩;exact ⟨⟨h1,fun hk q hq=>h4 hk omg q hq,h3⟩,fun hk hj q hq=>by cases hq;exact h2 hk hj⟩
theorem J1l {v:List YRow} {j:Nat} {nm:List UInt8} {t:RT} {b:List YRow} (h:v.drop j=t.enc nm ++ b):∃ (n:Int) (s:List UInt8) (g:Int) (e:Node),(rowL v)[j]? = some [.int .i64 t.kind,.int .i64 n,.str nm,.str s,.int .i64 g,.int .i64 e.kind,.int .i64 e.many,.str e.name,.str e.s,.bool e.neg,.int .i64 e.e]:=by
 cases t with
 | mk k s g e kids =>
  rw [Jqh] at h;exact ⟨kids.len,s,g,e,Jru h⟩
theorem Kbb (v:List YRow) (i:Nat) (nm:List UInt8) (k:Int) (s:List UInt8) (g:Int) (e:Node) (kids:RF) (rest:List YRow) (hv:v.length≤1000000) (h:v.drop i=(RT.mk k s g e kids).enc nm ++ rest) (hs:∀ n∈v,n.name.length≤1000000):Det cx 71 [.p (.sl (rowL v)),.p (.int .i64 i)] [] (.p (.bool (J3n k kids.list))) []:=by
 have hll:=Jqs kids;rw [Jqh] at h;have hg0:=Jru h;rw [Jq0] at hg0;have hb:=Jwl h sm;simp only [List.cons_append,List.length_cons,List.length_append] at hb;have w0:=wj1 (i:=i) omg;(refine bgo Tryz.func71 ?_;simp only [go_sem,simprocAttr,w0]);refine SWP.loop (fun x:Nat×Nat×RF×List UInt8=>⟨Ba 74 [(0,.p (.sl (rowL v))),(1,.p (.int .i64 i)),(5,.p (.int .i64 x.2.1)),(6,.p (.str x.2.2.2)),(7,.p (.int .i64 x.1))],[]⟩) (fun x=>x.1+x.2.2.1.len=kids.len∧v.drop x.2.1=x.2.2.1.enc ++ rest∧x.2.1+x.2.2.1.enc.length=i+1+kids.enc.length∧(Jrq k kids.list ↔ Jw9 k x.1 x.2.2.2 x.2.2.1.list)) (fun x=>x.2.2.1.enc.length) (0,i+1,kids,[]) Jqb ⟨by simp,by simp only;rw [← List.drop_drop,h];rfl,by simp only,⟨fun h=>⟨h,fun _ h=>absurd rfl h⟩,fun h=>h.1⟩⟩ ?_;rintro ⟨j,a,F,last⟩ ⟨h1,h2,h3,h4⟩;simp only at h1 h2 h3 h4
 match F,h1,h2,h3,h4 with
 | .nil,h1,h2,h3,h4 =>
  simp only [RF.len] at h1;have c1:((j:Int)<(kids.len:Int))=False:=eq_false omg;have hK:=h4.2 (J8r k j last);(refine lws ?_;simp only [go_sem,simprocAttr,hg0,c1]);exact J9m hK
 | .cons nm' t r,h1,h2,h3,h4 =>
  rw [Jsd] at h1;rw [Jqe] at h2 h3;have hp:=Jrs t nm';simp only [List.length_append] at h3;obtain ⟨n',s',g',e',hga⟩:=J1l (v:=v) (j:=a) (nm:=nm') (t:=t) (b:=r.enc ++ rest) (by rw [h2,List.append_assoc]);have c1:((j:Int)<(kids.len:Int))=True:=eq_true omg;rw [RF.list,J6u] at h4;simp only at h4;have w1:=wj1 (i:=j) omg;have hnl:nm'.length≤1000000:=by
   have hd2:v.drop a=t.enc nm' ++ (r.enc ++ rest):=by rw [h2,List.append_assoc]
   cases t with
   | mk k2 s2 g2 e2 kk2 =>
    rw [Jqh] at hd2;have hm:(⟨k2,kk2.len,nm',s2,g2,e2⟩:YRow)∈v.drop a:=by rw [hd2];exact List.mem_cons_self
    exact hs _ (List.mem_of_mem_drop hm)
  have hNx:=Jzi v a nm' t (r.enc ++ rest) hv (by rw [h2,List.append_assoc]);have hd:v.drop (a+(t.enc nm').length)=r.enc ++ rest:=by rw [← List.drop_drop,h2,List.append_assoc,List.drop_left]
  have hno:¬ (Jvl k (nm',t)∧(k=2→j≠0→Op.bytesLess last nm'=true))→false=J3n k kids.list:=fun hn=>J9n fun hk=>hn (h4.1 hk).1
  have hyes:(Jvl k (nm',t)∧(k=2→j≠0→Op.bytesLess last nm'=true))→(Jrq k kids.list ↔ Jw9 k (j+1) nm' r.list):=fun hy=>h4.trans ⟨fun h=>h.2,fun h=>⟨hy,h⟩⟩
  have hle:=J34 nm' last;have hU:=Cn nm' hnl;have hfin:Jvl k (nm',t)∧(k=2→j≠0→Op.bytesLess last nm'=true)→∃ y:Nat×Nat×RF×List UInt8,(y.1+y.2.2.1.len=kids.len∧v.drop y.2.1=y.2.2.1.enc ++ rest∧y.2.1+y.2.2.1.enc.length=i+1+kids.enc.length∧(Jrq k kids.list ↔ Jw9 k y.1 y.2.2.2 y.2.2.1.list))∧y.2.2.1.enc.length<(RF.cons nm' t r).enc.length∧y=(j+1,a+(t.enc nm').length,r,nm'):=fun hy =>
   ⟨(j+1,a+(t.enc nm').length,r,nm'),⟨by simp only;omega,hd,by simp only;omega,hyes hy⟩,by simp only [Jqe,List.length_append];omega,rfl⟩
  by_cases hk2:k=2
  ·subst hk2;by_cases ht9:t.kind=9
   ·have e9:(t.kind == 9)=true:=by rw [ht9];rfl
    have b1:((2:Int) == 1)=false:=rfl;(refine lws ?_;simp only [go_sem,simprocAttr,hg0,c1,hga,decide_true]);(repeat' (first | ((refine Jqp ?_);simp only [go_sem,simprocAttr,hg0,Bool.bne_false,e9,b1]) | fail))
    all_goals exact hno fun h=>by have:=h.1.1.1 ht9;omega
   ·have e9:(t.kind == 9)=false:=by simpa using ht9
    have b1:((2:Int) == 1)=false:=rfl;cases hva:valid nm' with
    | false =>
     rw [hva] at hU;(refine lws ?_;simp only [go_sem,simprocAttr,hg0,c1,hga,decide_true]);(repeat' (first | ((first | (refine Jqp ?_)|(refine Jqa (hU) ?_));simp only [go_sem,simprocAttr,hg0,Bool.not_false,bne_self_eq_false,e9,b1,Bool.not_false]) | fail))
     all_goals exact hno fun h=>by have:=h.1.2.2 rfl;simp only at this;rw [hva] at this;cases this
    | true =>
     rw [hva] at hU;by_cases hj0:j=0
     ·have c4:((0:Int)<(j:Int))=False:=eq_false omg;obtain ⟨y,p1,p2,rfl⟩:=hfin ⟨⟨⟨fun h=>absurd h ht9,fun h=>absurd h de⟩,fun h=>absurd rfl h,fun _=>hva⟩,fun _ h=>absurd hj0 h⟩;(refine lws ?_;simp only [go_sem,simprocAttr,hg0,c1,hga,decide_true]);(repeat' (first | ((first | (refine Jqp ?_)|(refine Jqa (hU) ?_)|(refine Jqa (hNx) ?_));simp only [go_sem,simprocAttr,hg0,decide_false,Bool.not_true,bne_self_eq_false,e9,b1,c4,w1,Bool.not_true]) | fail));exact ⟨_,p1,p2,Jqb⟩
     ·have c4:((0:Int)<(j:Int))=True:=eq_true omg;cases hbl:Op.bytesLess last nm' with
      | true =>
       rw [hbl,Bool.not_true] at hle;obtain ⟨y,p1,p2,rfl⟩:=hfin ⟨⟨⟨fun h=>absurd h ht9,fun h=>absurd h de⟩,fun h=>absurd rfl h,fun _=>hva⟩,fun _ _=>hbl⟩;(refine lws ?_;simp only [go_sem,simprocAttr,hg0,c1,hga,decide_true]);(repeat' (first | ((first | (refine Jqp ?_)|(refine Jqa (hU) ?_)|(refine Jqa (hNx) ?_));simp only [go_sem,simprocAttr,hg0,decide_true,Bool.not_true,bne_self_eq_false,e9,b1,c4,hle,w1,Bool.not_true]) | fail));exact ⟨_,p1,p2,Jqb⟩
      | false =>
       rw [hbl,Bool.not_false] at hle;(refine lws ?_;simp only [go_sem,simprocAttr,hg0,c1,hga,decide_true]);(repeat' (first | ((first | (refine Jqp ?_)|(refine Jqa (hU) ?_));simp only [go_sem,simprocAttr,hg0,decide_true,Bool.not_true,bne_self_eq_false,e9,b1,c4,hle,Bool.not_true]) | fail))
       all_goals exact hno fun h=>by have:=h.2 rfl hj0;rw [hbl] at this;cases this
  ·have e2:=eq_false hk2;by_cases hkd:(t.kind=9 ↔ k=1)
   ·by_cases hnm:nm'=[]
    ·have en:=eq_true hnm;obtain ⟨y,p1,p2,rfl⟩:=hfin ⟨⟨hkd,fun _=>hnm,fun h=>absurd h hk2⟩,fun h=>absurd h hk2⟩;by_cases hk1:k=1
     ·have e1:=eq_true hk1;have b1:(k == 1)=true:=by rw [hk1];rfl
      have e9:(t.kind == 9)=true:=by rw [hkd.2 hk1];rfl
      (refine lws ?_;simp only [go_sem,simprocAttr,hg0,c1,hga,decide_true]);(repeat' (first | ((first | (refine Jqp ?_)|(refine Jqa (hNx) ?_));simp only [go_sem,simprocAttr,hg0,Bool.not_true,bne_self_eq_false,e2,e9,b1,en,w1]) | fail));exact ⟨_,p1,p2,Jqb⟩
     ·have e1:=eq_false hk1;have b1:(k == 1)=false:=by simpa using hk1
      have e9:(t.kind == 9)=false:=by simpa using (fun h=>hk1 (hkd.1 h))
      (refine lws ?_;simp only [go_sem,simprocAttr,hg0,c1,hga,decide_true]);(repeat' (first | ((first | (refine Jqp ?_)|(refine Jqa (hNx) ?_));simp only [go_sem,simprocAttr,hg0,Bool.not_true,bne_self_eq_false,e2,e9,b1,en,w1]) | fail));exact ⟨_,p1,p2,Jqb⟩
    ·have en:=eq_false hnm;by_cases hk1:k=1
     ·have e1:=eq_true hk1;have b1:(k == 1)=true:=by rw [hk1];rfl
      have e9:(t.kind == 9)=true:=by rw [hkd.2 hk1];rfl
      (refine lws ?_;simp only [go_sem,simprocAttr,hg0,c1,hga,decide_true]);(repeat' (first | ((refine Jqp ?_);simp only [go_sem,simprocAttr,hg0,Bool.not_true,bne_self_eq_false,e2,e9,b1,en]) | fail))
      all_goals exact hno fun h=>hnm (h.1.2.1 hk2)
     ·have e1:=eq_false hk1;have b1:(k == 1)=false:=by simpa using hk1
      have e9:(t.kind == 9)=false:=by simpa using (fun h=>hk1 (hkd.1 h))
      (refine lws ?_;simp only [go_sem,simprocAttr,hg0,c1,hga,decide_true]);(repeat' (first | ((refine Jqp ?_);simp only [go_sem,simprocAttr,hg0,Bool.not_true,bne_self_eq_false,e2,e9,b1,en]) | fail))
      all_goals exact hno fun h=>hnm (h.1.2.1 hk2)
   ·by_cases hk1:k=1
    ·have e1:=eq_true hk1;have b1:(k == 1)=true:=by rw [hk1];rfl
     have e9:(t.kind == 9)=false:=by simpa using (fun h:t.kind=9=>hkd ⟨fun _=>hk1,fun _=>h⟩)
     (refine lws ?_;simp only [go_sem,simprocAttr,hg0,c1,hga,decide_true]);(repeat' (first | ((refine Jqp ?_);simp only [go_sem,simprocAttr,hg0,Bool.bne_true,Bool.not_false,e9,b1]) | fail))
     all_goals exact hno fun h=>hkd h.1.1
    ·have e1:=eq_false hk1;have b1:(k == 1)=false:=by simpa using hk1
     have e9:(t.kind == 9)=true:=beq_iff_eq.2 (show t.kind=9 from Decidable.not_not.1 fun h:¬ t.kind=9=>hkd ⟨fun a=>absurd a h,fun a=>absurd a hk1⟩);(refine lws ?_;simp only [go_sem,simprocAttr,hg0,c1,hga,decide_true]);(repeat' (first | ((refine Jqp ?_);simp only [go_sem,simprocAttr,hg0,Bool.bne_false,e9,b1]) | fail))
     all_goals exact hno fun h=>hkd h.1.1
end Go.LX
