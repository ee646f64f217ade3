/- Membership: values without parts, the program's side. -/
import Derived.Test.YtpdaccjebbbbaaaGreatDoorLxU
import Derived.Test.YtpdaccjebbbbaaaGreatDoorLxP
import Derived.Test.YtpdaccjebbbbaaaGreatDoorLxS
import Derived.Test.YtpdaccjebbbbaaaGreatDoorLxT
import Derived.Test.YtpdaccjebbbbaaaGreatDoorLxO
set_option linter.unusedSimpArgs false
set_option linter.unusedVariables false
set_option linter.unusedSectionVars false
set_option linter.unnecessarySimpa false
set_option maxRecDepth 100000
set_option maxHeartbeats 2000000
namespace Go.LX
open Go Go.RowKit Go.Proofs
attribute [local irreducible] Al SWP Bi
theorem J5s {k:Int} {s:List UInt8} {g:Bool} {e m:Int} (h:G3 k s g e m) (hk:k<5):k=0∨k=1∨k=2∨k=3∨k=4:=by
 unfold G3 at h;split at h
 ·omega
 ·split at h
  ·omega
  ·split at h
   ·omega
   ·split at h
    ·omega
    ·exact h.elim
theorem J29 {s:List UInt8} {g:Bool} {e:Int} (h:Yz s g e):Jrn ⟨3,0,[],s,g,e⟩=true:=(Jza _).2 (J0b h)
theorem J89 (k:Int) (s:List UInt8) (g:Bool) (e:Int) (h:G3 k s g e 0) (hk:k<5) (hs:s.length≤1000000):Det cx 116 [.p (.agg [.int .i64 k,.int .i64 0,.str [],.str s,.bool g,.int .i64 e])] [] (.p (.bool true)) []:=by
 rcases J5s h hk with rfl | rfl | rfl | rfl | rfl
 ·obtain ⟨rfl,rfl,rfl⟩:s=[]∧g=false∧e=0:=by simpa [G3] using h
  (refine bgo Tryz.func116 ?_;simp only [go_sem,simprocAttr])
  all_goals (first | rfl | simp)
 ·obtain ⟨rfl,rfl,rfl⟩:s=[]∧g=false∧e=0:=by simpa [G3] using h
  (refine bgo Tryz.func116 ?_;simp only [go_sem,simprocAttr])
  all_goals (first | rfl | simp)
 ·obtain ⟨rfl,rfl,rfl⟩:s=[]∧g=false∧e=0:=by simpa [G3] using h
  (refine bgo Tryz.func116 ?_;simp only [go_sem,simprocAttr])
  all_goals (first | rfl | simp)
 ·have hn:=J1v h rfl;have hR:=Jy4 ⟨3,0,[],s,g,e⟩ hs;rw [J29 hn,Jst] at hR;(refine bgo Tryz.func116 ?_;simp only [go_sem,simprocAttr]);(repeat' (first | ((refine Jqa (hR) ?_);simp only [go_sem,simprocAttr]) | fail))
  all_goals (first | rfl | simp)
 ·obtain ⟨hv,rfl,rfl⟩:valid s=true∧g=false∧e=0:=by simpa [G3] using h
  have hV:=Fi s omg;rw [hv] at hV;(refine bgo Tryz.func116 ?_;simp only [go_sem,simprocAttr]);(repeat' (first | ((refine Jqa (hV) ?_);simp only [go_sem,simprocAttr]) | fail))
  all_goals (first | rfl | simp)
def stk2 (k:Int):List (List PV):=[[.int .i64 5,.int .i64 0,.bool false,.str []],[.int .i64 k,.int .i64 0,.bool true,.str []]]
theorem Jy6 (a:Int) (b:Bool) (c:List UInt8):Det cx 118 [.p (.agg [.int .i64 a,.int .i64 0,.bool b,.str c])] [] (.p (.bool false)) []:=by
 (refine bgo Tryz.func118 ?_;simp only [go_sem,simprocAttr])
 skip
theorem J31 (k:Int):Det cx 150 [.p (.sl (stk2 k)),.fn 118 []] [] (.p (.int .i64 (-1))) []:=by
 have hl2:(stk2 k).length=2:=rfl;(refine bgo Tryz.func150 ?_;simp only [go_sem,simprocAttr,hl2]);refine SWP.loop (fun i:Nat=>⟨Ba 19 [(0,.p (.sl (stk2 k))),(1,.fn 118 []),(7,.p (.int .i64 2)),(8,.p (.int .i64 i))],[]⟩) (fun i=>i≤2) (fun i=>2 - i) 0 Jqc (Nat.zero_le _) ?_;rintro i hi;have hcase:i=0∨i=1∨i=2:=by omega
 rcases hcase with rfl | rfl | rfl
 ·have h0:(stk2 k)[0]? = some [.int .i64 5,.int .i64 0,.bool false,.str []]:=rfl;have w0:IntKind.i64.wrap 1=1:=by decide
  (refine lws ?_;simp only [go_sem,simprocAttr,h0]);(repeat' (first | ((refine Jqa (Jy6 _ _ _) ?_);simp only [go_sem,simprocAttr,w0]) | fail));exact ⟨1,by omega,by omega,Jqc⟩
 ·have h0:(stk2 k)[1]? = some [.int .i64 k,.int .i64 0,.bool true,.str []]:=rfl;have w0:IntKind.i64.wrap (1+1)=2:=by decide
  have w1:IntKind.i64.wrap 2=2:=by decide
  (refine lws ?_;simp only [go_sem,simprocAttr,h0]);(repeat' (first | ((refine Jqa (Jy6 _ _ _) ?_);simp only [go_sem,simprocAttr,w1]) | fail));exact ⟨2,by omega,by omega,Jqc⟩
 ·(refine lws ?_;simp only [go_sem,simprocAttr])
  skip
theorem Jyi (k:Int):Det cx 117 [.p (.sl (stk2 k)),.fn 118 []] [] (.p (.bool false)) []:=by
 (refine bgo Tryz.func117 ?_;simp only [go_sem,simprocAttr]);(repeat' (first | ((refine Jqa (J31 k) ?_);simp only [go_sem,simprocAttr]) | fail))
theorem Jz7 (k:Int) (s:List UInt8) (g:Bool) (e:Int) (h:G3 k s g e 0) (hk:k<5) (hs:s.length≤1000000):Det cx 94 [.p (.sl [[.int .i64 k,.int .i64 0,.str [],.str s,.bool g,.int .i64 e]])] [] (.p (.bool true)) []:=by
 have hP:=J89 k s g e h hk hs;have hC:=Jyi k;(refine bgo Tryz.func94 ?_;simp only [go_sem,simprocAttr]);refine SWP.loop (fun i:Nat=>if i=0 then ⟨Ba 123 [(0,.p (.sl [[.int .i64 k,.int .i64 0,.str [],.str s,.bool g,.int .i64 e]])),(3,.own 9 0 1),(10,.p (.sl [[.int .i64 k,.int .i64 0,.str [],.str s,.bool g,.int .i64 e]])),(11,.p (.int .i64 1)),(12,.p (.int .i64 0))],[(9,.row 158 4 [[.int .i64 5,.int .i64 1,.bool false,.str []]])]⟩ else ⟨Ba 123 [(0,.p (.sl [[.int .i64 k,.int .i64 0,.str [],.str s,.bool g,.int .i64 e]])),(3,.own 113 0 2),(11,.p (.int .i64 1)),(12,.p (.int .i64 1))],[(113,.row 158 4 (stk2 k))]⟩) (fun i=>i≤1) (fun i=>1 - i) 0 (by rw [if_pos rfl];exact Jqc) (Nat.zero_le _) ?_;rintro i hi;have hcase:i=0∨i=1:=by omega
 rcases hcase with rfl | rfl
 ·rw [if_pos rfl];(refine lws ?_;simp only [go_sem,simprocAttr]);refine SWP.loop (fun _:Unit=>⟨Ba 123 [(0,.p (.sl [[.int .i64 k,.int .i64 0,.str [],.str s,.bool g,.int .i64 e]])),(3,.own 9 0 1),(5,.ptr 5 0 0),(10,.p (.sl [[.int .i64 k,.int .i64 0,.str [],.str s,.bool g,.int .i64 e]])),(11,.p (.int .i64 1)),(12,.p (.int .i64 0))],[(5,.var 23 [.p (.int .i64 k),.p (.int .i64 0),.p (.str []),.p (.str s),.p (.bool g),.p (.int .i64 e)]),(9,.row 158 4 [[.int .i64 5,.int .i64 1,.bool false,.str []]])]⟩) (fun _=>True) (fun _=>0) () Jqc trivial ?_;rintro _ _;have e1:((1:Nat):Int)=1:=rfl;have e2:((2:Nat):Int)=2:=rfl;have w0:IntKind.i64.wrap 0=0:=by decide
  have w1:IntKind.i64.wrap 1=1:=by decide
  have hk6:(k=6)=False:=eq_false omg;(refine lws ?_;simp only [go_sem,simprocAttr,e1,w0]);(repeat' (first | ((first | (refine Jql ?_)|(refine Jqa (hP) ?_));simp only [go_sem,simprocAttr,e1,w0,decide_false,Bool.not_false,Bool.not_true]) | fail));refine J9s 6 [0,4,5] (.node 1 (.node 2 (.node 3 (.node 6 (.node 7 (.node 8 (.node 9 .leaf .nil) .nil) .nil) .nil) (.node 6 (.node 3 (.node 7 (.node 8 (.node 9 .leaf .nil) .nil) .nil) .nil) .nil)) (.node 6 (.node 2 (.node 3 (.node 7 (.node 8 (.node 9 .leaf .nil) .nil) .nil) .nil) .nil) .nil)) (.node 2 (.node 1 (.node 3 (.node 6 (.node 7 (.node 8 (.node 9 .leaf .nil) .nil) .nil) .nil) (.node 6 (.node 3 (.node 7 (.node 8 (.node 9 .leaf .nil) .nil) .nil) .nil) .nil)) (.node 3 (.node 1 (.node 6 (.node 7 (.node 8 (.node 9 .leaf .nil) .nil) .nil) .nil) (.node 6 (.node 1 (.node 7 (.node 8 (.node 9 .leaf .nil) .nil) .nil) .nil) .nil)) (.node 6 (.node 1 (.node 3 (.node 7 (.node 8 (.node 9 .leaf .nil) .nil) .nil) .nil) (.node 3 (.node 1 (.node 7 (.node 8 (.node 9 .leaf .nil) .nil) .nil) .nil) .nil)) .nil))) (.node 6 (.node 1 (.node 2 (.node 3 (.node 7 (.node 8 (.node 9 .leaf .nil) .nil) .nil) .nil) .nil) (.node 2 (.node 1 (.node 3 (.node 7 (.node 8 (.node 9 .leaf .nil) .nil) .nil) .nil) (.node 3 (.node 1 (.node 7 (.node 8 (.node 9 .leaf .nil) .nil) .nil) .nil) .nil)) .nil)) .nil))) 7 hm rfl krf krf ?_;simp only [go_sem,simprocAttr,w1];(repeat' (refine And.intro ?_ ?_))
  all_goals first
   | (intro q hq;simp at hq;rw [hq];rfl)
   | (
    refine ⟨1,by omega,by omega,?_⟩;rw [if_neg de];unfold stk2;exact Jqc)
 ·rw [if_neg de];have hl2:(stk2 k).length=2:=rfl;have ht2:(stk2 k).take 2=stk2 k:=rfl;have hle:(2≤2)=True:=eq_true (Nat.le_refl 2);(refine lws ?_;simp only [go_sem,simprocAttr,hl2,ht2,hle]);(repeat' (first | ((refine Jqa (hC) ?_);simp only [go_sem,simprocAttr]) | fail))
theorem Jsw {n:Node} (h:Jqk n):n.many=0:=by
 obtain ⟨hk,_,h⟩:=h;unfold G3 at h;split at h
 ·exact h.1
 ·split at h
  ·exact h.1
  ·split at h
   ·exact h.2.1
   ·split at h
    ·omega
    ·exact h.elim
theorem J78 (n:Node) (h:n.kind<5→Jqk n) (hs:n.s.length≤1000000):Det cx 64 [.p (.agg [.int .i64 n.kind,.int .i64 n.many,.str n.name,.str n.s,.bool n.neg,.int .i64 n.e])] [] (.p (.bool (decide (n.kind<5)))) []:=by
 by_cases hk:n.kind<5
 ·have hp:=h hk;have hmz:=Jsw hp;obtain ⟨_,hn,ho⟩:=hp;rw [hmz] at ho;have hR:=Jz7 n.kind n.s n.neg n.e ho hk hs;have c1:(n.kind<5)=True:=eq_true hk;rw [hmz,hn];(refine bgo Tryz.func64 ?_;simp only [go_sem,simprocAttr,c1,decide_true]);(repeat' (first | ((refine Jqa (hR) ?_);simp only [go_sem,simprocAttr]) | fail))
  all_goals (first | rfl | simp [hk])
 ·have c1:(n.kind<5)=False:=eq_false hk;(refine bgo Tryz.func64 ?_;simp only [go_sem,simprocAttr,c1,decide_false])
  all_goals (first | rfl | simp [hk])
theorem J5m {n:Node} (h:Jqk n):okT (ndT n):=by
 have hm:=Jsw h;obtain ⟨hk,hn,ho⟩:=h;rw [hm] at ho;exact Lu.2 ⟨ho,Sb _,I6⟩
theorem Jwe {n:Node} (h:Jqk n):(ndT n).enc []=[n]:=by
 have hm:=Jsw h;obtain ⟨hk,hn,ho⟩:=h;rw [ndT,A6,Bl];cases n;simp only at hm hn;subst hm;subst hn;rfl
theorem J55 {n:Node} (h:Jqk n):valL ((ndT n).enc [])=[[.int .i64 n.kind,.int .i64 n.many,.str n.name,.str n.s,.bool n.neg,.int .i64 n.e]]:=by rw [Jwe h];rfl
theorem Kal (a n:Int×Node) (ha:Jrg a.1 a.2) (hn:Jqk n.2):Det cx 67 [.p (.agg [.int .i64 a.1,.int .i64 a.2.kind,.int .i64 a.2.many,.str a.2.name,.str a.2.s,.bool a.2.neg,.int .i64 a.2.e]),.p (.agg [.int .i64 n.2.kind,.int .i64 n.2.many,.str n.2.name,.str n.2.s,.bool n.2.neg,.int .i64 n.2.e])] [] (.p (.bool (Jts a n.2))) []:=by
 obtain ⟨a0,a5,hap⟩:=ha;have hC:=d_Cmp 1 (ndT n.2) (ndT a.2) (by rw [Jwe hn];simp) (J5m hn) (J5m hap) (by rw [Jwe hn];simp) (by rw [Jwe hap];simp);rw [J55 hn,J55 hap] at hC;have hcase:a.1=0∨a.1=1∨a.1=2∨a.1=3∨a.1=4∨a.1=5:=by omega
 rw [show Jts a n.2=J6d a.1 (cmpT (ndT n.2) (ndT a.2)) from rfl];generalize cmpT (ndT n.2) (ndT a.2)=c at hC ⊢;rcases hcase with h | h | h | h | h | h <;> rw [h]
 all_goals
  (refine bgo Tryz.func67 ?_;simp only [go_sem,simprocAttr]);(repeat' (first | ((refine Jqa (hC) ?_);simp only [go_sem,simprocAttr]) | fail))
  all_goals first
   | rfl
   | (simp [J6d];done)
   | (by_cases hc:c=0 <;> simp [J6d,hc])
theorem J6u (a:Int×Node) (n:Node) (ha:Jrg a.1 a.2) (hn:Jqk n):Det cx 66 [.p (.agg [.int .i64 a.1,.int .i64 a.2.kind,.int .i64 a.2.many,.str a.2.name,.str a.2.s,.bool a.2.neg,.int .i64 a.2.e]),.ptr 1000 0 0] [(1000,.var 23 [.p (.int .i64 n.kind),.p (.int .i64 n.many),.p (.str n.name),.p (.str n.s),.p (.bool n.neg),.p (.int .i64 n.e)])] (.p (.bool (!Jts a n))) [(1000,.var 23 [.p (.int .i64 n.kind),.p (.int .i64 n.many),.p (.str n.name),.p (.str n.s),.p (.bool n.neg),.p (.int .i64 n.e)])]:=by
 have hH:=Kal a (0,n) ha hn;(refine bgo Tryz.func66 ?_;simp only [go_sem,simprocAttr]);(repeat' (first | ((refine Jqa (hH) ?_);simp only [go_sem,simprocAttr]) | fail))
def memF (l:List (Int×Node)) (n:Node) (i:Nat):Bool:=match l[i]? with
 | some a=>Jts a n
 | none=>true
theorem J28 {l:List (Int×Node)} {n:Node}:∀ {m:List (Int×Node)} {i:Nat},l.drop i=m→allF (memF l n) m.length i=m.all fun a=>Jts a n
 | [],i,_=>rfl
 | a :: m,i,h=>by
  have ha:l[i]? = some a:=by have:=congrArg (·[0]?) h;simpa using this
  rw [List.length_cons,allF,List.all_cons,memF,ha,J28 (m:=m) (i:=i+1) (by rw [← List.drop_drop,h];rfl)]
theorem J2o (l:List (Int×Node)) (n:Node) (hl:l.length≤1000000) (ha:∀ a∈l,Jrg a.1 a.2) (hn:Jqk n):Det cx 95 [.p (.sl (Jq8 l)),.fn 66 [1000]] [(1000,.var 23 [.p (.int .i64 n.kind),.p (.int .i64 n.many),.p (.str n.name),.p (.str n.s),.p (.bool n.neg),.p (.int .i64 n.e)])] (.p (.int .i64 (idxF (memF l n) l.length 0))) [(1000,.var 23 [.p (.int .i64 n.kind),.p (.int .i64 n.many),.p (.str n.name),.p (.str n.s),.p (.bool n.neg),.p (.int .i64 n.e)])]:=by
 (refine bgo Tryz.func95 ?_;simp only [go_sem,simprocAttr,Jr7]);refine SWP.loop (fun i:Nat=>⟨Ba 19 [(0,.p (.sl (Jq8 l))),(1,.fn 66 [1000]),(7,.p (.int .i64 l.length)),(8,.p (.int .i64 i))],[(1000,.var 23 [.p (.int .i64 n.kind),.p (.int .i64 n.many),.p (.str n.name),.p (.str n.s),.p (.bool n.neg),.p (.int .i64 n.e)])]⟩) (fun i=>i≤l.length∧idxF (memF l n) l.length 0=idxF (memF l n) (l.length - i) i) (fun i=>l.length - i) 0 Jqc ⟨Nat.zero_le _,rfl⟩ ?_;rintro i ⟨h2,h4⟩;by_cases hi:¬ i<l.length
 ·have c9:((i:Int)<(l.length:Int))=False:=eq_false omg;rw [show l.length - i=0 by omega,idxF] at h4;(refine lws ?_;simp only [go_sem,simprocAttr,c9]);rw [h4]
 ·have hi:=Decidable.not_not.1 hi;have c9:((i:Int)<(l.length:Int))=True:=eq_true omg;obtain ⟨a,hq⟩:∃ a,l[i]? = some a:=⟨_,List.getElem?_eq_getElem hi⟩
  obtain ⟨k,hk1⟩:∃ k,l.length - i=k+1:=⟨l.length - i - 1,by omega⟩
  have hg:=Jva hq;have hA:=J6u a n (ha a (List.mem_of_getElem? hq)) hn;rw [hk1,idxF,show memF l n i=Jts a n by rw [memF,hq]] at h4;cases hb:Jts a n with
  | false =>
   rw [hb] at hA h4;(refine lws ?_;simp only [go_sem,simprocAttr,c9,hg]);(repeat' (first | ((refine Jqa (hA) ?_);simp only [go_sem,simprocAttr,Bool.not_false]) | fail));rw [h4];rfl
  | true =>
   rw [hb,if_pos rfl] at h4;rw [hb] at hA;(refine lws ?_;simp only [go_sem,simprocAttr,c9,hg,wj1 (i:=i) omg]);(repeat' (first | ((refine Jqa (hA) ?_);simp only [go_sem,simprocAttr,wj1 (i:=i) omg,Bool.not_true]) | fail));exact ⟨i+1,⟨by omega,by rw [h4,show l.length - (i+1)=k by omega]⟩,by omega,Jqc⟩
theorem Jyz (l:List (Int×Node)) (n:Node) (hl:l.length≤1000000) (ha:∀ a∈l,Jrg a.1 a.2) (hn:Jqk n):Det cx 65 [.p (.sl (Jq8 l)),.fn 66 [1000]] [(1000,.var 23 [.p (.int .i64 n.kind),.p (.int .i64 n.many),.p (.str n.name),.p (.str n.s),.p (.bool n.neg),.p (.int .i64 n.e)])] (.p (.bool (!l.all fun a=>Jts a n))) [(1000,.var 23 [.p (.int .i64 n.kind),.p (.int .i64 n.many),.p (.str n.name),.p (.str n.s),.p (.bool n.neg),.p (.int .i64 n.e)])]:=by
 have hI:=J2o l n hl ha hn;(refine bgo Tryz.func65 ?_;simp only [go_sem,simprocAttr]);(repeat' (first | ((refine Jqa (hI) ?_);simp only [go_sem,simprocAttr]) | fail));rw [← J28 (l:=l) (m:=l) (i:=0) rfl,← Jx2]
theorem Ka2:∀ (m:Fin 32) (k:Fin 5),decide (IntKind.i64.wrap ((BitVec.ofInt (B0 .i64) (((m.val:Int)).fdiv (2 ^ min k.val (B0 .i64))) &&& BitVec.ofInt (B0 .i64) 1).toNat:Int)=0) = !Js1 m.val k.val:=by decide +kernel
theorem Ka0 {m k:Int} (h0:0≤m) (hm':m≤31) (k0:0≤k) (k5:k<5):(IntKind.i64.wrap ((BitVec.ofInt (B0 .i64) (m.fdiv (2 ^ min k.toNat (B0 .i64))) &&& BitVec.ofInt (B0 .i64) 1).toNat:Int)=0) ↔ Js1 m k=false:=by
 obtain ⟨a,rfl⟩:∃ a:Nat,m=a:=⟨m.toNat,by omega⟩
 obtain ⟨b,rfl⟩:∃ b:Nat,k=b:=⟨k.toNat,by omega⟩
 have:=Ka2 ⟨a,by omega⟩ ⟨b,by omega⟩;simp only [Int.toNat_natCast] at this ⊢;cases hl:Js1 (a:Int) (b:Int) <;> rw [hl] at this <;> simpa using this
theorem J8h (mask:Int) (l:List (Int×Node)) (n:Node) (h0:0≤mask) (hmk:mask≤31) (hl:l.length≤1000000) (ha:∀ a∈l,Jrg a.1 a.2) (hn:n.kind<5→Jqk n) (hs:n.s.length≤1000000) (hk0:0≤n.kind):Det cx 48 [.p (.int .i64 mask),.p (.sl (Jq8 l)),.p (.agg [.int .i64 n.kind,.int .i64 n.many,.str n.name,.str n.s,.bool n.neg,.int .i64 n.e])] [] (.p (.bool (Jr2 mask l n))) []:=by
 have hP:=J78 n hn hs;by_cases hk:n.kind<5
 ·have hC:=Jyz l n hl ha (hn hk);have hb:=Ka0 h0 hmk hk0 hk;rw [decide_eq_true hk] at hP;have hmm:Jr2 mask l n=(Js1 mask n.kind && l.all fun a=>Jts a n):=by
   unfold Jr2;rw [decide_eq_true (hn hk),Bool.true_and]
  rw [hmm];(refine bgo Tryz.func48 ?_;simp only [go_sem,simprocAttr]);(repeat' (first | (apply iteI <;> intro h)|(refine Jqd ?_)|((first | (refine Jqa (hP) ?_)|(refine Jqa (hC) ?_));simp only [go_sem,simprocAttr]) | fail))
  ·rw [hb.1 h];rfl
  ·have:Js1 mask n.kind=true:=by
    cases hl2:Js1 mask n.kind with
    | true=>rfl
    | false=>exact absurd (hb.2 hl2) h
   rw [this,Bool.true_and,Bool.not_not]
 ·rw [decide_eq_false hk] at hP;have hno:Jr2 mask l n=false:=by
   unfold Jr2;rw [decide_eq_false (fun h=>hk h.1)];rfl
  rw [hno];(refine bgo Tryz.func48 ?_;simp only [go_sem,simprocAttr]);(repeat' (first | ((refine Jqa (hP) ?_);simp only [go_sem,simprocAttr]) | fail))
theorem J2a {n:Node} (hk:n.kind<5):Jw [n]=decide (Jqk n):=by
 rw [Bool.eq_iff_iff,Iq,decide_eq_true_eq];constructor
 ·rintro ⟨t,ht,h⟩;cases t with
  | mk k s g e kids =>
   rw [A6] at h;have h1:=(List.cons.inj h).1;have h2:=(List.cons.inj h).2;cases kids with
   | nil =>
    subst h1;exact ⟨hk,rfl,(Lu.1 ht).1⟩
   | cons a b c =>
    rw [A0] at h2;have:=congrArg List.length h2;have hp:=Et b a;simp at this;omega
 ·intro h;exact ⟨ndT n,J5m h,(Jwe h).symm⟩
theorem J1w (n:Node) (hf:NodeFit n):Det cx 37 [.p (.agg [.int .i64 n.kind,.int .i64 n.many,.str n.name,.str n.s,.bool n.neg,.int .i64 n.e])] [] (.p (.bool (decide (Jqk n)))) []:=by
 by_cases hk:n.kind<5
 ·have hR:=Jp [n] sm (by intro x hx;simp at hx;subst hx;exact hf);rw [J2a hk,show valL [n]=[[.int .i64 n.kind,.int .i64 n.many,.str n.name,.str n.s,.bool n.neg,.int .i64 n.e]] from rfl] at hR;have c1:(n.kind<5)=True:=eq_true hk;(refine bgo Tryz.func37 ?_;simp only [go_sem,simprocAttr,c1,decide_true]);(repeat' (first | ((refine Jqa (hR) ?_);simp only [go_sem,simprocAttr]) | fail))
 ·have c1:(n.kind<5)=False:=eq_false hk;rw [decide_eq_false (fun h=>hk h.1)];(refine bgo Tryz.func37 ?_;simp only [go_sem,simprocAttr,c1,decide_false])
  skip
theorem Jwi (s:List UInt8):(Je s).1.length≤20∧∀ x∈(Je s).1,Bc x:=by
 by_cases h:(Je s).2.2=0
 ·obtain ⟨_,h2,_⟩:=J7y h;exact h2
 ·obtain ⟨_,h2,_⟩:=J7c h;rw [h2];exact ⟨by simp,by simp⟩
def keysL (s:List UInt8) (l:List KT):List (List PV):=l.map fun q=>[.sl (valL (keyV s q.2))]
theorem J6l (v:List YRow) (i:Nat) (nm:List UInt8) (t:RT) (rest:List YRow) (hv:v.length≤1000000) (h:v.drop i=t.enc nm ++ rest):Det cx 10 [.p (.sl (rowL v)),.p (.int .i64 i)] [] (.p (.int .i64 (i+(t.enc nm).length:Nat))) []:=by
 (refine bgo Tryz.func10 ?_;simp only [go_sem,simprocAttr]);have hp:=Jr1 t nm;have hb:=Jvd h (fun e=>by have e2:(t.enc nm ++ rest).length=0:=(by rw [e];rfl);rw [List.length_append] at e2;omega);rw [List.length_append] at hb;refine SWP.loop (fun x:Nat×Nat×RF=>⟨Ba 41 [(0,.p (.sl (rowL v))),(1,.p (.int .i64 x.1)),(5,.p (.int .i64 x.2.1))],[]⟩) (fun x=>x.2.1=x.2.2.len∧v.drop x.1=x.2.2.enc ++ rest∧x.1+x.2.2.enc.length=i+(t.enc nm).length) (fun x=>x.2.2.enc.length) (i,1,.cons nm t .nil) Jqc ⟨rfl,by simp [Jqf,Jq5,h],by simp [Jqf,Jq5]⟩ ?_;rintro ⟨j,left,F⟩ ⟨h0,h1,h2⟩;simp only at h0 h1 h2
 match F,h0,h1,h2 with
 | .nil,h0,h1,h2 =>
  rw [Jq5] at h2;simp only [RF.len] at h0;subst h0;have c0:((0:Int)<((0:Nat):Int))=False:=eq_false omg;(refine lws ?_;simp only [go_sem,simprocAttr]);simp only [List.length_nil] at h2;omega
 | .cons nm' (.mk k s g e kids) r,h0,h1,h2 =>
  rw [Jr6] at h0;rw [Jqf,Jqi] at h1 h2;have hg:=Jrr h1;rw [Jrd] at hg;simp only [List.length_cons,List.length_append] at h2;have hl1:=Jq9 kids;have hl2:=Jq9 r;have w0:IntKind.i64.wrap ((left:Int) - 1)=(r.len:Int):=by rw [Aa omg omg];omega
  have w1:IntKind.i64.wrap ((r.len:Int)+(kids.len:Int))=((r.len+kids.len:Nat):Int):=by rw [Aa omg omg];omega
  (refine lws ?_;simp only [go_sem,simprocAttr,wj1 (i:=j) omg,hg,w0,w1,Jqb]);(repeat' (first | (apply iteI <;> intro h)|(exfalso;omega)))
  ·exact ⟨(j+1,r.len+kids.len,kids.app r),⟨by simp only [Jrq];omega,by
    simp only [Jqh];rw [← List.drop_drop,h1];simp,by simp only [Jqh,List.length_append];omega⟩,by simp only [Jqh,Jqf,Jqi,List.length_append,List.length_cons];omega,Jqc⟩
theorem J5w (v:List YRow) (hv:v.length≤10000):Det cx 10 [.p (.sl (rowL v)),.p (.int .i64 0)] [] (.p (.int .i64 (Jsp v 0 1))) []:=by
 (refine bgo Tryz.func10 ?_;simp only [go_sem,simprocAttr]);refine SWP.loop (fun x:Nat×Nat=>⟨Ba 41 [(0,.p (.sl (rowL v))),(1,.p (.int .i64 x.1)),(5,.p (.int .i64 x.2))],[]⟩) (fun x=>x.1≤v.length∧x.2≤1+x.1 * 10000∧Jsp v x.1 x.2=Jsp v 0 1) (fun x=>v.length - x.1) (0,1) Jqc ⟨Nat.zero_le _,by simp,rfl⟩ ?_;rintro ⟨i,o⟩ ⟨h1,h2,h3⟩;simp only at h1 h2 h3;by_cases ho:o=0
 ·subst ho;rw [J5c] at h3;have c0:((0:Int)<((0:Nat):Int))=False:=eq_false omg;(refine lws ?_;simp only [go_sem,simprocAttr]);rw [h3]
 ·have c0:((0:Int)<(o:Int))=True:=eq_true omg;by_cases hi:¬ i<v.length
  ·have c1:((v.length:Int)≤(i:Int))=True:=eq_true omg;rw [J66 omg omg] at h3;(refine lws ?_;simp only [go_sem,simprocAttr,Jqb,c0,c1]);rw [← h3]
  ·have hi:=Decidable.not_not.1 hi;have c1:((v.length:Int)≤(i:Int))=False:=eq_false omg;obtain ⟨n,hn⟩:∃ n,v[i]? = some n:=⟨_,List.getElem?_eq_getElem hi⟩
   have hg:=Jse hn;by_cases hb:n.many<0∨(v.length:Int)<n.many
   ·rw [J75 hn omg hb] at h3;by_cases hb1:n.many<0
    ·have c2:(n.many<0)=True:=eq_true hb1;(refine lws ?_;simp only [go_sem,simprocAttr,Jqb,c0,c1,c2,hg]);rw [← h3]
    ·have c2:(n.many<0)=False:=eq_false hb1;have c3:((v.length:Int)<n.many)=True:=eq_true omg;(refine lws ?_;simp only [go_sem,simprocAttr,Jqb,c0,c1,c2,c3,hg]);rw [← h3]
   ·have c2:(n.many<0)=False:=eq_false omg;have c3:((v.length:Int)<n.many)=False:=eq_false omg;obtain ⟨o',rfl⟩:∃ o',o=o'+1:=⟨o - 1,by omega⟩
    rw [J47 hn hb] at h3;have w1:IntKind.i64.wrap (((o'+1:Nat):Int) - 1)=(o':Int):=by rw [Aa omg omg];omega
    have w2:IntKind.i64.wrap ((o':Int)+n.many)=((o'+n.many.toNat:Nat):Int):=by rw [Aa omg omg];omega
    have w3:=wj1 (i:=i) omg;(refine lws ?_;simp only [go_sem,simprocAttr,Jqb,c0,c1,c2,c3,hg,w1,w2,w3]);exact ⟨(i+1,o'+n.many.toNat),⟨by simp only;omega,by simp only;omega,h3⟩,by simp only;omega,Jqc⟩
theorem J74 {v:List YRow} {j:Nat} {nm:List UInt8} {t:RT} {b:List YRow} (h:v.drop j=t.enc nm ++ b):∃ (k n:Int) (s:List UInt8) (g:Int) (e:Node),(rowL v)[j]? = some [.int .i64 k,.int .i64 n,.str nm,.str s,.int .i64 g,.int .i64 e.kind,.int .i64 e.many,.str e.name,.str e.s,.bool e.neg,.int .i64 e.e]:=by
 cases t with
 | mk k s g e kids =>
  rw [Jqi] at h;exact ⟨k,kids.len,s,g,e,Jrr h⟩
def tnameL (l:List (List UInt8×RT)):List (List PV):=l.map fun p=>[.str p.1]
def placeR (rows:List RKT) (i:Nat):Nat:=1+((rows.take i).map fun p=>(p.2.enc p.1).length).sum
theorem J1y (a b:List UInt8):(Op.bytesLess a b || a == b) = !Op.bytesLess b a:=by
 cases h:Op.bytesLess b a with
 | true =>
  rw [L3 h];simp [Ne.symm (bl_ne h)]
 | false =>
  by_cases he:a=b
  ·simp [he]
  ·rw [Qf h (Ne.symm he)];rfl
def Jt7 (p:List Step):Bool:=p.all fun x=>!x.part
def fldB (p:List Step) (i:Nat):Bool:=match p[i]? with
 | some x=>!x.part
 | none=>true
theorem Jy5 {p:List Step}:∀ {m:List Step} {i:Nat},p.drop i=m→allF (fldB p) m.length i=Jt7 m
 | [],i,_=>rfl
 | x :: m,i,h=>by
  have hx:p[i]? = some x:=by have:=congrArg (·[0]?) h;simpa using this
  rw [List.length_cons,allF,fldB,hx,Jy5 (m:=m) (i:=i+1) (by rw [← List.drop_drop,h];rfl)];rfl
theorem J3q (p:List Step) (hp:p.length≤1000000):Det cx 27 [.p (.sl (Bb p))] [] (.p (.bool (Jt7 p))) []:=by
 rw [← Jy5 (p:=p) (m:=p) (i:=0) rfl];(refine bgo Tryz.func27 ?_;simp only [go_sem,simprocAttr]);refine SWP.loop (fun i:Nat=>⟨Ba 15 [(0,.p (.sl (Bb p))),(3,.p (.int .i64 i))],[]⟩) (fun i=>i≤p.length∧allF (fldB p) p.length 0=allF (fldB p) (p.length - i) i) (fun i=>p.length - i) 0 Jqc ⟨Nat.zero_le _,rfl⟩ ?_;rintro i ⟨h2,h4⟩;by_cases hi:¬ i<p.length
 ·have c9:((i:Int)<(p.length:Int))=False:=eq_false omg;rw [show p.length - i=0 by omega,allF] at h4;(refine lws ?_;simp only [go_sem,simprocAttr,Aq,c9]);rw [h4]
 ·have hi:=Decidable.not_not.1 hi;have c9:((i:Int)<(p.length:Int))=True:=eq_true omg;obtain ⟨x,hq⟩:∃ x,p[i]? = some x:=⟨_,List.getElem?_eq_getElem hi⟩
  obtain ⟨k,hk1⟩:∃ k,p.length - i=k+1:=⟨p.length - i - 1,by omega⟩
  have hg:=Dk hq;rw [hk1,allF,show fldB p i = !x.part by rw [fldB,hq]] at h4;cases hb:x.part with
  | true =>
   rw [hb] at h4 hg;(refine lws ?_;simp only [go_sem,simprocAttr,Aq,c9,hg]);rw [h4];rfl
  | false =>
   rw [hb,Bool.not_false,Bool.true_and] at h4;rw [hb] at hg;(refine lws ?_;simp only [go_sem,simprocAttr,Aq,c9,hg,wj1 (i:=i) omg]);exact ⟨i+1,⟨by omega,by rw [h4,show p.length - (i+1)=k by omega]⟩,by omega,Jqc⟩
theorem Jxg (s:List UInt8) (hs:s.length≤1000000):Det cx 13 [.p (.str s)] [] (.tup [.sl (Bb (Je s).1),.bool (decide (fldS s))]) []:=by
 have hR:=J61 s hs;have hl:=(Jwi s).1;have hF:=J3q (Je s).1 omg;by_cases h0:(Je s).2.2=0
 ·have c1:(((Je s).2.2:Int)=0)=True:=eq_true omg;have:decide (fldS s)=Jt7 (Je s).1:=by
   rw [Bool.eq_iff_iff,decide_eq_true_eq];unfold fldS Jt7;simp [h0]
  rw [this];(refine bgo Tryz.func13 ?_;simp only [go_sem,simprocAttr]);(repeat' (first | ((first | (refine Jqa (hR) ?_)|(refine Jqa (hF) ?_));simp only [go_sem,simprocAttr,c1]) | fail))
 ·have c1:(((Je s).2.2:Int)=0)=False:=eq_false omg;have:decide (fldS s)=false:=decide_eq_false fun h=>h0 h.1
  rw [this];(refine bgo Tryz.func13 ?_;simp only [go_sem,simprocAttr]);(repeat' (first | ((refine Jqa (hR) ?_);simp only [go_sem,simprocAttr,c1]) | fail))
structure NodeFitC (n:Node):Prop where
 s:n.s.length≤1000000
 e0:-9223372036854775808≤n.e
 e1:n.e≤9223372036854775807
theorem Jwk (n:Node) (hnm:n.name≠[]):Det cx 53 [.p (.sl [[.int .i64 n.kind,.int .i64 n.many,.str n.name,.str n.s,.bool n.neg,.int .i64 n.e]])] [] (.p (.bool false)) []:=by
 have hg0:([[PV.int .i64 n.kind,PV.int .i64 n.many,PV.str n.name,PV.str n.s,PV.bool n.neg,PV.int .i64 n.e]]:List (List PV))[0]? = some [PV.int .i64 n.kind,PV.int .i64 n.many,PV.str n.name,PV.str n.s,PV.bool n.neg,PV.int .i64 n.e]:=rfl;have c2:(n.name=[])=False:=eq_false hnm;have hN:=Uv [n] sm;rw [show valL [n]=[[.int .i64 n.kind,.int .i64 n.many,.str n.name,.str n.s,.bool n.neg,.int .i64 n.e]] from rfl] at hN;(refine bgo Tryz.func53 ?_;simp only [go_sem,simprocAttr,hg0,c2,List.length_cons,List.length_nil])
 skip
theorem Jzp (n:Node) (hf:NodeFitC n):Det cx 37 [.p (.agg [.int .i64 n.kind,.int .i64 n.many,.str n.name,.str n.s,.bool n.neg,.int .i64 n.e])] [] (.p (.bool (decide (Jqk n)))) []:=by
 by_cases hnm:n.name=[]
 ·exact J1w n ⟨hf.s,by rw [hnm];simp,hf.e0,hf.e1⟩
 ·rw [decide_eq_false (fun h=>hnm h.2.1)];have hR:=Jwk n hnm;by_cases hk:n.kind<5
  ·have c1:(n.kind<5)=True:=eq_true hk;(refine bgo Tryz.func37 ?_;simp only [go_sem,simprocAttr,c1,decide_true]);(repeat' (first | ((refine Jqa (hR) ?_);simp only [go_sem,simprocAttr]) | fail))
  ·have c1:(n.kind<5)=False:=eq_false hk;(refine bgo Tryz.func37 ?_;simp only [go_sem,simprocAttr,c1,decide_false])
   skip
theorem J1p (n:Int) (c:Node) (hf:NodeFitC c):Det cx 24 [.p (.agg [.int .i64 n,.int .i64 c.kind,.int .i64 c.many,.str c.name,.str c.s,.bool c.neg,.int .i64 c.e])] [] (.p (.bool (decide (Jrg n c)))) []:=by
 have hP:=Jzp c hf;by_cases h0:0≤n
 ·by_cases h5:n≤5
  ·have c1:=eq_true h0;have c2:=eq_true h5;rw [show decide (Jrg n c)=decide (Jqk c) by rw [Bool.eq_iff_iff];simp [Jrg,h0,h5]];(refine bgo Tryz.func24 ?_;simp only [go_sem,simprocAttr,c1,c2,decide_true]);(repeat' (first | ((refine Jqa (hP) ?_);simp only [go_sem,simprocAttr]) | fail))
  ·have c1:=eq_true h0;have c2:=eq_false h5;rw [show decide (Jrg n c)=false from decide_eq_false fun h=>h5 h.2.1];(refine bgo Tryz.func24 ?_;simp only [go_sem,simprocAttr,c1,c2,decide_true,decide_false])
   skip
 ·have c1:=eq_false h0;rw [show decide (Jrg n c)=false from decide_eq_false fun h=>h0 h.1];(refine bgo Tryz.func24 ?_;simp only [go_sem,simprocAttr,c1,decide_false])
  skip
theorem Jq6 {c:Node}:c=Jry ↔ c.kind=0∧c.many=0∧c.name=[]∧c.s=[]∧c.neg=false∧c.e=0:=by
 rw [← Qo];rfl
theorem J68 (k m:Int) (nm s:List UInt8) (n:Int) (c:Node) (hs:s.length≤1000000) (hf:NodeFitC c):Det cx 11 [.p (.agg [.int .i64 k,.int .i64 m,.str nm,.str s,.int .i64 n,.int .i64 c.kind,.int .i64 c.many,.str c.name,.str c.s,.bool c.neg,.int .i64 c.e])] [] (.p (.bool (decide (Jqu k s n c m)))) []:=by
 have hA:=J1p n c hf;have hP:=Jxg s hs;by_cases k0:k=0
 ·subst k0;(refine bgo Tryz.func11 ?_;simp only [go_sem,simprocAttr]);(repeat' (apply iteI <;> intro h))
  all_goals (clear hA hP hf hs)
  all_goals (rw [Bool.eq_iff_iff])
  all_goals (simp only [Jqu,Jq6,decide_eq_true_eq,Int.reduceEq,if_true,if_false,true_or,or_true,or_false,false_or,or_self,ite_true,ite_false,reduceIte])
  all_goals (try simp_all)
  all_goals (try omega)
 ·by_cases k1:k=1
  ·subst k1;(refine bgo Tryz.func11 ?_;simp only [go_sem,simprocAttr]);(repeat' (apply iteI <;> intro h))
   all_goals (clear hA hP hf hs)
   all_goals (rw [Bool.eq_iff_iff])
   all_goals (simp only [Jqu,Jq6,decide_eq_true_eq,Int.reduceEq,if_true,if_false,true_or,or_true,or_false,false_or,or_self,ite_true,ite_false,reduceIte])
   all_goals (try simp_all)
   all_goals (try omega)
  ·by_cases k9:k=9
   ·subst k9;(refine bgo Tryz.func11 ?_;simp only [go_sem,simprocAttr]);(repeat' (first | (apply iteI <;> intro h)|((refine Jqa (hA) ?_);simp only [go_sem,simprocAttr]) | fail))
    all_goals (clear hA hP hf hs)
    all_goals (rw [Bool.eq_iff_iff])
    all_goals (simp only [Jqu,Jq6,decide_eq_true_eq,Int.reduceEq,if_true,if_false,true_or,or_true,or_false,false_or,or_self,ite_true,ite_false,reduceIte])
    all_goals (try simp_all)
    all_goals (try omega)
   ·by_cases k2:k=2
    ·subst k2;(refine bgo Tryz.func11 ?_;simp only [go_sem,simprocAttr]);(repeat' (apply iteI <;> intro h))
     all_goals (clear hA hP hf hs)
     all_goals (rw [Bool.eq_iff_iff])
     all_goals (simp only [Jqu,Jq6,decide_eq_true_eq,Int.reduceEq,if_true,if_false,true_or,or_true,or_false,false_or,or_self,ite_true,ite_false,reduceIte])
     all_goals (try simp_all)
     all_goals (try omega)
    ·by_cases k4:k=4
     ·subst k4;(refine bgo Tryz.func11 ?_;simp only [go_sem,simprocAttr]);(repeat' (apply iteI <;> intro h))
      all_goals (clear hA hP hf hs)
      all_goals (rw [Bool.eq_iff_iff])
      all_goals (simp only [Jqu,Jq6,decide_eq_true_eq,Int.reduceEq,if_true,if_false,true_or,or_true,or_false,false_or,or_self,ite_true,ite_false,reduceIte])
      all_goals (try simp_all)
      all_goals (try omega)
     ·by_cases k3:k=3
      ·subst k3;(refine bgo Tryz.func11 ?_;simp only [go_sem,simprocAttr]);(repeat' (apply iteI <;> intro h))
       all_goals (clear hA hP hf hs)
       all_goals (rw [Bool.eq_iff_iff])
       all_goals (simp only [Jqu,Jq6,decide_eq_true_eq,Int.reduceEq,if_true,if_false,true_or,or_true,or_false,false_or,or_self,ite_true,ite_false,reduceIte])
       all_goals (try simp_all)
       all_goals (try omega)
      ·by_cases k5:k=5
       ·subst k5;(refine bgo Tryz.func11 ?_;simp only [go_sem,simprocAttr]);(repeat' (apply iteI <;> intro h))
        all_goals (clear hA hP hf hs)
        all_goals (rw [Bool.eq_iff_iff])
        all_goals (simp only [Jqu,Jq6,decide_eq_true_eq,Int.reduceEq,if_true,if_false,true_or,or_true,or_false,false_or,or_self,ite_true,ite_false,reduceIte])
        all_goals (try simp_all)
        all_goals (try omega)
       ·by_cases k6:k=6
        ·subst k6;(refine bgo Tryz.func11 ?_;simp only [go_sem,simprocAttr]);(repeat' (apply iteI <;> intro h))
         all_goals (clear hA hP hf hs)
         all_goals (rw [Bool.eq_iff_iff])
         all_goals (simp only [Jqu,Jq6,decide_eq_true_eq,Int.reduceEq,if_true,if_false,true_or,or_true,or_false,false_or,or_self,ite_true,ite_false,reduceIte])
         all_goals (try simp_all)
         all_goals (try omega)
        ·by_cases k7:k=7
         ·subst k7;(refine bgo Tryz.func11 ?_;simp only [go_sem,simprocAttr]);(repeat' (first | (apply iteI <;> intro h)|((refine Jqa (hP) ?_);simp only [go_sem,simprocAttr]) | fail))
          all_goals (clear hA hP hf hs)
          all_goals (rw [Bool.eq_iff_iff])
          all_goals (simp only [Jqu,Jq6,decide_eq_true_eq,Int.reduceEq,if_true,if_false,true_or,or_true,or_false,false_or,or_self,ite_true,ite_false,reduceIte])
          all_goals (try simp_all)
          all_goals (try omega)
         ·by_cases k8:k=8
          ·subst k8;(refine bgo Tryz.func11 ?_;simp only [go_sem,simprocAttr]);(repeat' (first | (apply iteI <;> intro h)|((refine Jqa (hP) ?_);simp only [go_sem,simprocAttr]) | fail))
           all_goals (clear hA hP hf hs)
           all_goals (rw [Bool.eq_iff_iff])
           all_goals (simp only [Jqu,Jq6,decide_eq_true_eq,Int.reduceEq,if_true,if_false,true_or,or_true,or_false,false_or,or_self,ite_true,ite_false,reduceIte])
           all_goals (try simp_all)
           all_goals (try omega)
          ·have e0:=eq_false k0;have e1:=eq_false k1;have e9:=eq_false k9;have e2:=eq_false k2;have e4:=eq_false k4;have e3:=eq_false k3;have e5:=eq_false k5;have e6:=eq_false k6;have e7:=eq_false k7;have e8:=eq_false k8;rw [show decide (Jqu k s n c m)=false by simp [Jqu,k0,k1,k9,k2,k4,k3,k5,k6,k7,k8]];(refine bgo Tryz.func11 ?_;simp only [go_sem,simprocAttr,e0,e1,e9,e2,e4,e3,e5,e6,e7,e8])
           skip
open Classical in
noncomputable def J1a (k:Int) (l:List RKT):Bool:=decide (Jra k l)
theorem J58 {k:Int} {l:List RKT} (h:Jra k l):true=J1a k l:=by unfold J1a;exact (@decide_eq_true _ (Classical.propDecidable _) h).symm
theorem J6g {k:Int} {l:List RKT} (h:¬ Jra k l):false=J1a k l:=by unfold J1a;exact (@decide_eq_false _ (Classical.propDecidable _) h).symm
def Jvx (k:Int) (j:Nat) (last:List UInt8) (l:List RKT):Prop:=Jra k l∧(k=2→j≠0→∀ q,l.head? = some q→Op.bytesLess last q.1=true)
theorem J4u (k:Int) (j:Nat) (last:List UInt8):Jvx k j last []:=⟨Juu k,fun _ _ q h=>by cases h⟩
theorem J2b {k:Int} {j:Nat} {last:List UInt8} {p:RKT} {l:List RKT}:Jvx k j last (p :: l) ↔ (Jvp k p∧(k=2→j≠0→Op.bytesLess last p.1=true))∧Jvx k (j+1) p.1 l:=by
 unfold Jvx;rw [J1r];constructor
 ·rintro ⟨⟨h1,h2,h3⟩,h4⟩;exact ⟨⟨h1,fun hk hj=>h4 hk hj p rfl⟩,h3,fun hk _ q hq=>h2 hk q hq⟩
 ·rintro ⟨⟨h1,h2⟩,h3,h4⟩;exact ⟨⟨h1,fun hk q hq=>h4 hk omg q hq,h3⟩,fun hk hj q hq=>by cases hq;exact h2 hk hj⟩
theorem Jyu {v:List YRow} {j:Nat} {nm:List UInt8} {t:RT} {b:List YRow} (h:v.drop j=t.enc nm ++ b):∃ (n:Int) (s:List UInt8) (g:Int) (e:Node),(rowL v)[j]? = some [.int .i64 t.kind,.int .i64 n,.str nm,.str s,.int .i64 g,.int .i64 e.kind,.int .i64 e.many,.str e.name,.str e.s,.bool e.neg,.int .i64 e.e]:=by
 cases t with
 | mk k s g e kids =>
  rw [Jqi] at h;exact ⟨kids.len,s,g,e,Jrr h⟩
theorem J76 (v:List YRow) (i:Nat) (nm:List UInt8) (k:Int) (s:List UInt8) (g:Int) (e:Node) (kids:RF) (rest:List YRow) (hv:v.length≤1000000) (h:v.drop i=(RT.mk k s g e kids).enc nm ++ rest) (hs:∀ n∈v,n.name.length≤1000000):Det cx 12 [.p (.sl (rowL v)),.p (.int .i64 i)] [] (.p (.bool (J1a k kids.list))) []:=by
 have hll:=Jq9 kids;rw [Jqi] at h;have hg0:=Jrr h;rw [Jrd] at hg0;have hb:=Jvd h sm;simp only [List.cons_append,List.length_cons,List.length_append] at hb;have w0:=wj1 (i:=i) omg;(refine bgo Tryz.func12 ?_;simp only [go_sem,simprocAttr,w0]);refine SWP.loop (fun x:Nat×Nat×RF×List UInt8=>⟨Ba 74 [(0,.p (.sl (rowL v))),(1,.p (.int .i64 i)),(5,.p (.int .i64 x.2.1)),(6,.p (.str x.2.2.2)),(7,.p (.int .i64 x.1))],[]⟩) (fun x=>x.1+x.2.2.1.len=kids.len∧v.drop x.2.1=x.2.2.1.enc ++ rest∧x.2.1+x.2.2.1.enc.length=i+1+kids.enc.length∧(Jra k kids.list ↔ Jvx k x.1 x.2.2.2 x.2.2.1.list)) (fun x=>x.2.2.1.enc.length) (0,i+1,kids,[]) Jqc ⟨by simp,by simp only;rw [← List.drop_drop,h];rfl,by simp only,⟨fun h=>⟨h,fun _ h=>absurd rfl h⟩,fun h=>h.1⟩⟩ ?_;rintro ⟨j,a,F,last⟩ ⟨h1,h2,h3,h4⟩;simp only at h1 h2 h3 h4
 match F,h1,h2,h3,h4 with
 | .nil,h1,h2,h3,h4 =>
  simp only [RF.len] at h1;have c1:((j:Int)<(kids.len:Int))=False:=eq_false omg;have hK:=h4.2 (J4u k j last);(refine lws ?_;simp only [go_sem,simprocAttr,hg0,c1]);exact J58 hK
 | .cons nm' t r,h1,h2,h3,h4 =>
  rw [Jr6] at h1;rw [Jqf] at h2 h3;have hp:=Jr1 t nm';simp only [List.length_append] at h3;obtain ⟨n',s',g',e',hga⟩:=Jyu (v:=v) (j:=a) (nm:=nm') (t:=t) (b:=r.enc ++ rest) (by rw [h2,List.append_assoc]);have c1:((j:Int)<(kids.len:Int))=True:=eq_true omg;rw [RF.list,J2b] at h4;simp only at h4;have w1:=wj1 (i:=j) omg;have hnl:nm'.length≤1000000:=by
   have hd2:v.drop a=t.enc nm' ++ (r.enc ++ rest):=by rw [h2,List.append_assoc]
   cases t with
   | mk k2 s2 g2 e2 kk2 =>
    rw [Jqi] at hd2;have hm:(⟨k2,kk2.len,nm',s2,g2,e2⟩:YRow)∈v.drop a:=by rw [hd2];exact List.mem_cons_self
    exact hs _ (List.mem_of_mem_drop hm)
  have hNx:=J6l v a nm' t (r.enc ++ rest) hv (by rw [h2,List.append_assoc]);have hd:v.drop (a+(t.enc nm').length)=r.enc ++ rest:=by rw [← List.drop_drop,h2,List.append_assoc,List.drop_left]
  have hno:¬ (Jvp k (nm',t)∧(k=2→j≠0→Op.bytesLess last nm'=true))→false=J1a k kids.list:=fun hn=>J6g fun hk=>hn (h4.1 hk).1
  have hyes:(Jvp k (nm',t)∧(k=2→j≠0→Op.bytesLess last nm'=true))→(Jra k kids.list ↔ Jvx k (j+1) nm' r.list):=fun hy=>h4.trans ⟨fun h=>h.2,fun h=>⟨hy,h⟩⟩
  have hle:=J1y nm' last;have hU:=Cn nm' hnl;have hfin:Jvp k (nm',t)∧(k=2→j≠0→Op.bytesLess last nm'=true)→∃ y:Nat×Nat×RF×List UInt8,(y.1+y.2.2.1.len=kids.len∧v.drop y.2.1=y.2.2.1.enc ++ rest∧y.2.1+y.2.2.1.enc.length=i+1+kids.enc.length∧(Jra k kids.list ↔ Jvx k y.1 y.2.2.2 y.2.2.1.list))∧y.2.2.1.enc.length<(RF.cons nm' t r).enc.length∧y=(j+1,a+(t.enc nm').length,r,nm'):=fun hy =>
   ⟨(j+1,a+(t.enc nm').length,r,nm'),⟨by simp only;omega,hd,by simp only;omega,hyes hy⟩,by simp only [Jqf,List.length_append];omega,rfl⟩
  by_cases hk2:k=2
  ·subst hk2;by_cases ht9:t.kind=9
   ·have e9:(t.kind == 9)=true:=by rw [ht9];rfl
    have b1:((2:Int) == 1)=false:=rfl;(refine lws ?_;simp only [go_sem,simprocAttr,hg0,c1,hga,decide_true]);(repeat' (first | ((refine Jql ?_);simp only [go_sem,simprocAttr,hg0,Bool.bne_false,e9,b1]) | fail))
    all_goals exact hno fun h=>by have:=h.1.1.1 ht9;omega
   ·have e9:(t.kind == 9)=false:=by simpa using ht9
    have b1:((2:Int) == 1)=false:=rfl;cases hva:valid nm' with
    | false =>
     rw [hva] at hU;(refine lws ?_;simp only [go_sem,simprocAttr,hg0,c1,hga,decide_true]);(repeat' (first | ((first | (refine Jql ?_)|(refine Jqa (hU) ?_));simp only [go_sem,simprocAttr,hg0,Bool.not_false,bne_self_eq_false,e9,b1,Bool.not_false]) | fail))
     all_goals exact hno fun h=>by have:=h.1.2.2 rfl;simp only at this;rw [hva] at this;cases this
    | true =>
     rw [hva] at hU;by_cases hj0:j=0
     ·have c4:((0:Int)<(j:Int))=False:=eq_false omg;obtain ⟨y,p1,p2,rfl⟩:=hfin ⟨⟨⟨fun h=>absurd h ht9,fun h=>absurd h de⟩,fun h=>absurd rfl h,fun _=>hva⟩,fun _ h=>absurd hj0 h⟩;(refine lws ?_;simp only [go_sem,simprocAttr,hg0,c1,hga,decide_true]);(repeat' (first | ((first | (refine Jql ?_)|(refine Jqa (hU) ?_)|(refine Jqa (hNx) ?_));simp only [go_sem,simprocAttr,hg0,decide_false,Bool.not_true,bne_self_eq_false,e9,b1,c4,w1,Bool.not_true]) | fail));exact ⟨_,p1,p2,Jqc⟩
     ·have c4:((0:Int)<(j:Int))=True:=eq_true omg;cases hbl:Op.bytesLess last nm' with
      | true =>
       rw [hbl,Bool.not_true] at hle;obtain ⟨y,p1,p2,rfl⟩:=hfin ⟨⟨⟨fun h=>absurd h ht9,fun h=>absurd h de⟩,fun h=>absurd rfl h,fun _=>hva⟩,fun _ _=>hbl⟩;(refine lws ?_;simp only [go_sem,simprocAttr,hg0,c1,hga,decide_true]);(repeat' (first | ((first | (refine Jql ?_)|(refine Jqa (hU) ?_)|(refine Jqa (hNx) ?_));simp only [go_sem,simprocAttr,hg0,decide_true,Bool.not_true,bne_self_eq_false,e9,b1,c4,hle,w1,Bool.not_true]) | fail));exact ⟨_,p1,p2,Jqc⟩
      | false =>
       rw [hbl,Bool.not_false] at hle;(refine lws ?_;simp only [go_sem,simprocAttr,hg0,c1,hga,decide_true]);(repeat' (first | ((first | (refine Jql ?_)|(refine Jqa (hU) ?_));simp only [go_sem,simprocAttr,hg0,decide_true,Bool.not_true,bne_self_eq_false,e9,b1,c4,hle,Bool.not_true]) | fail))
       all_goals exact hno fun h=>by have:=h.2 rfl hj0;rw [hbl] at this;cases this
  ·have e2:=eq_false hk2;by_cases hkd:(t.kind=9 ↔ k=1)
   ·by_cases hnm:nm'=[]
    ·have en:=eq_true hnm;obtain ⟨y,p1,p2,rfl⟩:=hfin ⟨⟨hkd,fun _=>hnm,fun h=>absurd h hk2⟩,fun h=>absurd h hk2⟩;by_cases hk1:k=1
     ·have e1:=eq_true hk1;have b1:(k == 1)=true:=by rw [hk1];rfl
      have e9:(t.kind == 9)=true:=by rw [hkd.2 hk1];rfl
      (refine lws ?_;simp only [go_sem,simprocAttr,hg0,c1,hga,decide_true]);(repeat' (first | ((first | (refine Jql ?_)|(refine Jqa (hNx) ?_));simp only [go_sem,simprocAttr,hg0,Bool.not_true,bne_self_eq_false,e2,e9,b1,en,w1]) | fail));exact ⟨_,p1,p2,Jqc⟩
     ·have e1:=eq_false hk1;have b1:(k == 1)=false:=by simpa using hk1
      have e9:(t.kind == 9)=false:=by simpa using (fun h=>hk1 (hkd.1 h))
      (refine lws ?_;simp only [go_sem,simprocAttr,hg0,c1,hga,decide_true]);(repeat' (first | ((first | (refine Jql ?_)|(refine Jqa (hNx) ?_));simp only [go_sem,simprocAttr,hg0,Bool.not_true,bne_self_eq_false,e2,e9,b1,en,w1]) | fail));exact ⟨_,p1,p2,Jqc⟩
    ·have en:=eq_false hnm;by_cases hk1:k=1
     ·have e1:=eq_true hk1;have b1:(k == 1)=true:=by rw [hk1];rfl
      have e9:(t.kind == 9)=true:=by rw [hkd.2 hk1];rfl
      (refine lws ?_;simp only [go_sem,simprocAttr,hg0,c1,hga,decide_true]);(repeat' (first | ((refine Jql ?_);simp only [go_sem,simprocAttr,hg0,Bool.not_true,bne_self_eq_false,e2,e9,b1,en]) | fail))
      all_goals exact hno fun h=>hnm (h.1.2.1 hk2)
     ·have e1:=eq_false hk1;have b1:(k == 1)=false:=by simpa using hk1
      have e9:(t.kind == 9)=false:=by simpa using (fun h=>hk1 (hkd.1 h))
      (refine lws ?_;simp only [go_sem,simprocAttr,hg0,c1,hga,decide_true]);(repeat' (first | ((refine Jql ?_);simp only [go_sem,simprocAttr,hg0,Bool.not_true,bne_self_eq_false,e2,e9,b1,en]) | fail))
      all_goals exact hno fun h=>hnm (h.1.2.1 hk2)
   ·by_cases hk1:k=1
    ·have e1:=eq_true hk1;have b1:(k == 1)=true:=by rw [hk1];rfl
     have e9:(t.kind == 9)=false:=by simpa using (fun h:t.kind=9=>hkd ⟨fun _=>hk1,fun _=>h⟩)
     (refine lws ?_;simp only [go_sem,simprocAttr,hg0,c1,hga,decide_true]);(repeat' (first | ((refine Jql ?_);simp only [go_sem,simprocAttr,hg0,Bool.bne_true,Bool.not_false,e9,b1]) | fail))
     all_goals exact hno fun h=>hkd h.1.1
    ·have e1:=eq_false hk1;have b1:(k == 1)=false:=by simpa using hk1
     have e9:(t.kind == 9)=true:=beq_iff_eq.2 (show t.kind=9 from Decidable.not_not.1 fun h:¬ t.kind=9=>hkd ⟨fun a=>absurd a h,fun a=>absurd a hk1⟩);(refine lws ?_;simp only [go_sem,simprocAttr,hg0,c1,hga,decide_true]);(repeat' (first | ((refine Jql ?_);simp only [go_sem,simprocAttr,hg0,Bool.bne_false,e9,b1]) | fail))
     all_goals exact hno fun h=>hkd h.1.1
end Go.LX
