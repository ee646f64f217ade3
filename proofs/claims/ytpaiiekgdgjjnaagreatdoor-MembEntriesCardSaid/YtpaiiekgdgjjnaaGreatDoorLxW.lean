/- Atoms, the document's answer: members. -/
import Derived.Test.YtpaiiekgdgjjnaaGreatDoorLxV
import Derived.Test.YtpaiiekgdgjjnaaGreatDoorLxS
import Derived.Test.YtpaiiekgdgjjnaaGreatDoorLxT
import Derived.Test.YtpaiiekgdgjjnaaGreatDoorLxU
import Derived.Test.YtpaiiekgdgjjnaaGreatDoorLxN
set_option linter.unusedSimpArgs false
set_option linter.unusedVariables false
set_option linter.unusedSectionVars false
set_option linter.unnecessarySimpa false
set_option maxRecDepth 100000
set_option maxHeartbeats 2000000
namespace Go.LX
open Go Go.RowKit Go.Proofs
attribute [local irreducible] Al SWP Bi
theorem J4v {n:Node} (hk:n.kind<5):Jw [n]=decide (Jrb n):=by
 rw [Bool.eq_iff_iff,Iq,decide_eq_true_eq];constructor
 ·rintro ⟨t,ht,h⟩;cases t with
  | mk k s g e kids =>
   rw [A6] at h;have h1:=(List.cons.inj h).1;have h2:=(List.cons.inj h).2;cases kids with
   | nil =>
    subst h1;exact ⟨hk,rfl,(Lu.1 ht).1⟩
   | cons a b c =>
    rw [A0] at h2;have:=congrArg List.length h2;have hp:=Et b a;simp at this;omega
 ·intro h;exact ⟨ndT n,Jzc h,(Jt7 h).symm⟩
theorem Jwy (n:Node) (hf:NodeFit n):Det cx 142 [.p (.agg [.int .i64 n.kind,.int .i64 n.many,.str n.name,.str n.s,.bool n.neg,.int .i64 n.e])] [] (.p (.bool (decide (Jrb n)))) []:=by
 by_cases hk:n.kind<5
 ·have hR:=Jp [n] sm (by intro x hx;simp at hx;subst hx;exact hf);rw [J4v hk,show valL [n]=[[.int .i64 n.kind,.int .i64 n.many,.str n.name,.str n.s,.bool n.neg,.int .i64 n.e]] from rfl] at hR;have c1:(n.kind<5)=True:=eq_true hk;(refine bgo Tryz.func142 ?_;simp only [go_sem,simprocAttr,c1,decide_true]);(repeat' (first | ((refine Jqa (hR) ?_);simp only [go_sem,simprocAttr]) | fail))
 ·have c1:(n.kind<5)=False:=eq_false hk;rw [decide_eq_false (fun h=>hk h.1)];(refine bgo Tryz.func142 ?_;simp only [go_sem,simprocAttr,c1,decide_false])
  skip
theorem Kbq (m i:Nat):m / 2 ^ i / 2=m / 2 ^ (i+1):=by rw [Nat.div_div_eq_div_mul,Nat.pow_succ]
theorem td2 (q:Nat):(q:Int).tdiv 2=((q / 2:Nat):Int):=by
 rw [Int.tdiv_eq_ediv_of_nonneg omg];omega
theorem tm2 (q:Nat):(q:Int).tmod 2=((q % 2:Nat):Int):=by
 rw [Int.tmod_eq_emod_of_nonneg omg];omega
theorem wtd2 {q:Nat} (h:q≤1000):IntKind.i64.wrap ((q:Int).tdiv 2)=((q / 2:Nat):Int):=by
 rw [td2,Aa omg omg]
theorem wtm2 (q:Nat):IntKind.i64.wrap ((q:Int).tmod 2)=((q % 2:Nat):Int):=by
 rw [tm2,Aa omg omg]
theorem beq_one (r:Nat):((r:Int) == 1)=decide (r=1):=by
 by_cases h:r=1
 ·simp [h]
 ·simp [h];omega
theorem d_Lets (m k:Nat) (hm':m≤1000) (hk:k≤100):Det cx 143 [.p (.int .i64 m),.p (.int .i64 k)] [] (.p (.bool (Jv1 m k))) []:=by
 (refine bgo Tryz.func143 ?_;simp only [go_sem,simprocAttr]);refine SWP.loop (fun i:Nat=>⟨Ba 16 [(0,.p (.int .i64 (m / 2 ^ i:Nat))),(1,.p (.int .i64 k)),(5,.p (.int .i64 i))],[]⟩) (fun i=>i≤k) (fun i=>k - i) 0 (by rw [Nat.pow_zero,Nat.div_one];exact Jqb) (Nat.zero_le _) ?_;rintro i hi;have hle:m / 2 ^ i≤m:=Nat.div_le_self _ _;by_cases hlt:i<k
 ·have c1:((i:Int)<(k:Int))=True:=eq_true omg;have w1:IntKind.i64.wrap (((m / 2 ^ i:Nat):Int).tdiv 2)=((m / 2 ^ (i+1):Nat):Int):=by
   rw [← Kbq];exact wtd2 (Nat.le_trans hle hm')
  (refine lws ?_;simp only [go_sem,simprocAttr,c1,w1,wj1 (i:=i) omg]);exact ⟨i+1,by omega,by omega,Jqb⟩
 ·have hik:i=k:=by omega
  subst hik;have c1:((i:Int)<(i:Int))=False:=eq_false omg;have w2:=wtm2 (m / 2 ^ i);have w3:=tm2 (m / 2 ^ i);(refine lws ?_;simp only [go_sem,simprocAttr,c1,w3]);unfold Jv1;simp only [Int.toNat_natCast];exact beq_one _
theorem d_Says (n c:Int):Det cx 106 [.p (.int .i64 n),.p (.int .i64 c)] [] (.p (.bool (J18 n c))) []:=by
 (refine bgo Tryz.func106 ?_;simp only [go_sem,simprocAttr]);(repeat' (apply iteI <;> intro h))
 all_goals (unfold J18)
 all_goals (simp only [*,if_true,if_false])
 all_goals first
  | rfl
  | (by_cases hc:c=0 <;> simp [hc])
theorem J5u (a:Int×Node) (n:Node) (ha:Jrn a.1 a.2) (hn:Jrb n):Det cx 144 [.p (.agg [.int .i64 a.1,.int .i64 a.2.kind,.int .i64 a.2.many,.str a.2.name,.str a.2.s,.bool a.2.neg,.int .i64 a.2.e]),.p (.agg [.int .i64 n.kind,.int .i64 n.many,.str n.name,.str n.s,.bool n.neg,.int .i64 n.e])] [] (.p (.bool (Js2 a n))) []:=by
 obtain ⟨a0,a5,hap⟩:=ha;have hC:=Jx5 1 (ndT n) (ndT a.2) (by rw [Jt7 hn];simp) (Jzc hn) (Jzc hap) (by rw [Jt7 hn];simp) (by rw [Jt7 hap];simp);rw [Jy2 hn,Jy2 hap] at hC;have hS:=d_Says a.1 (cmpT (ndT n) (ndT a.2));(refine bgo Tryz.func144 ?_;simp only [go_sem,simprocAttr]);(repeat' (first | ((first | (refine Jqk ?_)|(refine Jqd (hC) ?_)|(refine Jqd (hS) ?_));simp only [go_sem,simprocAttr]) | fail))
 all_goals rfl
theorem J3t (m:Nat) (l:List (Int×Node)) (n:Node) (hmk:m≤1000) (hl:l.length≤1000000) (ha:∀ a∈l,Jrn a.1 a.2) (hf:NodeFit n):Det cx 61 [.p (.int .i64 m),.p (.sl (Jrg l)),.p (.agg [.int .i64 n.kind,.int .i64 n.many,.str n.name,.str n.s,.bool n.neg,.int .i64 n.e])] [] (.p (.bool (Jq1 m l n))) []:=by
 have hP:=Jwy n hf;by_cases hp:Jrb n
 ·rw [decide_eq_true hp] at hP;obtain ⟨j,hj,hj5⟩:∃ j:Nat,n.kind=j∧j<5:=by
   have:=Jz8 hp.2.2 hp.1;exact ⟨n.kind.toNat,by omega,by omega⟩
  have hLt:=d_Lets m j hmk omg;rw [← hj] at hLt;cases hlt:Jv1 m n.kind with
  | false =>
   rw [hlt] at hLt;rw [show Jq1 m l n=false by unfold Jq1;rw [hlt];simp];(refine bgo Tryz.func61 ?_;simp only [go_sem,simprocAttr]);(repeat' (first | ((first | (refine Jqa (hP) ?_)|(refine Jqa (hLt) ?_));simp only [go_sem,simprocAttr]) | fail))
  | true =>
   rw [hlt] at hLt;rw [show Jq1 m l n=l.all fun a=>Js2 a n by unfold Jq1;rw [hlt,decide_eq_true hp];rfl];rw [← Jz3 (l:=l) (m:=l) (i:=0) rfl];(refine bgo Tryz.func61 ?_;simp only [go_sem,simprocAttr]);(repeat' (first | ((first | (refine Jqa (hP) ?_)|(refine Jqa (hLt) ?_));simp only [go_sem,simprocAttr]) | fail));refine SWP.loop (fun i:Nat=>⟨Ba 31 [(1,.p (.sl (Jrg l))),(5,.ptr 5 0 0),(7,.p (.int .i64 i))],[(5,.var 29 [.p (.int .i64 n.kind),.p (.int .i64 n.many),.p (.str n.name),.p (.str n.s),.p (.bool n.neg),.p (.int .i64 n.e)])]⟩) (fun i=>i≤l.length∧allF (memF l n) l.length 0=allF (memF l n) (l.length - i) i) (fun i=>l.length - i) 0 Jqb ⟨Nat.zero_le _,rfl⟩ ?_;rintro i ⟨h2,h4⟩;by_cases hi:¬ i<l.length
   ·have c9:((i:Int)<(l.length:Int))=False:=eq_false omg;rw [show l.length - i=0 by omega,allF] at h4;(refine lws ?_;simp only [go_sem,simprocAttr,Jqx,c9]);rw [h4]
   ·have hi:=Decidable.not_not.1 hi;have c9:((i:Int)<(l.length:Int))=True:=eq_true omg;obtain ⟨a,hq⟩:∃ a,l[i]? = some a:=⟨_,List.getElem?_eq_getElem hi⟩
    obtain ⟨k,hk1⟩:∃ k,l.length - i=k+1:=⟨l.length - i - 1,by omega⟩
    have hg:=Jvq hq;have hH:=J5u a n (ha a (List.mem_of_getElem? hq)) hp;rw [hk1,allF,show memF l n i=Js2 a n by rw [memF,hq]] at h4;cases hb:Js2 a n with
    | false =>
     rw [hb] at hH h4;(refine lws ?_;simp only [go_sem,simprocAttr,Jqx,c9]);(repeat' (first | ((first | (refine Jqk ?_)|(refine Jqd (hH) ?_));simp only [go_sem,simprocAttr,hg,Bool.not_false]) | fail));rw [h4];rfl
    | true =>
     rw [hb,Bool.true_and] at h4;rw [hb] at hH;(refine lws ?_;simp only [go_sem,simprocAttr,Jqx,c9,wj1 (i:=i) omg]);(repeat' (first | ((first | (refine Jqk ?_)|(refine Jqd (hH) ?_));simp only [go_sem,simprocAttr,hg,wj1 (i:=i) omg,Bool.not_true]) | fail));exact ⟨i+1,⟨by omega,by rw [h4,show l.length - (i+1)=k by omega]⟩,by omega,Jqb⟩
 ·rw [decide_eq_false hp] at hP;rw [show Jq1 m l n=false by unfold Jq1;rw [decide_eq_false hp];rfl];(refine bgo Tryz.func61 ?_;simp only [go_sem,simprocAttr]);(repeat' (first | ((refine Jqa (hP) ?_);simp only [go_sem,simprocAttr]) | fail))
theorem Jw0 (s:List UInt8):(Je s).1.length≤20∧∀ x∈(Je s).1,Bc x:=by
 by_cases h:(Je s).2.2=0
 ·obtain ⟨_,h2,_⟩:=J7u h;exact h2
 ·obtain ⟨_,h2,_⟩:=J7r h;rw [h2];exact ⟨by simp,by simp⟩
theorem J39:∀ {p:List Step} {t:Tree} {e:Nat},getT p t=.error e→e=5∨e=6
 | [],t,e,h=>by cases h
 | x :: p,t,e,h=>by
  rw [getT] at h;cases hi:inT t x with
  | error e'=>rw [hi] at h;cases h;exact M2 hi
  | ok w=>rw [hi] at h;exact J39 h
theorem d_Key (s:List UInt8) (v:Tree) (hs:s.length≤1000000) (hv:(v.enc []).length≤1000000):Det cx 20 [.p (.str s),.p (.sl (valL (v.enc [])))] [] (.p (.sl (valL (keyV s v)))) []:=by
 obtain ⟨hl,hok⟩:=Jw0 s;have hR:=Jjx s hs;have hG:=M1 (Je s).1 v omg hok hv;cases hg:getT (Je s).1 v with
 | ok u =>
  rw [hg] at hG;simp only [getR] at hG;rw [show keyV s v=u.enc [] by unfold keyV;rw [hg]];(refine bgo Tryz.func20 ?_;simp only [go_sem,simprocAttr]);(repeat' (first | ((first | (refine Jqa (hR) ?_)|(refine Jqa (hG) ?_));simp only [go_sem,simprocAttr]) | fail))
 | error e =>
  rw [hg] at hG;simp only [getR] at hG;rw [show keyV s v=[] by unfold keyV;rw [hg]];have he:=J39 hg;have c1:((e:Int)=0)=False:=eq_false omg;refine Det.weak ?_;(refine bgo Tryz.func20 ?_;simp only [go_sem,simprocAttr]);(repeat' (first | ((first | (refine Jqa (hR) ?_)|(refine Jqa (hG) ?_));simp only [go_sem,simprocAttr,c1,not_false_eq_true]) | fail));exact J7z .nil
def Jt3 (s:List UInt8) (l:List KT):List (List PV):=l.map fun q=>[.sl (valL (keyV s q.2))]
@[simp] theorem keysL_nil (s:List UInt8):Jt3 s []=[]:=rfl
@[simp] theorem Jxy (s:List UInt8) (l:List KT):(Jt3 s l).length=l.length:=by simp [Jt3]
theorem J6c {s:List UInt8} {l:List KT} {k:Nat} {p:KT} (h:l[k]? = some p):Jt3 s (l.take (k+1))=Jt3 s (l.take k) ++ [[.sl (valL (keyV s p.2))]]:=by
 rw [List.take_add_one,h];simp [Jt3]
theorem J4a (s:List UInt8) (l:List KT) (hs:s.length≤1000000) (hl:l.length≤1000000) (hv:∀ q∈l,(q.2.enc []).length≤1000000):Det cx 60 [.p (.str s),.p (.sl (A4 l))] [] (.p (.sl (Jt3 s l))) []:=by
 (refine bgo Tryz.func60 ?_;simp only [go_sem,simprocAttr,A5]);refine Jq0 (Jv8 _ (i:=5) (d:=19) 25 1 (.inl de) rfl) ?_;simp only [St.nilOwn,St.nilReg,go_sem,simprocAttr,A5];refine SWP.loop (fun k:Nat=>⟨Ba 22 [(0,.p (.str s)),(5,.own 19 0 k),(8,.p (.sl (A4 l))),(9,.p (.int .i64 l.length)),(10,.p (.int .i64 k))],[(19,.row 25 1 (Jt3 s (l.take k)))]⟩) (fun k=>k≤l.length) (fun k=>l.length - k) 0 Jqb (Nat.zero_le _) ?_;rintro k hk;by_cases hlt:¬ k<l.length
 ·have hk2:k=l.length:=by omega
  subst hk2;have c1:((l.length:Int)<(l.length:Int))=False:=eq_false omg;have ht1:l.take l.length=l:=List.take_of_length_le (Nat.le_refl _);have ht2:(Jt3 s l).take l.length=Jt3 s l:=List.take_of_length_le (by rw [Jxy];omega);have hle:(l.length≤l.length)=True:=eq_true (Nat.le_refl _);(refine lws ?_;simp only [go_sem,simprocAttr,c1,ht1,ht2,Jxy,hle])
  skip
 ·have hlt:=Decidable.not_not.1 hlt;have c1:((k:Int)<(l.length:Int))=True:=eq_true omg;obtain ⟨p,hp⟩:∃ p,l[k]? = some p:=⟨_,List.getElem?_eq_getElem hlt⟩
  have hg:=Hx hp;have hK:=d_Key s p.2 hs (hv p (List.mem_of_getElem? hp));have hpl:(Jt3 s (l.take k)).length=k:=by rw [Jxy,List.length_take];omega
  have htk:=J6c (s:=s) hp;(refine lws ?_;simp only [go_sem,simprocAttr,c1,hg,wj1 (i:=k) omg]);(repeat' (first | ((refine Jqa (hK) ?_);simp only [go_sem,simprocAttr,hpl,wj1 (i:=k) omg]) | fail));exact ⟨by simp,by omega,by omega,k+1,by omega,by omega,by rw [htk];exact Jqb⟩
theorem J2r (v u:List Node) (hv:v.length≤1000000) (hu:u.length≤1000000):Det cx 208 [.p (.sl (valL v)),.p (.sl (valL u))] [] (.p (.bool (decide (v=u)))) []:=by
 by_cases hl:v.length=u.length
 ·have c0:((v.length:Int)=(u.length:Int))=True:=eq_true omg;(refine bgo Tryz.func208 ?_;simp only [go_sem,simprocAttr,A7,c0,not_true_eq_false]);refine SWP.loop (fun i:Nat=>⟨Ba 26 [(0,.p (.sl (valL v))),(1,.p (.sl (valL u))),(11,.p (.sl (valL v))),(12,.p (.int .i64 v.length)),(13,.p (.int .i64 i))],[]⟩) (fun i=>i≤v.length∧v.take i=u.take i) (fun i=>v.length - i) 0 Jqb ⟨Nat.zero_le _,rfl⟩ ?_;rintro i ⟨h1,h3⟩;by_cases hi:¬ i<v.length
  ·have c1:((i:Int)<(v.length:Int))=False:=eq_false omg;(refine lws ?_;simp only [go_sem,simprocAttr,decide_false,c1]);rw [List.take_of_length_le omg,List.take_of_length_le omg] at h3;exact (decide_eq_true h3).symm
  ·have hi:=Decidable.not_not.1 hi;have c1:((i:Int)<(v.length:Int))=True:=eq_true omg;obtain ⟨x,hx⟩:∃ x,v[i]? = some x:=⟨_,List.getElem?_eq_getElem hi⟩
   obtain ⟨y,hy⟩:∃ y,u[i]? = some y:=⟨_,List.getElem?_eq_getElem omg⟩
   have hgx:=P8 hx;have hgy:=P8 hy;have w1:=wi1 (i:=i) omg;(refine lws ?_;simp only [go_sem,simprocAttr,c1]);(repeat' (first | (apply iteI <;> intro h)|((refine Jqk ?_);simp only [go_sem,simprocAttr,Jma,hgx,hgy,w1]) | fail))
   ·have hxy:=(show ¬ x=y by assumption)
    refine (decide_eq_false fun e=>hxy ?_).symm;subst e;rw [hx] at hy;exact Option.some.inj hy
   ·have hxy:=Decidable.not_not.1 (show ¬ ¬ x=y by assumption);subst hxy;refine ⟨i+1,⟨by omega,?_⟩,by omega,Jqb⟩;rw [List.take_add_one,List.take_add_one,h3,hx,hy]
 ·have c0:((v.length:Int)=(u.length:Int))=False:=eq_false omg;(refine bgo Tryz.func208 ?_;simp only [go_sem,simprocAttr,A7,c0,not_false_eq_true]);exact (decide_eq_false fun e=>hl (by rw [e])).symm
theorem d_vSame (v u:List Node) (hv:v.length≤1000000) (hu:u.length≤1000000):Det cx 138 [.p (.sl (valL v)),.p (.sl (valL u))] [] (.p (.bool (decide (v=u)))) []:=by
 (refine bgo Tryz.func138 ?_;simp only [go_sem,simprocAttr]);(repeat' (first | ((refine Jqa (J2r v u hv hu) ?_);simp only [go_sem,simprocAttr]) | fail))
def Jzu (t:Tree) (name:List UInt8):Option Tree:=if t.kind=6 then Ch name t.kids.list else none
theorem Jwr (t:Tree) (name:List UInt8) (hv:(t.enc []).length≤1000000):Det cx 133 [.p (.sl (valL (t.enc []))),.p (.str name)] [] (Oo (Jzu t name)) []:=by
 cases t with
 | mk k s g e kids =>
 rw [A6,List.length_cons] at hv;by_cases hk:k=6
 ·subst hk;exact Jdk [] s g e kids name omg
 ·have hf:Jzu (.mk k s g e kids) name=none:=if_neg hk;have hg:=Cc [] k s g e kids;have c1:(k=6)=False:=eq_false hk;rw [hf,Oo];(refine bgo Tryz.func133 ?_;simp only [go_sem,simprocAttr,hg,c1,not_false_eq_true])
  skip
theorem J3e (v:List YRow) (i:Nat) (nm:List UInt8) (t:RT) (rest:List YRow) (hv:v.length≤1000000) (h:v.drop i=t.enc nm ++ rest):Det cx 73 [.p (.sl (rowL v)),.p (.int .i64 i)] [] (.p (.int .i64 (i+(t.enc nm).length:Nat))) []:=by
 (refine bgo Tryz.func73 ?_;simp only [go_sem,simprocAttr]);have hp:=Jso t nm;have hb:=Jvf h (fun e=>by have e2:(t.enc nm ++ rest).length=0:=(by rw [e];rfl);rw [List.length_append] at e2;omega);rw [List.length_append] at hb;refine SWP.loop (fun x:Nat×Nat×RF=>⟨Ba 41 [(0,.p (.sl (rowL v))),(1,.p (.int .i64 x.1)),(5,.p (.int .i64 x.2.1))],[]⟩) (fun x=>x.2.1=x.2.2.len∧v.drop x.1=x.2.2.enc ++ rest∧x.1+x.2.2.enc.length=i+(t.enc nm).length) (fun x=>x.2.2.enc.length) (i,1,.cons nm t .nil) Jqb ⟨rfl,by simp [Jqg,Jq2,h],by simp [Jqg,Jq2]⟩ ?_;rintro ⟨j,left,F⟩ ⟨h0,h1,h2⟩;simp only at h0 h1 h2
 match F,h0,h1,h2 with
 | .nil,h0,h1,h2 =>
  rw [Jq2] at h2;simp only [RF.len] at h0;subst h0;have c0:((0:Int)<((0:Nat):Int))=False:=eq_false omg;(refine lws ?_;simp only [go_sem,simprocAttr]);simp only [List.length_nil] at h2;omega
 | .cons nm' (.mk k s g e kids) r,h0,h1,h2 =>
  rw [Jr3] at h0;rw [Jqg,Jqo] at h1 h2;have hg:=Jsa h1;rw [Jq9] at hg;simp only [List.length_cons,List.length_append] at h2;have hl1:=Jq3 kids;have hl2:=Jq3 r;have w0:IntKind.i64.wrap ((left:Int) - 1)=(r.len:Int):=by rw [Aa omg omg];omega
  have w1:IntKind.i64.wrap ((r.len:Int)+(kids.len:Int))=((r.len+kids.len:Nat):Int):=by rw [Aa omg omg];omega
  (refine lws ?_;simp only [go_sem,simprocAttr,wj1 (i:=j) omg,hg,w0,w1,Jqi]);(repeat' (first | (apply iteI <;> intro h)|(exfalso;omega)))
  ·exact ⟨(j+1,r.len+kids.len,kids.app r),⟨by simp only [Jsb];omega,by
    simp only [Jqr];rw [← List.drop_drop,h1];simp,by simp only [Jqr,List.length_append];omega⟩,by simp only [Jqr,Jqg,Jqo,List.length_append,List.length_cons];omega,Jqb⟩
theorem J5x (v:List YRow) (hv:v.length≤10000):Det cx 73 [.p (.sl (rowL v)),.p (.int .i64 0)] [] (.p (.int .i64 (Jsw v 0 1))) []:=by
 (refine bgo Tryz.func73 ?_;simp only [go_sem,simprocAttr]);refine SWP.loop (fun x:Nat×Nat=>⟨Ba 41 [(0,.p (.sl (rowL v))),(1,.p (.int .i64 x.1)),(5,.p (.int .i64 x.2))],[]⟩) (fun x=>x.1≤v.length∧x.2≤1+x.1 * 10000∧Jsw v x.1 x.2=Jsw v 0 1) (fun x=>v.length - x.1) (0,1) Jqb ⟨Nat.zero_le _,by simp,rfl⟩ ?_;rintro ⟨i,o⟩ ⟨h1,h2,h3⟩;simp only at h1 h2 h3;by_cases ho:o=0
 ·subst ho;rw [J5z] at h3;have c0:((0:Int)<((0:Nat):Int))=False:=eq_false omg;(refine lws ?_;simp only [go_sem,simprocAttr]);rw [h3]
 ·have c0:((0:Int)<(o:Int))=True:=eq_true omg;by_cases hi:¬ i<v.length
  ·have c1:((v.length:Int)≤(i:Int))=True:=eq_true omg;rw [J8e omg omg] at h3;(refine lws ?_;simp only [go_sem,simprocAttr,Jqi,c0,c1]);rw [← h3]
  ·have hi:=Decidable.not_not.1 hi;have c1:((v.length:Int)≤(i:Int))=False:=eq_false omg;obtain ⟨n,hn⟩:∃ n,v[i]? = some n:=⟨_,List.getElem?_eq_getElem hi⟩
   have hg:=Jue hn;by_cases hb:n.many<0∨(v.length:Int)<n.many
   ·rw [J7w hn omg hb] at h3;by_cases hb1:n.many<0
    ·have c2:(n.many<0)=True:=eq_true hb1;(refine lws ?_;simp only [go_sem,simprocAttr,Jqi,c0,c1,c2,hg]);rw [← h3]
    ·have c2:(n.many<0)=False:=eq_false hb1;have c3:((v.length:Int)<n.many)=True:=eq_true omg;(refine lws ?_;simp only [go_sem,simprocAttr,Jqi,c0,c1,c2,c3,hg]);rw [← h3]
   ·have c2:(n.many<0)=False:=eq_false omg;have c3:((v.length:Int)<n.many)=False:=eq_false omg;obtain ⟨o',rfl⟩:∃ o',o=o'+1:=⟨o - 1,by omega⟩
    rw [J6d hn hb] at h3;have w1:IntKind.i64.wrap (((o'+1:Nat):Int) - 1)=(o':Int):=by rw [Aa omg omg];omega
    have w2:IntKind.i64.wrap ((o':Int)+n.many)=((o'+n.many.toNat:Nat):Int):=by rw [Aa omg omg];omega
    have w3:=wj1 (i:=i) omg;(refine lws ?_;simp only [go_sem,simprocAttr,Jqi,c0,c1,c2,c3,hg,w1,w2,w3]);exact ⟨(i+1,o'+n.many.toNat),⟨by simp only;omega,by simp only;omega,h3⟩,by simp only;omega,Jqb⟩
theorem J1t {v:List YRow} {j:Nat} {nm:List UInt8} {t:RT} {b:List YRow} (h:v.drop j=t.enc nm ++ b):∃ (k n:Int) (s:List UInt8) (g:Int) (e:Node),(rowL v)[j]? = some [.int .i64 k,.int .i64 n,.str nm,.str s,.int .i64 g,.int .i64 e.kind,.int .i64 e.many,.str e.name,.str e.s,.bool e.neg,.int .i64 e.e]:=by
 cases t with
 | mk k s g e kids =>
  rw [Jqo] at h;exact ⟨k,kids.len,s,g,e,Jsa h⟩
def J58 (l:List (List UInt8×RT)):List (List PV):=l.map fun p=>[.str p.1]
@[simp] theorem tnameL_nil:J58 []=[]:=rfl
theorem tnameL_len (l:List (List UInt8×RT)):(J58 l).length=l.length:=by simp [J58]
structure VFit (x:Tree):Prop where
 ok:okT x
 fit:FitT x
 len:(x.enc []).length≤1000000
def InOK (t:RT):Prop:=∀ x:Tree,VFit x→Det cx 17 [.p (.sl (rowL (t.enc []))),.p (.sl (valL (x.enc [])))] [] (.p (.bool (inTy t x))) []
theorem VFit.kid {k:Int} {s:List UInt8} {g:Bool} {e:Int} {kids:Forest} (h:VFit (.mk k s g e kids)) {p:KT} (hp:p∈kids.list):VFit p.2:=by
 have h3:=h.len;rw [A6,List.length_cons] at h3;exact ⟨Jut h.ok hp,(Mg h.fit hp).2,by have:=Jd7 hp;omega⟩
theorem k72:cx.kind 53=0:=rfl
theorem k142:cx.kind 132=0:=rfl
theorem k143:cx.kind 134=0:=rfl
theorem k144:cx.kind 135=0:=rfl
theorem k145:cx.kind 136=0:=rfl
theorem k146:cx.kind 137=0:=rfl
theorem Jvp (l:List KT):∀ q∈A4 l,∃ x,q=[x]:=by
 intro q hq;obtain ⟨p,_,rfl⟩:=List.mem_map.1 hq;exact ⟨_,rfl⟩
theorem J5r (l:List RKT):∀ q∈Jqu l,∃ x,q=[x]:=by
 intro q hq;obtain ⟨p,_,rfl⟩:=List.mem_map.1 hq;exact ⟨_,rfl⟩
theorem Jyu {l:List KT} {i:Nat} {x:PV} (h:(A4 l)[i]? = some [x]):∃ q,l[i]? = some q∧x=.sl (valL (q.2.enc [])):=by
 unfold A4 at h;rw [List.getElem?_map] at h;obtain ⟨q,h1,h2⟩:=Option.map_eq_some_iff.1 h;exact ⟨q,h1,by cases h2;rfl⟩
theorem Kby {l:List RKT} {i:Nat} {x:PV} (h:(Jqu l)[i]? = some [x]):∃ q,l[i]? = some q∧x=.sl (rowL (q.2.enc [])):=by
 unfold Jqu at h;rw [List.getElem?_map] at h;obtain ⟨q,h1,h2⟩:=Option.map_eq_some_iff.1 h;exact ⟨q,h1,by cases h2;rfl⟩
theorem d_In1 (rows:List RKT) (r:RKT) (h0:rows[0]? = some r) (hI:InOK r.2) (x:Tree) (hx:VFit x):Det cx 53 [.p (.sl (valL (x.enc []))),.ptr 1000 0 0] [(1000,.var 35 [.p (.sl (Jqu rows))])] (.p (.bool (inTy r.2 x))) [(1000,.var 35 [.p (.sl (Jqu rows))])]:=by
 have hg:=J0v h0;have hC:=hI x hx;(refine bgo Tryz.func53 ?_;simp only [go_sem,simprocAttr,hg]);(repeat' (first | ((refine Jqa (hC) ?_);simp only [go_sem,simprocAttr]) | fail))
theorem J9f {P:Tree→Bool} {l:List KT}:allF (fun i=>P (l.getD i kd0).2) l.length 0=allP P l:=Jxs (P:=fun q:KT=>P q.2) (d:=kd0) (l:=l) (m:=l) (i:=0) rfl
theorem d_allOf (rows:List RKT) (r:RKT) (h0:rows[0]? = some r) (hI:InOK r.2) (l:List KT) (hl:l.length≤1000000) (hx:∀ q∈l,VFit q.2):Det cx 58 [.p (.sl (A4 l)),.fn 53 [1000]] [(1000,.var 35 [.p (.sl (Jqu rows))])] (.p (.bool (allP (inTy r.2) l))) [(1000,.var 35 [.p (.sl (Jqu rows))])]:=by
 have:=Jxt 53 k72 35 (.sl (Jqu rows)) (A4 l) (Jvp l) (by rw [A5];exact hl) (fun i=>inTy r.2 (l.getD i kd0).2) (fun i x h=>by
  obtain ⟨q,hq,rfl⟩:=Jyu h;rw [Jui hq];exact d_In1 rows r h0 hI q.2 (hx q (List.mem_of_getElem? hq)))
 rw [A5,J9f] at this;exact this
theorem d_In11 (t:RT) (hI:InOK t) (x:Tree) (hx:VFit x):Det cx 136 [.p (.sl (valL (x.enc []))),.ptr 1000 0 0] [(1000,.var 23 [.p (.sl (rowL (t.enc [])))])] (.p (.bool (inTy t x))) [(1000,.var 23 [.p (.sl (rowL (t.enc [])))])]:=by
 have hC:=hI x hx;(refine bgo Tryz.func136 ?_;simp only [go_sem,simprocAttr]);(repeat' (first | ((refine Jqa (hC) ?_);simp only [go_sem,simprocAttr]) | fail))
theorem Kbn (t:RT) (hI:InOK t) (l:List KT) (hl:l.length≤1000000) (hx:∀ q∈l,VFit q.2):Det cx 58 [.p (.sl (A4 l)),.fn 136 [1000]] [(1000,.var 23 [.p (.sl (rowL (t.enc [])))])] (.p (.bool (allP (inTy t) l))) [(1000,.var 23 [.p (.sl (rowL (t.enc [])))])]:=by
 have:=Jxt 136 k145 23 (.sl (rowL (t.enc []))) (A4 l) (Jvp l) (by rw [A5];exact hl) (fun i=>inTy t (l.getD i kd0).2) (fun i x h=>by
  obtain ⟨q,hq,rfl⟩:=Jyu h;rw [Jui hq];exact d_In11 t hI q.2 (hx q (List.mem_of_getElem? hq)))
 rw [A5,J9f] at this;exact this
theorem treeL_x {l:List Tree} {i:Nat} {x:PV} (h:(Jqm l)[i]? = some [x]):∃ q,l[i]? = some q∧x=.sl (valL (q.enc [])):=by
 unfold Jqm at h;rw [List.getElem?_map] at h;obtain ⟨q,h1,h2⟩:=Option.map_eq_some_iff.1 h;exact ⟨q,h1,by cases h2;rfl⟩
theorem J71 (l:List Tree):∀ q∈Jqm l,∃ x,q=[x]:=by
 intro q hq;obtain ⟨p,_,rfl⟩:=List.mem_map.1 hq;exact ⟨_,rfl⟩
def tr0:Tree:=.mk 0 [] false 0 .nil
theorem d_In12 (ks:List Tree) (w:Tree) (h0:ks[0]? = some w) (hw:(w.enc []).length≤1000000) (x:Tree) (hx:(x.enc []).length≤1000000):Det cx 137 [.p (.sl (valL (x.enc []))),.ptr 1000 0 0] [(1000,.var 45 [.p (.sl (Jqm ks))])] (.p (.bool (Jv4 x w))) [(1000,.var 45 [.p (.sl (Jqm ks))])]:=by
 have hg:=Jr4 h0;have hC:=d_vSame (x.enc []) (w.enc []) hx hw;rw [show decide (x.enc []=w.enc [])=Jv4 x w from rfl] at hC;(refine bgo Tryz.func137 ?_;simp only [go_sem,simprocAttr,hg]);(repeat' (first | ((refine Jqa (hC) ?_);simp only [go_sem,simprocAttr]) | fail))
theorem J73 (ks:List Tree) (w:Tree) (h0:ks[0]? = some w) (hl:ks.length≤1000000) (hx:∀ q∈ks,(q.enc []).length≤1000000):Det cx 58 [.p (.sl (Jqm ks)),.fn 137 [1000]] [(1000,.var 45 [.p (.sl (Jqm ks))])] (.p (.bool (ks.all fun k=>Jv4 k w))) [(1000,.var 45 [.p (.sl (Jqm ks))])]:=by
 have:=Jxt 137 k146 45 (.sl (Jqm ks)) (Jqm ks) (J71 ks) (by rw [Jqq];exact hl) (fun i=>Jv4 (ks.getD i tr0) w) (fun i x h=>by
  obtain ⟨q,hq,rfl⟩:=treeL_x h;rw [Jui hq];exact d_In12 ks w h0 (hx w (List.mem_of_getElem? h0)) q (hx q (List.mem_of_getElem? hq)))
 rw [Jqq,Jxs (P:=fun k=>Jv4 k w) (d:=tr0) (l:=ks) (m:=ks) (i:=0) rfl] at this;exact this
def Jrf (rows:List RKT) (i:Nat):Nat:=1+((rows.take i).map fun p=>(p.2.enc p.1).length).sum
theorem J38 {rows:List RKT} {i:Nat} {r:RKT} (h:rows[i]? = some r):Jrf rows (i+1)=Jrf rows i+(r.2.enc r.1).length:=by
 unfold Jrf;rw [List.take_add_one,h];simp;omega
theorem Jwq:∀ {f:RF} {i:Nat} {r:RKT},f.list[i]? = some r→∃ b,f.enc.drop (Jrf f.list i - 1)=r.2.enc r.1 ++ b
 | .nil,i,r,h=>by simp [RF.list] at h
 | .cons nm t f,0,r,h=>by
  simp only [RF.list,List.getElem?_cons_zero,Option.some.injEq] at h;subst h;exact ⟨f.enc,by rw [Jqg];simp [Jrf]⟩
 | .cons nm t f,i+1,r,h=>by
  simp only [RF.list,List.getElem?_cons_succ] at h;obtain ⟨b,hb⟩:=Jwq h;refine ⟨b,?_⟩;rw [← hb,Jqg];have e:Jrf (RF.cons nm t f).list (i+1) - 1=(t.enc nm).length+(Jrf f.list i - 1):=by simp [Jrf,RF.list]
  rw [e,← List.drop_drop,List.drop_left]
theorem Kbh {f:RF} {i:Nat} {r:RKT} (h:f.list[i]? = some r):Jrf f.list i+(r.2.enc r.1).length≤f.enc.length+1:=by
 obtain ⟨b,hb⟩:=Jwq h;have:=congrArg List.length hb;rw [List.length_drop,List.length_append] at this;have hp:=Jso r.2 r.1;have h1:1≤Jrf f.list i:=by unfold Jrf;omega
 omega
theorem J8x (n:Int) (c:Node) (s:List UInt8) (f:RF) (i:Nat) (r:RKT) (hr:f.list[i]? = some r) (hv:f.enc.length≤999999) (hI:InOK r.2) (vs:List UInt8) (vg:Bool) (ve:Int) (kids:Forest) (hx:VFit (.mk 6 vs vg ve kids)):Det cx 132 [.p (.sl (rowL (r.2.enc []))),.ptr 1000 0 0,.ptr 1001 0 0,.ptr 1002 0 0] [(1000,.var 25 [.p (.sl (valL ((Tree.mk 6 vs vg ve kids).enc [])))]),(1001,.var 23 [.p (.sl (rowL ((RT.mk 2 s n c f).enc [])))]),(1002,.var 3 [.p (.int .i64 (Jrf f.list i))])] (.p (.bool (Jw2 kids.list r.1 (inTy r.2)))) [(1000,.var 25 [.p (.sl (valL ((Tree.mk 6 vs vg ve kids).enc [])))]),(1001,.var 23 [.p (.sl (rowL ((RT.mk 2 s n c f).enc [])))]),(1002,.var 3 [.p (.int .i64 (Jrf f.list (i+1)))])]:=by
 obtain ⟨b,hb⟩:=Jwq hr;have hpl:=Kbh hr;have h1:1≤Jrf f.list i:=by unfold Jrf;omega
 have hd:((RT.mk 2 s n c f).enc []).drop (Jrf f.list i)=r.2.enc r.1 ++ b:=by
  obtain ⟨j,hj⟩:∃ j,Jrf f.list i=j+1:=⟨Jrf f.list i - 1,by omega⟩
  rw [hj] at hb ⊢;rw [Jqo,List.drop_succ_cons];exact hb
 obtain ⟨k',n',s',g',e',hga⟩:=J1t hd;have w1:IntKind.i64.wrap ((Jrf f.list i:Int)+((r.2.enc []).length:Int))=(Jrf f.list (i+1):Int):=by
  rw [J38 hr,← J6v r.2 r.1,Aa omg omg];omega
 have hlen:=hx.len;have hF:=Jwr (.mk 6 vs vg ve kids) r.1 hlen;have hfl:Jzu (.mk 6 vs vg ve kids) r.1=Ch r.1 kids.list:=if_pos rfl;rw [hfl] at hF;cases hf:Ch r.1 kids.list with
 | none =>
  rw [hf,Oo] at hF;rw [show Jw2 kids.list r.1 (inTy r.2)=false by unfold Jw2;rw [hf]];(refine bgo Tryz.func132 ?_;simp only [go_sem,simprocAttr]);(repeat' (first | ((first | (refine Jqk ?_)|(refine Jqd (hF) ?_));simp only [go_sem,simprocAttr,hga,w1,Jqi]) | fail))
 | some u =>
  rw [hf,Oo] at hF;rw [show Jw2 kids.list r.1 (inTy r.2)=inTy r.2 u by unfold Jw2;rw [hf]];obtain ⟨p,hp,rfl,_⟩:=H2 hf;have hC:=hI p.2 (hx.kid hp);(refine bgo Tryz.func132 ?_;simp only [go_sem,simprocAttr]);(repeat' (first | ((first | (refine Jqk ?_)|(refine Jqd (hF) ?_)|(refine Jqa (hC) ?_));simp only [go_sem,simprocAttr,hga,w1,Jqi]) | fail))
theorem J9w (n:Int) (c:Node) (s:List UInt8) (f:RF) (hv:f.enc.length≤999999) (hI:∀ r∈f.list,InOK r.2) (vs:List UInt8) (vg:Bool) (ve:Int) (kids:Forest) (hx:VFit (.mk 6 vs vg ve kids)):Det cx 54 [.p (.sl (rowL ((RT.mk 2 s n c f).enc []))),.p (.sl (valL ((Tree.mk 6 vs vg ve kids).enc [])))] [] (.p (.bool ((decide (n≠0) || decide (kids.len=f.list.length)) && objS kids.list f.list (inL f)))) []:=by
 have hfl:=Jrc f;have hll:=Jq3 f;have hA:=J6r 132 k142 25 23 3 (Jqu f.list) (J5r _) (by rw [Jrm];omega) (fun _=>.sl (valL ((Tree.mk 6 vs vg ve kids).enc []))) (fun _=>.sl (rowL ((RT.mk 2 s n c f).enc []))) (fun i=>.int .i64 (Jrf f.list i)) (objB kids.list f.list) (fun _=>True) trivial (fun i x h _=>by
  obtain ⟨r,hr,rfl⟩:=Kby h;refine ⟨_,_,_,?_,fun _=>⟨rfl,rfl,rfl,trivial⟩⟩;rw [show objB kids.list f.list i=Jw2 kids.list r.1 (inTy r.2) by unfold objB;rw [hr]];exact J8x n c s f i r hr hv (hI r (List.mem_of_getElem? hr)) vs vg ve kids hx)
 rw [Jrm,J36 (m:=f.list) (i:=0) rfl,← Jyw] at hA;have hA2:=Al.perm (rs':=[(1002,.var 3 [.p (.int .i64 (Jrf f.list 0))]),(1000,.var 25 [.p (.sl (valL ((Tree.mk 6 vs vg ve kids).enc [])))]),(1001,.var 23 [.p (.sl (rowL ((RT.mk 2 s n c f).enc [])))])]) (by
  refine .trans (.swap _ _ _) ?_;exact .cons _ (.swap _ _ _)) hA
 have hp0:((Jrf f.list 0:Nat):Int)=1:=rfl;rw [hp0] at hA2;have hA3:Det cx 131 _ _ _ _:=hA2;have hP:=Jzj [] 2 s n c f hv de;have hgt:(rowL ((RT.mk 2 s n c f).enc []))[0]? = some [.int .i64 2,.int .i64 f.len,.str [],.str s,.int .i64 n,.int .i64 c.kind,.int .i64 c.many,.str c.name,.str c.s,.bool c.neg,.int .i64 c.e]:=by rw [Jqo];rfl
 have hgv:=Cc [] 6 vs vg ve kids;by_cases hn:n=0
 ·by_cases hk:(kids.len:Int)=(f.len:Int)
  ·have c2:(n=0)=True:=eq_true hn;have c3:((kids.len:Int)=(f.len:Int))=True:=eq_true hk;rw [show (decide (n≠0) || decide (kids.len=f.list.length))=true by simp;right;omega,Bool.true_and];(refine bgo Tryz.func54 ?_;simp only [go_sem,simprocAttr]);(repeat' (first | ((first | (refine Jqk ?_)|(refine Jqa (hP) ?_)|(refine Jqa (hA3) ?_));simp only [go_sem,simprocAttr,hgt,hgv,c2,c3,not_true_eq_false]) | fail))
  ·have c2:(n=0)=True:=eq_true hn;have c3:((kids.len:Int)=(f.len:Int))=False:=eq_false hk;rw [show (decide (n≠0) || decide (kids.len=f.list.length))=false by simp [hn];omega,Bool.false_and];(refine bgo Tryz.func54 ?_;simp only [go_sem,simprocAttr]);(repeat' (first | ((refine Jqk ?_);simp only [go_sem,simprocAttr,hgt,hgv,c2,c3,not_false_eq_true]) | fail))
 ·have c2:(n=0)=False:=eq_false hn;rw [show (decide (n≠0) || decide (kids.len=f.list.length))=true by simp [hn],Bool.true_and];(refine bgo Tryz.func54 ?_;simp only [go_sem,simprocAttr]);(repeat' (first | ((first | (refine Jqk ?_)|(refine Jqa (hP) ?_)|(refine Jqa (hA3) ?_));simp only [go_sem,simprocAttr,hgt,c2]) | fail))
theorem Juj {k:Int} {s:List UInt8} {g:Bool} {e:Int} {kids:Forest}:entK (.mk k s g e kids)=if k=6∧kids.len=2 then (match Ch sKey kids.list,Ch sVal kids.list with
  | some (.mk k' s' _ _ _),some x=>if k'=4 then some (s',x) else none
  | _,_=>none) else none:=rfl
theorem J7j (a b:List UInt8):(Op.bytesLess a b || a == b) = !Op.bytesLess b a:=by
 cases h:Op.bytesLess b a with
 | true =>
  rw [L3 h];simp [Ne.symm (Kbu h)]
 | false =>
  by_cases he:a=b
  ·simp [he]
  ·rw [Qf h (Ne.symm he)];rfl
theorem Kbm (t:RT) (hI:InOK t) (l:List KT) (i:Nat) (q:KT) (hq:l[i]? = some q) (hx:VFit q.2):∃ d0 d1 d2,Det cx 134 [.p (.sl (valL (q.2.enc []))),.ptr 1000 0 0,.ptr 1001 0 0,.ptr 1002 0 0] [(1000,.var 4 [.p (.bool (decide (i=0)))]),(1001,.var 9 [.p (.str (if i=0 then [] else keyK (l.getD (i - 1) kd0).2))]),(1002,.var 23 [.p (.sl (rowL (t.enc [])))])] (.p (.bool (entB (inTy t) l i))) [(1000,.var 4 [.p d0]),(1001,.var 9 [.p d1]),(1002,.var 23 [.p d2])]∧(entB (inTy t) l i=true→d0=.bool (decide (i+1=0))∧d1=.str (if i+1=0 then [] else keyK (l.getD (i+1 - 1) kd0).2)∧d2=.sl (rowL (t.enc []))):=by
 obtain ⟨nm,x⟩:=q;have hg:l.getD i kd0=(nm,x):=Jui hq;have hx:VFit x:=hx;have hE:entB (inTy t) l i=match entK x with
   | none=>false
   | some (key,u)=>(if i=0 then true else Op.bytesLess (keyK (l.getD (i - 1) kd0).2) key) && inTy t u:=by
  unfold entB;rw [hg];rfl
 have hb1:decide (i+1=0)=false:=rfl;have hb2:(if i+1=0 then ([]:List UInt8) else keyK (l.getD (i+1 - 1) kd0).2)=keyK x:=by
  rw [if_neg omg,Nat.add_sub_cancel,hg]
 rw [hb1,hb2,hE];generalize hlast:(if i=0 then ([]:List UInt8) else keyK (l.getD (i - 1) kd0).2)=last;have hF1:=Jwr x sKey hx.len;have hF2:=Jwr x sVal hx.len;unfold sKey at hF1;unfold sVal at hF2;cases x with
 | mk k s g e kids =>
 have hgx:=Cc [] k s g e kids;by_cases hk:k=6
 ·subst hk;rw [show Jzu (.mk 6 s g e kids) [107,101,121]=Ch sKey kids.list from if_pos rfl] at hF1;rw [show Jzu (.mk 6 s g e kids) [118,97,108,117,101]=Ch sVal kids.list from if_pos rfl] at hF2;cases h1:Ch sKey kids.list with
  | none =>
   rw [h1,Oo] at hF1;rw [show entK (.mk 6 s g e kids)=none by rw [Juj,h1];split <;> rfl];cases h2:Ch sVal kids.list with
   | none =>
    rw [h2,Oo] at hF2;refine ⟨.bool (decide (i=0)),.str last,.sl (rowL (t.enc [])),?_,fun h=>by cases h⟩;(refine bgo Tryz.func134 ?_;simp only [go_sem,simprocAttr]);(repeat' (first | ((first | (refine Jqk ?_)|(refine Jqa (hF1) ?_)|(refine Jqa (hF2) ?_));simp only [go_sem,simprocAttr]) | fail))
   | some u =>
    rw [h2,Oo] at hF2;refine ⟨.bool (decide (i=0)),.str last,.sl (rowL (t.enc [])),?_,fun h=>by cases h⟩;(refine bgo Tryz.func134 ?_;simp only [go_sem,simprocAttr]);(repeat' (first | ((first | (refine Jqk ?_)|(refine Jqa (hF1) ?_)|(refine Jqa (hF2) ?_));simp only [go_sem,simprocAttr]) | fail))
  | some kt =>
   rw [h1,Oo] at hF1;cases h2:Ch sVal kids.list with
   | none =>
    rw [h2,Oo] at hF2;rw [show entK (.mk 6 s g e kids)=none by rw [Juj,h1,h2];cases kt;split <;> rfl];refine ⟨.bool (decide (i=0)),.str last,.sl (rowL (t.enc [])),?_,fun h=>by cases h⟩;(refine bgo Tryz.func134 ?_;simp only [go_sem,simprocAttr]);(repeat' (first | ((first | (refine Jqk ?_)|(refine Jqa (hF1) ?_)|(refine Jqa (hF2) ?_));simp only [go_sem,simprocAttr]) | fail))
   | some u =>
    rw [h2,Oo] at hF2;obtain ⟨kk,ks,kg,ke,kkids⟩:=kt;have hgk:=Cc [] kk ks kg ke kkids;by_cases hm2:kids.len=2
    ·by_cases hk4:kk=4
     ·subst hk4;rw [show entK (.mk 6 s g e kids)=some (ks,u) by rw [Juj,if_pos ⟨rfl,hm2⟩,h1,h2];rfl];rw [show keyK (.mk 6 s g e kids)=ks by unfold keyK;rw [Juj,if_pos ⟨rfl,hm2⟩,h1,h2];rfl];obtain ⟨p,hp,rfl,_⟩:=H2 h2;have hC:=hI p.2 (hx.kid hp);have c3:((kids.len:Int)=2)=True:=eq_true omg;by_cases hi0:i=0
      ·rw [if_pos hi0] at hlast;have c4:(i=0)=True:=eq_true hi0;refine ⟨.bool false,.str ks,.sl (rowL (t.enc [])),?_,fun _=>⟨rfl,rfl,rfl⟩⟩;(refine bgo Tryz.func134 ?_;simp only [go_sem,simprocAttr,c4,decide_true,Bool.true_and]);(repeat' (first | ((first | (refine Jqk ?_)|(refine Jqa (hF1) ?_)|(refine Jqa (hF2) ?_)|(refine Jqa (hC) ?_));simp only [go_sem,simprocAttr,hgx,hgk,c3,Bool.true_and]) | fail))
      ·rw [if_neg hi0] at hlast;have c4:(i=0)=False:=eq_false hi0;rw [hlast];have hle:=J7j ks last;cases hbl:Op.bytesLess last ks with
       | true =>
        rw [hbl,Bool.not_true] at hle;refine ⟨.bool false,.str ks,.sl (rowL (t.enc [])),?_,fun _=>⟨rfl,rfl,rfl⟩⟩;(refine bgo Tryz.func134 ?_;simp only [go_sem,simprocAttr,c4,hbl,decide_false,Bool.true_and]);(repeat' (first | ((first | (refine Jqk ?_)|(refine Jqa (hF1) ?_)|(refine Jqa (hF2) ?_)|(refine Jqa (hC) ?_));simp only [go_sem,simprocAttr,hgx,hgk,c3,hle,Bool.true_and,Bool.not_true,Bool.not_false]) | fail))
       | false =>
        rw [hbl,Bool.not_false] at hle;refine ⟨.bool (decide (i=0)),.str last,.sl (rowL (t.enc [])),?_,fun h=>by simp [hi0,hlast,hbl] at h⟩;(refine bgo Tryz.func134 ?_;simp only [go_sem,simprocAttr,c4,hbl,decide_false,Bool.false_and]);(repeat' (first | ((first | (refine Jqk ?_)|(refine Jqa (hF1) ?_)|(refine Jqa (hF2) ?_));simp only [go_sem,simprocAttr,hgx,hgk,c3,hle,Bool.not_true,Bool.not_false]) | fail))
     ·rw [show entK (.mk 6 s g e kids)=none by rw [Juj,if_pos ⟨rfl,hm2⟩,h1,h2];exact if_neg hk4];have c3:((kids.len:Int)=2)=True:=eq_true omg;have c5:(kk=4)=False:=eq_false hk4;refine ⟨.bool (decide (i=0)),.str last,.sl (rowL (t.enc [])),?_,fun h=>by cases h⟩;(refine bgo Tryz.func134 ?_;simp only [go_sem,simprocAttr]);(repeat' (first | ((first | (refine Jqk ?_)|(refine Jqa (hF1) ?_)|(refine Jqa (hF2) ?_));simp only [go_sem,simprocAttr,hgx,hgk,c3,c5,not_false_eq_true]) | fail))
    ·rw [show entK (.mk 6 s g e kids)=none by rw [Juj,if_neg (fun h=>hm2 h.2)]];have c3:((kids.len:Int)=2)=False:=eq_false omg;refine ⟨.bool (decide (i=0)),.str last,.sl (rowL (t.enc [])),?_,fun h=>by cases h⟩;(refine bgo Tryz.func134 ?_;simp only [go_sem,simprocAttr]);(repeat' (first | ((first | (refine Jqk ?_)|(refine Jqa (hF1) ?_)|(refine Jqa (hF2) ?_));simp only [go_sem,simprocAttr,hgx,c3,not_false_eq_true]) | fail))
 ·rw [show Jzu (.mk k s g e kids) [107,101,121]=none from if_neg hk,Oo] at hF1;rw [show Jzu (.mk k s g e kids) [118,97,108,117,101]=none from if_neg hk,Oo] at hF2;rw [show entK (.mk k s g e kids)=none by rw [Juj,if_neg (fun h=>hk h.1)]];refine ⟨.bool (decide (i=0)),.str last,.sl (rowL (t.enc [])),?_,fun h=>by cases h⟩;(refine bgo Tryz.func134 ?_;simp only [go_sem,simprocAttr]);(repeat' (first | ((first | (refine Jqk ?_)|(refine Jqa (hF1) ?_)|(refine Jqa (hF2) ?_));simp only [go_sem,simprocAttr]) | fail))
theorem J8h (t:RT) (hI:InOK t) (l:List KT) (hl:l.length≤1000000) (hx:∀ q∈l,VFit q.2):Det cx 56 [.p (.sl (rowL (t.enc []))),.p (.sl (A4 l))] [] (.p (.bool (entS (inTy t) none l))) []:=by
 have hA:=J1q 134 k143 4 9 23 (A4 l) (Jvp l) (by rw [A5];exact hl) (fun i=>.bool (decide (i=0))) (fun i=>.str (if i=0 then [] else keyK (l.getD (i - 1) kd0).2)) (fun _=>.sl (rowL (t.enc []))) (entB (inTy t) l) (fun _=>True) trivial (fun i x h _=>by
  obtain ⟨q,hq,rfl⟩:=Jyu h;obtain ⟨d0,d1,d2,h1,h2⟩:=Kbm t hI l i q hq (hx q (List.mem_of_getElem? hq));exact ⟨d0,d1,d2,h1,fun hb=>⟨(h2 hb).1,(h2 hb).2.1,(h2 hb).2.2,trivial⟩⟩)
 rw [A5,J4y (m:=l) (i:=0) (last:=none) rfl rfl] at hA;have hA2:Det cx 58 [.p (.sl (A4 l)),.fn 134 [1000,1001,1002]] [(1000,.var 4 [.p (.bool true)]),(1001,.var 9 [.p (.str [])]),(1002,.var 23 [.p (.sl (rowL (t.enc [])))])] _ _:=hA;(refine bgo Tryz.func56 ?_;simp only [go_sem,simprocAttr]);(repeat' (first | ((refine Jqa (hA2) ?_);simp only [go_sem,simprocAttr]) | fail))
theorem J26 {t:RT} {s:List UInt8} (hL:Jsn t (Je s).1) {x:Tree} (hx:VFit x) (hi:inTy t x=true):∃ w,getT (Je s).1 x=.ok w∧okT w∧(w.enc []).length=1∧keyV s x=w.enc []∧keyT s x=w:=by
 obtain ⟨u,hu,hk⟩:=hL;obtain ⟨w,hw,hiw⟩:=J7a hu hi;obtain ⟨hlf,_⟩:=leaf_of hk hiw;refine ⟨w,hw,Joe hx.ok hw,?_,?_,?_⟩
 ·cases w with
  | mk k s g e kids =>
   cases kids with
   | nil=>rw [A6,Bl];rfl
   | cons a b c=>cases hlf
 ·unfold keyV;rw [hw]
 ·unfold keyT;rw [hw]
theorem Jxr {t:RT} {s:List UInt8} (hL:Jsn t (Je s).1):∀ {l:List KT},(∀ q∈l,VFit q.2)→allP (inTy t) l=true→Jt3 s l=Jqm (Jrt s l)∧∀ w∈Jrt s l,okT w∧(w.enc []).length=1
 | [],_,_=>⟨rfl,by simp [Jrt]⟩
 | q :: l,hx,ha=>by
  simp only [allP,List.all_cons,Bool.and_eq_true] at ha;obtain ⟨w,_,h2,h3,h4,h5⟩:=J26 hL (hx q List.mem_cons_self) ha.1;obtain ⟨i1,i2⟩:=Jxr (l:=l) hL (fun q hq=>hx q (List.mem_cons_of_mem _ hq)) ha.2;refine ⟨?_,?_⟩
  ·have e1:Jt3 s (q :: l)=[.sl (valL (keyV s q.2))] :: Jt3 s l:=rfl;have e2:Jqm (Jrt s (q :: l))=[.sl (valL ((keyT s q.2).enc []))] :: Jqm (Jrt s l):=rfl;rw [e1,e2,i1,h4,h5]
  ·intro v hv;rcases List.mem_cons.1 hv with rfl | hv
   ·show okT (keyT s q.2)∧((keyT s q.2).enc []).length=1;rw [h5];exact ⟨h2,h3⟩
   ·exact i2 v hv
def Juq (s:List UInt8) (l:List KT) (i:Nat):PV:=if i=0 then .snil else .sl (valL ((grpH s (l.getD (i - 1) kd0)).enc []))
def J2t (s:List UInt8) (l:List KT) (i:Nat):Prop:=i≠0→okT (grpH s (l.getD (i - 1) kd0))∧((grpH s (l.getD (i - 1) kd0)).enc []).length≤1000000
theorem J89 (t:RT) (hI:InOK t) (s:List UInt8) (hs:s.length≤1000000) (hL:Jsn t (Je s).1) (l:List KT) (i:Nat) (q:KT) (hq:l[i]? = some q) (hx:VFit q.2) (hpre:J2t s l i):∃ d0 d1 d2,Det cx 135 [.p (.sl (valL (q.2.enc []))),.ptr 1000 0 0,.ptr 1001 0 0,.ptr 1002 0 0] [(1000,.var 23 [.p (.sl (rowL (t.enc [])))]),(1001,.var 9 [.p (.str s)]),(1002,.var 25 [.p (Juq s l i)])] (.p (.bool (grpB (inTy t) s l i))) [(1000,.var 23 [.p d0]),(1001,.var 9 [.p d1]),(1002,.var 25 [.p d2])]∧(grpB (inTy t) s l i=true→d0=.sl (rowL (t.enc []))∧d1=.str s∧d2=Juq s l (i+1)∧J2t s l (i+1)):=by
 obtain ⟨nm,x⟩:=q;have hg:l.getD i kd0=(nm,x):=Jui hq;have hx:VFit x:=hx;unfold grpB;rw [hg];have hln:Juq s l (i+1)=.sl (valL ((grpH s (nm,x)).enc [])):=by unfold Juq;rw [if_neg omg,Nat.add_sub_cancel,hg]
 have hlo:okT (grpH s (nm,x))→((grpH s (nm,x)).enc []).length≤1000000→J2t s l (i+1):=fun a b _=>by rw [Nat.add_sub_cancel,hg];exact ⟨a,b⟩
 cases x with
 | mk k vs vg ve kids =>
 have hxl:=hx.len;rw [A6,List.length_cons] at hxl;have hll:=Jqh kids;have hkl:=Jqf kids;have hgx:=Cc [] k vs vg ve kids;by_cases hk:k=5
 ·subst hk;by_cases hn0:kids.len=0
  ·have c3:((kids.len:Int)=0)=True:=eq_true omg;rw [show Jsd (inTy t) (nm,Tree.mk 5 vs vg ve kids)=false by unfold Jsd;simp only [Tree.kids];simp [hn0],Bool.false_and];refine ⟨.sl (rowL (t.enc [])),.str s,Juq s l i,?_,fun h=>by cases h⟩;(refine bgo Tryz.func135 ?_;simp only [go_sem,simprocAttr,hgx,c3])
   skip
  ·have c3:((kids.len:Int)=0)=False:=eq_false omg;have hPt:=Px [] 5 vs vg ve kids omg;have hA1:=Kbn t hI kids.list omg (fun q hq=>hx.kid hq);cases hall:allP (inTy t) kids.list with
   | false =>
    rw [hall] at hA1;rw [show Jsd (inTy t) (nm,Tree.mk 5 vs vg ve kids)=false by unfold Jsd;simp only [Tree.kids];rw [show (kids.list.all fun x=>inTy t x.2)=false from hall];simp,Bool.false_and];refine ⟨.sl (rowL (t.enc [])),.str s,Juq s l i,?_,fun h=>by cases h⟩;(refine bgo Tryz.func135 ?_;simp only [go_sem,simprocAttr,hgx,c3]);(repeat' (first | ((first | (refine Jqa (hPt) ?_)|(refine Jqa (hA1) ?_));simp only [go_sem,simprocAttr,Bool.not_false]) | fail))
   | true =>
    rw [hall] at hA1;obtain ⟨hkt,hks⟩:=Jxr hL (fun q hq=>hx.kid hq) hall;have hK:=J4a s kids.list hs omg (fun q hq=>by have:=Jd7 hq;omega);rw [hkt] at hK;rw [show Jsd (inTy t) (nm,Tree.mk 5 vs vg ve kids)=true by unfold Jsd;simp only [Tree.kids];rw [show (kids.list.all fun x=>inTy t x.2)=true from hall];simp [Tree.kind,hn0],Bool.true_and];have hgh:grpH s (nm,Tree.mk 5 vs vg ve kids)=Jv2 (Jrt s kids.list):=rfl;simp only [Tree.kids];rw [hgh] at hln hlo ⊢;have hne:Jrt s kids.list≠[]:=by
     intro e;have:=congrArg List.length e;simp [Jrt,hkl,hn0] at this
    generalize hksE:Jrt s kids.list=ks at *
    obtain ⟨w,ks',rfl⟩:∃ w ks',ks=w :: ks':=by
     cases ks with
     | nil=>exact absurd rfl hne
     | cons a b=>exact ⟨a,b,rfl⟩
    rw [show Jv2 (w :: ks')=w from rfl] at hln hlo ⊢;obtain ⟨hw1,hw2⟩:=hks w List.mem_cons_self;have hkk:(w :: ks').length≤1000000:=by rw [← hksE];simp [Jrt];omega
    have hS:=J73 (w :: ks') w rfl hkk (fun q hq=>by have:=(hks q hq).2;omega);have hg0:(Jqm (w :: ks'))[0]? = some [.sl (valL (w.enc []))]:=rfl;generalize ((w :: ks').all fun k=>Jv4 k w)=one at hS ⊢;by_cases hi0:i=0
    ·rw [if_pos hi0,show Juq s l i=.snil from if_pos hi0,Bool.and_true];refine ⟨.sl (rowL (t.enc [])),.str s,.sl (valL (w.enc [])),?_,fun _=>⟨rfl,rfl,hln.symm,hlo hw1 omg⟩⟩;(refine bgo Tryz.func135 ?_;simp only [go_sem,simprocAttr,hgx,c3]);(repeat' (first | ((first | (refine Jqa (hPt) ?_)|(refine Jqa (hA1) ?_));simp only [go_sem,simprocAttr,Bool.not_true]) | fail));refine Ju2 4 [1] (.node 0 (.node 2 (.node 3 (.node 4 (.node 5 .leaf .nil) .nil) (.node 4 (.node 3 (.node 5 .leaf .nil) .nil) .nil)) (.node 4 (.node 2 (.node 3 (.node 5 .leaf .nil) .nil) .nil) .nil)) (.node 2 (.node 0 (.node 3 (.node 4 (.node 5 .leaf .nil) .nil) (.node 4 (.node 3 (.node 5 .leaf .nil) .nil) .nil)) (.node 4 (.node 0 (.node 3 (.node 5 .leaf .nil) .nil) .nil) .nil)) (.node 4 (.node 0 (.node 2 (.node 3 (.node 5 .leaf .nil) .nil) .nil) (.node 2 (.node 0 (.node 3 (.node 5 .leaf .nil) .nil) .nil) .nil)) .nil))) 5 hm rfl krf krf ?_;simp only [go_sem,simprocAttr];(repeat' (first | (refine And.intro ?_ ?_)|(apply iteI <;> intro h)|((first | (refine Jqk ?_)|(refine Jqd (hPt) ?_)|(refine Jqd (hK) ?_)|(refine Jqa (hS) ?_));simp only [go_sem,simprocAttr,hg0]) | fail))
     all_goals (try omega)
     all_goals first
      | exact (show one=true by assumption).symm
      | exact (Bool.eq_false_iff.2 (show one≠true by assumption)).symm
    ·obtain ⟨hp1,hp2⟩:=hpre hi0;rw [if_neg hi0,show Juq s l i=.sl (valL ((grpH s (l.getD (i - 1) kd0)).enc [])) from if_neg hi0];generalize hlw:grpH s (l.getD (i - 1) kd0)=la at hp1 hp2 ⊢;have hC:=Kbd (la.enc []).length la w (Nat.le_refl _) hp1 hw1 hp2 omg;obtain ⟨cc,cs,hcc⟩:∃ cc cs,valL (la.enc [])=cc :: cs:=by
      cases la with
      | mk a1 a2 a3 a4 a5=>exact ⟨_,_,by rw [A6,Nh]⟩
     rw [hcc] at hC ⊢;refine ⟨.sl (rowL (t.enc [])),.str s,.sl (valL (w.enc [])),?_,fun _=>⟨rfl,rfl,hln.symm,hlo hw1 omg⟩⟩;(refine bgo Tryz.func135 ?_;simp only [go_sem,simprocAttr,hgx,c3]);(repeat' (first | ((first | (refine Jqa (hPt) ?_)|(refine Jqa (hA1) ?_));simp only [go_sem,simprocAttr,Bool.not_true]) | fail));refine Ju2 4 [1] (.node 0 (.node 2 (.node 3 (.node 4 (.node 5 .leaf .nil) .nil) (.node 4 (.node 3 (.node 5 .leaf .nil) .nil) .nil)) (.node 4 (.node 2 (.node 3 (.node 5 .leaf .nil) .nil) .nil) .nil)) (.node 2 (.node 0 (.node 3 (.node 4 (.node 5 .leaf .nil) .nil) (.node 4 (.node 3 (.node 5 .leaf .nil) .nil) .nil)) (.node 4 (.node 0 (.node 3 (.node 5 .leaf .nil) .nil) .nil) .nil)) (.node 4 (.node 0 (.node 2 (.node 3 (.node 5 .leaf .nil) .nil) .nil) (.node 2 (.node 0 (.node 3 (.node 5 .leaf .nil) .nil) .nil) .nil)) .nil))) 5 hm rfl krf krf ?_;simp only [go_sem,simprocAttr];(repeat' (first | (refine And.intro ?_ ?_)|(apply iteI <;> intro h)|((first | (refine Jqk ?_)|(refine Jqd (hPt) ?_)|(refine Jqd (hK) ?_)|(refine Jqa (hS) ?_)|(refine Jqd (hC) ?_));simp only [go_sem,simprocAttr,hg0]) | fail))
     all_goals (try omega)
     all_goals first
      | rw [show one=true by assumption,Bool.true_and]
      | rw [Bool.eq_false_iff.2 (show one≠true by assumption),Bool.false_and]
 ·have c3:(k=5)=False:=eq_false hk;rw [show Jsd (inTy t) (nm,Tree.mk k vs vg ve kids)=false by unfold Jsd;simp [Tree.kind,hk],Bool.false_and];refine ⟨.sl (rowL (t.enc [])),.str s,Juq s l i,?_,fun h=>by cases h⟩;(refine bgo Tryz.func135 ?_;simp only [go_sem,simprocAttr,hgx,c3,not_false_eq_true])
  skip
theorem Kb5 (t:RT) (hI:InOK t) (s:List UInt8) (hs:s.length≤1000000) (hL:Jsn t (Je s).1) (l:List KT) (hl:l.length≤1000000) (hx:∀ q∈l,VFit q.2):Det cx 57 [.p (.sl (rowL (t.enc []))),.p (.str s),.p (.sl (A4 l))] [] (.p (.bool (Jtv (inTy t) s none l))) []:=by
 have hA:=J1q 135 k144 23 9 25 (A4 l) (Jvp l) (by rw [A5];exact hl) (fun _=>.sl (rowL (t.enc []))) (fun _=>.str s) (fun i=>Juq s l i) (grpB (inTy t) s l) (fun i=>J2t s l i) (fun h=>absurd rfl h) (fun i x h hpre=>by
  obtain ⟨q,hq,rfl⟩:=Jyu h;obtain ⟨d0,d1,d2,h1,h2⟩:=J89 t hI s hs hL l i q hq (hx q (List.mem_of_getElem? hq)) hpre;exact ⟨d0,d1,d2,h1,fun hb=>⟨(h2 hb).1,(h2 hb).2.1,(h2 hb).2.2.1,(h2 hb).2.2.2⟩⟩)
 rw [A5,J04 (m:=l) (i:=0) (last:=none) rfl rfl] at hA;have hA2:=Al.perm (rs':=[(1002,.var 25 [.p (Juq s l 0)]),(1001,.var 9 [.p (.str s)]),(1000,.var 23 [.p (.sl (rowL (t.enc [])))])]) (by
  refine .trans (.swap _ _ _) (.trans (.cons _ (.swap _ _ _)) ?_);exact .swap _ _ _) hA
 rw [show Juq s l 0=.snil from rfl] at hA2;have hA3:Det cx 58 _ _ _ _:=hA2;(refine bgo Tryz.func57 ?_;simp only [go_sem,simprocAttr]);(repeat' (first | ((refine Jqa (hA3) ?_);simp only [go_sem,simprocAttr]) | fail))
def tupB (rows:List RKT) (l:List KT) (i:Nat):Bool:=match rows[i]?,l[i]? with
 | some r,some q=>inTy r.2 q.2
 | _,_=>true
theorem J43 {rows:List RKT} {l:List KT}:∀ {m:List RKT} {k:List KT} {i:Nat},rows.drop i=m→l.drop i=k→m.length=k.length→allF (tupB rows l) m.length i=tupS (m.map fun p=>inTy p.2) k
 | [],[],i,_,_,_=>rfl
 | [],_ :: _,i,_,_,h=>by simp at h
 | _ :: _,[],i,_,_,h=>by simp at h
 | r :: m,q :: k,i,h1,h2,h3=>by
  have e1:rows[i]? = some r:=by have:=congrArg (·[0]?) h1;simpa using this
  have e2:l[i]? = some q:=by have:=congrArg (·[0]?) h2;simpa using this
  rw [List.length_cons,allF,List.map_cons,tupS,tupB,e1,e2,J43 (m:=m) (k:=k) (i:=i+1) (by rw [← List.drop_drop,h1];rfl) (by rw [← List.drop_drop,h2];rfl) (by simpa using h3)]
theorem J3z:∀ {ps:List (Tree→Bool)} {l:List KT},ps.length≠l.length→tupS ps l=false
 | [],[],h=>absurd rfl h
 | [],_ :: _,_=>rfl
 | _ :: _,[],_=>rfl
 | p :: ps,q :: l,h=>by rw [tupS,J3z (by simpa using h),Bool.and_false]
theorem J44 (rows:List RKT) (l:List KT) (hr:rows.length≤1000000) (hl:l.length≤1000000) (hI:∀ r∈rows,InOK r.2) (hx:∀ q∈l,VFit q.2):Det cx 55 [.p (.sl (Jqu rows)),.p (.sl (A4 l)),.fn 17 []] [] (.p (.bool (tupS (rows.map fun p=>inTy p.2) l))) []:=by
 by_cases hll:rows.length=l.length
 ·have c0:((rows.length:Int)=(l.length:Int))=True:=eq_true omg;rw [← J43 (rows:=rows) (l:=l) (m:=rows) (k:=l) (i:=0) rfl rfl hll];(refine bgo Tryz.func55 ?_;simp only [go_sem,simprocAttr,Jrm,A5,c0,not_true_eq_false]);refine SWP.loop (fun i:Nat=>⟨Ba 32 [(0,.p (.sl (Jqu rows))),(1,.p (.sl (A4 l))),(2,.fn 17 []),(15,.p (.sl (Jqu rows))),(16,.p (.int .i64 rows.length)),(17,.p (.int .i64 i))],[]⟩) (fun i=>i≤rows.length∧allF (tupB rows l) rows.length 0=allF (tupB rows l) (rows.length - i) i) (fun i=>rows.length - i) 0 Jqb ⟨Nat.zero_le _,rfl⟩ ?_;rintro i ⟨h2,h4⟩;by_cases hi:¬ i<rows.length
  ·have c9:((i:Int)<(rows.length:Int))=False:=eq_false omg;rw [show rows.length - i=0 by omega,allF] at h4;(refine lws ?_;simp only [go_sem,simprocAttr,decide_false,c9]);rw [h4]
  ·have hi:=Decidable.not_not.1 hi;have c9:((i:Int)<(rows.length:Int))=True:=eq_true omg;obtain ⟨r,hr1⟩:∃ r,rows[i]? = some r:=⟨_,List.getElem?_eq_getElem hi⟩
   obtain ⟨q,hq1⟩:∃ q,l[i]? = some q:=⟨_,List.getElem?_eq_getElem omg⟩
   have hgr:=J0v hr1;have hgq:=Hx hq1;obtain ⟨k,hk1⟩:∃ k,rows.length - i=k+1:=⟨rows.length - i - 1,by omega⟩
   have hC:=hI r (List.mem_of_getElem? hr1) q.2 (hx q (List.mem_of_getElem? hq1));rw [hk1,allF,show tupB rows l i=inTy r.2 q.2 by unfold tupB;rw [hr1,hq1]] at h4;cases hb:inTy r.2 q.2 with
   | false =>
    rw [hb] at hC h4;(refine lws ?_;simp only [go_sem,simprocAttr,c9,hgr,hgq]);(repeat' (first | ((refine Jqa (hC) ?_);simp only [go_sem,simprocAttr,Bool.not_false]) | fail));rw [h4];rfl
   | true =>
    rw [hb] at hC h4;rw [Bool.true_and] at h4;(refine lws ?_;simp only [go_sem,simprocAttr,c9,hgr,hgq,wj1 (i:=i) omg]);(repeat' (first | ((refine Jqa (hC) ?_);simp only [go_sem,simprocAttr,wj1 (i:=i) omg,Bool.not_true]) | fail));exact ⟨i+1,⟨by omega,by rw [h4,show rows.length - (i+1)=k by omega]⟩,by omega,Jqb⟩
 ·have c0:((rows.length:Int)=(l.length:Int))=False:=eq_false omg;rw [J3z (by simpa using hll)];(refine bgo Tryz.func55 ?_;simp only [go_sem,simprocAttr,Jrm,A5,c0,not_false_eq_true])
  skip
def Jyy (p:List Step):Bool:=p.all fun x=>!x.part
def fldB (p:List Step) (i:Nat):Bool:=match p[i]? with
 | some x=>!x.part
 | none=>true
theorem J5c {p:List Step}:∀ {m:List Step} {i:Nat},p.drop i=m→allF (fldB p) m.length i=Jyy m
 | [],i,_=>rfl
 | x :: m,i,h=>by
  have hx:p[i]? = some x:=by have:=congrArg (·[0]?) h;simpa using this
  rw [List.length_cons,allF,fldB,hx,J5c (m:=m) (i:=i+1) (by rw [← List.drop_drop,h];rfl)];rfl
theorem J4q (p:List Step) (hp:p.length≤1000000):Det cx 46 [.p (.sl (Bb p))] [] (.p (.bool (Jyy p))) []:=by
 rw [← J5c (p:=p) (m:=p) (i:=0) rfl];(refine bgo Tryz.func46 ?_;simp only [go_sem,simprocAttr]);refine SWP.loop (fun i:Nat=>⟨Ba 15 [(0,.p (.sl (Bb p))),(3,.p (.int .i64 i))],[]⟩) (fun i=>i≤p.length∧allF (fldB p) p.length 0=allF (fldB p) (p.length - i) i) (fun i=>p.length - i) 0 Jqb ⟨Nat.zero_le _,rfl⟩ ?_;rintro i ⟨h2,h4⟩;by_cases hi:¬ i<p.length
 ·have c9:((i:Int)<(p.length:Int))=False:=eq_false omg;rw [show p.length - i=0 by omega,allF] at h4;(refine lws ?_;simp only [go_sem,simprocAttr,Aq,c9]);rw [h4]
 ·have hi:=Decidable.not_not.1 hi;have c9:((i:Int)<(p.length:Int))=True:=eq_true omg;obtain ⟨x,hq⟩:∃ x,p[i]? = some x:=⟨_,List.getElem?_eq_getElem hi⟩
  obtain ⟨k,hk1⟩:∃ k,p.length - i=k+1:=⟨p.length - i - 1,by omega⟩
  have hg:=Dk hq;rw [hk1,allF,show fldB p i = !x.part by rw [fldB,hq]] at h4;cases hb:x.part with
  | true =>
   rw [hb] at h4 hg;(refine lws ?_;simp only [go_sem,simprocAttr,Aq,c9,hg]);rw [h4];rfl
  | false =>
   rw [hb,Bool.not_false,Bool.true_and] at h4;rw [hb] at hg;(refine lws ?_;simp only [go_sem,simprocAttr,Aq,c9,hg,wj1 (i:=i) omg]);exact ⟨i+1,⟨by omega,by rw [h4,show p.length - (i+1)=k by omega]⟩,by omega,Jqb⟩
theorem Jx7 (s:List UInt8) (hs:s.length≤1000000):Det cx 152 [.p (.str s)] [] (.tup [.sl (Bb (Je s).1),.bool (decide (fldS s))]) []:=by
 have hR:=J2l s hs;have hl:=(Jw0 s).1;have hF:=J4q (Je s).1 omg;by_cases h0:(Je s).2.2=0
 ·have c1:(((Je s).2.2:Int)=0)=True:=eq_true omg;have:decide (fldS s)=Jyy (Je s).1:=by
   rw [Bool.eq_iff_iff,decide_eq_true_eq];unfold fldS Jyy;simp [h0]
  rw [this];(refine bgo Tryz.func152 ?_;simp only [go_sem,simprocAttr]);(repeat' (first | ((first | (refine Jqa (hR) ?_)|(refine Jqa (hF) ?_));simp only [go_sem,simprocAttr,c1]) | fail))
 ·have c1:(((Je s).2.2:Int)=0)=False:=eq_false omg;have:decide (fldS s)=false:=decide_eq_false fun h=>h0 h.1
  rw [this];(refine bgo Tryz.func152 ?_;simp only [go_sem,simprocAttr]);(repeat' (first | ((refine Jqa (hR) ?_);simp only [go_sem,simprocAttr,c1]) | fail))
end Go.LX
