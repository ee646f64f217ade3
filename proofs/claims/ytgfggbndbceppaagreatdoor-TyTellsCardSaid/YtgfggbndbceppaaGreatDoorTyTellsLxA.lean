/- LxRE, what one law alone needs. -/
import Derived.Test.YtgfggbndbceppaaGreatDoorLxV
import Derived.Test.YtgfggbndbceppaaGreatDoorLxW
import Derived.Test.YtgfggbndbceppaaGreatDoorLxX
import Derived.Test.YtgfggbndbceppaaGreatDoorLxZA
import Derived.Test.YtgfggbndbceppaaGreatDoorLxZB
set_option linter.unusedSimpArgs false
set_option linter.unusedVariables false
set_option linter.unusedSectionVars false
set_option linter.unnecessarySimpa false
set_option maxRecDepth 100000
set_option maxHeartbeats 2000000
namespace Go.LX
open Go Go.RowKit Go.Proofs
attribute [local irreducible] Al SWP Bi
theorem Kcj (m i:Nat):m / 2 ^ i / 2=m / 2 ^ (i+1):=by rw [Nat.div_div_eq_div_mul,Nat.pow_succ]
theorem td2 (q:Nat):(q:Int).tdiv 2=((q / 2:Nat):Int):=by
 rw [Int.tdiv_eq_ediv_of_nonneg omg];omega
theorem tm2 (q:Nat):(q:Int).tmod 2=((q % 2:Nat):Int):=by
 rw [Int.tmod_eq_emod_of_nonneg omg];omega
theorem wtd2 {q:Nat} (h:q≤1000):IntKind.i64.wrap ((q:Int).tdiv 2)=((q / 2:Nat):Int):=by
 rw [td2,Aa omg omg]
theorem wtm2 (q:Nat):IntKind.i64.wrap ((q:Int).tmod 2)=((q % 2:Nat):Int):=by
 rw [tm2,Aa omg omg]
theorem Kew (r:Nat):((r:Int) == 1)=decide (r=1):=by
 by_cases h:r=1
 ·simp [h]
 ·simp [h];omega
theorem J1t (m k:Nat) (hm':m≤1000) (hk:k≤100):Det cx 113 [.p (.int .i64 m),.p (.int .i64 k)] [] (.p (.bool (Jr0 m k))) []:=by
 (refine bgo Tryz.func113 ?_;simp only [go_sem,simprocAttr]);refine SWP.loop (fun i:Nat=>⟨Ba 16 [(0,.p (.int .i64 (m / 2 ^ i:Nat))),(1,.p (.int .i64 k)),(5,.p (.int .i64 i))],[]⟩) (fun i=>i≤k) (fun i=>k - i) 0 (by rw [Nat.pow_zero,Nat.div_one];exact Jqb) (Nat.zero_le _) ?_;rintro i hi;have hle:m / 2 ^ i≤m:=Nat.div_le_self _ _;by_cases hlt:i<k
 ·have c1:((i:Int)<(k:Int))=True:=eq_true omg;have w1:IntKind.i64.wrap (((m / 2 ^ i:Nat):Int).tdiv 2)=((m / 2 ^ (i+1):Nat):Int):=by
   rw [← Kcj];exact wtd2 (Nat.le_trans hle hm')
  (refine lws ?_;simp only [go_sem,simprocAttr,c1,w1,wj1 (i:=i) omg]);exact ⟨i+1,by omega,by omega,Jqb⟩
 ·have hik:i=k:=by omega
  subst hik;have c1:((i:Int)<(i:Int))=False:=eq_false omg;have w2:=wtm2 (m / 2 ^ i);have w3:=tm2 (m / 2 ^ i);(refine lws ?_;simp only [go_sem,simprocAttr,c1,w3]);unfold Jr0;simp only [Int.toNat_natCast];exact Kew _
theorem J4z (nm:List UInt8) (s:List UInt8) (g:Int) (e:Node) (kids:RF) (hv:kids.enc.length≤999999) (hk:Jwg kids.list):Det cx 77 [.p (.sl (rowL ((RT.mk 1 s g e kids).enc nm))),.p (.int .i64 0)] [] (.p (.sl (Jq9 (Jqf kids.list)))) []:=by
 have hll:=Jqo kids;have hel:=Jx2 hk;generalize hvv:(RT.mk 1 s g e kids).enc nm=v;have h0:v.drop 0=⟨1,kids.len,nm,s,g,e⟩ :: kids.enc:=by rw [← hvv,Jqh];rfl
 have hg0:=Jru h0;rw [Jq0] at hg0;have hal:(Jqf kids.list).length=kids.len:=by simp [Jqf,hll]
 have w0:IntKind.i64.wrap 1=1:=by decide
 (refine bgo Tryz.func77 ?_;simp only [go_sem,simprocAttr,w0]);refine Jqn (B1 [(7,42)] _ sm) ?_;simp only [go_sem,simprocAttr];refine SWP.loop (fun i:Nat=>⟨Ba 44 [(0,.p (.sl (rowL v))),(1,.p (.int .i64 0)),(5,.own 42 0 i),(6,.p (.int .i64 (i+1:Nat)))],[(42,.row 49 7 (Jq9 ((Jqf kids.list).take i)))]⟩) (fun i=>i≤kids.len) (fun i=>kids.len - i) 0 (by rw [show Jq9 (List.take 0 (Jqf kids.list))=[] from rfl];exact Jqb) (Nat.zero_le _) ?_;rintro i hi;by_cases hlt:¬ i<kids.len
 ·have hi2:i=kids.len:=by omega
  subst hi2;have c1:(((kids.len+1:Nat):Int)≤(kids.len:Int))=False:=eq_false omg;have hpl:(kids.len≤(Jqf kids.list).length)=True:=eq_true omg;have ht1:(Jqf kids.list).take kids.len=Jqf kids.list:=List.take_of_length_le omg;have ht2:(Jq9 (Jqf kids.list)).take kids.len=Jq9 (Jqf kids.list):=List.take_of_length_le (by rw [Jqm];omega);have w3:IntKind.i64.wrap (0+(kids.len:Int))=(kids.len:Int):=by rw [Aa omg omg];omega
  (refine lws ?_;simp only [go_sem,simprocAttr,hg0,c1,w3,hpl,ht1,ht2,Jqm])
  skip
 ·have hlt:=Decidable.not_not.1 hlt;obtain ⟨p,hp⟩:∃ p,kids.list[i]? = some p:=⟨_,List.getElem?_eq_getElem omg⟩
  have hgi:=J9o (v:=v) (i:=i+1) (by rw [← hvv,Jqh,List.getElem?_cons_succ];exact Jxu hk hp);rw [Jq0] at hgi;have hga:(Jqf kids.list)[i]? = some (p.2.n,p.2.c):=by simp [Jqf,hp]
  have htk:=Jxe hga;have hpl:(Jq9 ((Jqf kids.list).take i)).length=i:=by rw [Jqm,List.length_take];omega
  have c1:(((i+1:Nat):Int)≤(kids.len:Int))=True:=eq_true omg;have w3:IntKind.i64.wrap (0+(kids.len:Int))=(kids.len:Int):=by rw [Aa omg omg];omega
  (refine lws ?_;simp only [go_sem,simprocAttr,hg0,c1,w3,wj1 (i:=i+1) omg]);refine J64 12 [1,2,3,4,5,6,7,8,9,10,11] (.node 0 (.node 12 (.node 13 (.node 14 .leaf .nil) .nil) .nil) (.node 12 (.node 0 (.node 13 (.node 14 .leaf .nil) .nil) .nil) .nil)) 4 hm rfl krf krf ?_;simp only [go_sem,simprocAttr,hgi,hpl,wj1 (i:=i+1) omg];refine ⟨⟨by simp,by omega,by omega,i+1,by omega,by omega,?_⟩,⟨by simp,by omega,by omega,i+1,by omega,by omega,?_⟩⟩
  ·rw [htk];exact Jqb
  ·rw [htk];exact Jqb
theorem Jyt (nm:List UInt8) (s:List UInt8) (g:Int) (e:Node) (kids:RF) (hv:kids.enc.length≤999999) (hk:Jwg kids.list):Det cx 33 [.p (.sl (rowL ((RT.mk 1 s g e kids).enc nm)))] [] (.p (.sl (Jq9 (Jqf kids.list)))) []:=by
 (refine bgo Tryz.func33 ?_;simp only [go_sem,simprocAttr]);(repeat' (first | ((refine Jqa (J4z nm s g e kids hv hk) ?_);simp only [go_sem,simprocAttr]) | fail))
def Jwd (m:Nat):List UInt8:=if m<10 then [] else Lib.decDigits (m / 10)
theorem Jzm (m:Nat):Lib.decDigits m=Jwd m ++ [UInt8.ofNat (48+m % 10)]:=by
 rw [Lib.decDigits];unfold Jwd;split
 ·rw [Nat.mod_eq_of_lt ‹_›];rfl
 ·rfl
theorem Kc3 (m:Nat):Lib.itoa (m:Int)=Lib.decDigits m:=by
 unfold Lib.itoa;rw [if_neg omg];simp
theorem J1d (m:Nat) (h:0<m):Lib.itoa (-(m:Int))=45 :: Lib.decDigits m:=by
 unfold Lib.itoa;rw [if_pos omg];simp
theorem Kad:∀ (k:Nat) (n:Int),n.natAbs≤k→-9223372036854775808≤n→n≤9223372036854775807→Det cx 129 [.p (.int .i64 n)] [] (.p (.str (Lib.itoa n))) []:=by
 intro k
 induction k using Nat.strongRecOn with
 | _ k ih =>
 intro n hk h1 h2;have hi:=Juw (n:=n) omg omg;by_cases h0:0≤n
 ·obtain ⟨m,rfl⟩:∃ m:Nat,n=m:=⟨n.toNat,by omega⟩
  rw [Kc3] at hi ⊢;have w1:IntKind.i64.wrap (48+((m % 10:Nat):Int))=48+((m % 10:Nat):Int):=Aa omg omg;have c1:¬ (m:Int)<0:=by omega
  have c2:-10<(m:Int):=by omega
  (refine bgo Tryz.func129 ?_;simp only [go_sem,simprocAttr,w1,tmodN,Jvk,c1,c2]);refine SWP.loop (fun x:Nat×List UInt8=>⟨Ba 47 [(0,.p (.int .i64 (x.1:Int))),(3,.p (.str x.2))],[]⟩) (fun x=>x.1≤m∧Lib.decDigits m=Jwd x.1 ++ x.2) (fun x=>x.1) (m,[UInt8.ofNat (48+m % 10)]) Jqb ⟨Nat.le_refl _,Jzm m⟩ ?_;rintro ⟨q,acc⟩ ⟨g1,g2⟩;have hl:acc.length≤21:=by rw [g2] at hi;simp at hi;omega
  simp only;have w2:IntKind.i64.wrap (48+((q / 10 % 10:Nat):Int))=48+((q / 10 % 10:Nat):Int):=Aa omg omg;have w3:IntKind.i64.wrap ((q / 10:Nat):Int)=((q / 10:Nat):Int):=Aa omg omg;(refine lws ?_;simp only [go_sem,simprocAttr,tmodN,Jvk,tdivN,w2,w3]);(repeat' (first | (apply iteI <;> intro h)|(refine Jqd ?_) | fail))
  ·refine ⟨(q / 10,UInt8.ofNat (48+q / 10 % 10) :: acc),⟨by simp at g1 ⊢;omega,?_⟩,by simp;omega,Jqb⟩;rw [g2];simp only;have:Jwd q=Lib.decDigits (q / 10):=by unfold Jwd;rw [if_neg omg]
   rw [this,Jzm];simp
  ·rw [g2];simp only;unfold Jwd;rw [if_pos omg];rfl
 ·obtain ⟨m,rfl⟩:∃ m:Nat,n = -(m:Int):=⟨n.natAbs,by omega⟩
  have hm0:0<m:=by omega
  have c1:-(m:Int)<0:=by omega
  have w2:IntKind.i64.wrap (-((m / 10:Nat):Int)) = -((m / 10:Nat):Int):=Aa omg omg;have w3:IntKind.i64.wrap (48 - -((m % 10:Nat):Int))=48+((m % 10:Nat):Int):=by rw [Aa omg omg];omega
  have hi3:=Juw (n:=-((m / 10:Nat):Int)) omg omg;(refine bgo Tryz.func129 ?_;simp only [go_sem,simprocAttr,c1]);(repeat' (first | (apply iteI <;> intro h)|(refine Jqd ?_)|((first | (refine Jqp ?_)|(refine Jqg (ih (m / 10) omg (-((m / 10:Nat):Int)) omg omg omg) ?_));simp only [go_sem,simprocAttr,w2,w3,Keh,Kes,Jvk]) | fail))
  ·rw [Aa omg omg,J1d m hm0,Jzm,show (48 - -(m:Int))=48+((m % 10:Nat):Int) by omega,Jvk];unfold Jwd;rw [if_pos omg];rfl
  ·rw [J1d m hm0,J1d (m / 10) omg,Jzm m];unfold Jwd;rw [if_neg omg];rfl
theorem J88 (n:Node) (hn:n.small):Det cx 99 [.p (.agg n.pv)] [] (.p (.str (Jq8 n))) []:=by
 obtain ⟨a1,a2,a3⟩:=hn;have hr:∀ k,(Lib.repeatL [48] k).length=k:=Jsu;have w1:IntKind.i64.wrap (1 - n.e)=1 - n.e:=Aa omg omg;have w3:IntKind.i64.wrap (n.s.length+n.e)=n.s.length+n.e:=Aa omg omg;have hi:=Juw (n:=n.e) omg omg;have hsg:(Jrg n).length≤1:=by unfold Jrg;split <;> simp
 (refine bgo Tryz.func99 ?_;simp only [go_sem,simprocAttr,Jr9,w3]);(repeat' (first | (apply iteI <;> intro h)|(refine Jqd ?_)|((refine Jqa (Kad _ n.e (Nat.le_refl _) omg omg) ?_);simp only [go_sem,simprocAttr,List.length_append])|(exfalso;omega)))
 ·simp [Jq8, *]
 ·refine SWP.loop (fun k:Nat=>⟨Ba 76 [(1,.ptr 1 0 0),(3,.p (.str (Jrg n))),(4,.p (.str (n.s ++ Lib.repeatL [48] k))),(5,.p (.int .i64 k))],[(1,.var 35 (n.pv.map .p))]⟩) (fun k=>(k:Int)≤n.e) (fun k=>(n.e - k).toNat) 0 (Jqj (by simp only [Ap,Ar,Ao,Aj,Af,Nat.reduceEqDiff,reduceIte,Nat.reduceLT,Nat.reduceLeDiff];simp (disch:=omega) [Ai,Au,Aa,Jrg,Js6,Jwj, *]) (by simp [Az,A3,Aw,Am,Ai,Jr9]) (by simp [Ay])) omg ?_;intro k hk;(refine lws ?_;simp only [go_sem,simprocAttr,Jr9,hr,List.length_append]);(repeat' (first | (apply iteI <;> intro h)|(refine Jqd ?_) | fail))
  ·exact ⟨k+1,by omega,by omega,(Jqj (by simp only [Ap,Ar,Ao,Aj,Af,Nat.reduceEqDiff,reduceIte,Nat.reduceLT,Nat.reduceLeDiff];simp (disch:=omega) [Ai,Au,Aa,Jrg,Js6,Jwj, *]) (by simp [Az,A3,Aw,Am,Ai,Jr9]) (by simp [Ay]))⟩
  ·have e:k=n.e.toNat:=by omega
   subst e;simp [Jq8, *]
 ·simp [Jq8,Jrg, *]
 ·refine SWP.loop (fun k:Nat=>⟨Ba 76 [(1,.ptr 1 0 0),(3,.p (.str (Jrg n))),(4,.p (.str (Lib.repeatL [48] k ++ n.s)))],[(1,.var 35 (n.pv.map .p))]⟩) (fun k=>k≤(1 - n.e - n.s.length).toNat) (fun k=>(1 - n.e - n.s.length).toNat - k) 0 (Jqj (by simp only [Ap,Ar,Ao,Aj,Af,Nat.reduceEqDiff,reduceIte,Nat.reduceLT,Nat.reduceLeDiff];simp (disch:=omega) [Ai,Au,Aa,Jrg,Js6,Jwk, *]) (by simp [Az,A3,Aw,Am,Ai,Jr9]) (by simp [Ay])) omg ?_;intro k hk;have hk2:=hk;have w4:IntKind.i64.wrap ((k:Int)+n.s.length+n.e)=(k:Int)+n.s.length+n.e:=Aa omg omg;(refine lws ?_;simp only [go_sem,simprocAttr,Jr9,w1,hr,List.length_append,Int.natCast_add]);(repeat' (first | (apply iteI <;> intro h)|(refine Jqd ?_)|((refine Jqp ?_);simp only [go_sem,simprocAttr,hr,List.length_append,Int.natCast_add,w4]) | fail))
  ·exact ⟨k+1,by omega,by omega,(Jqj (by simp only [Ap,Ar,Ao,Aj,Af,Nat.reduceEqDiff,reduceIte,Nat.reduceLT,Nat.reduceLeDiff];simp (disch:=omega) [Ai,Au,Aa,Jrg,Js6,Jwk, *]) (by simp [Az,A3,Aw,Am,Ai,Jr9]) (by simp [Ay]))⟩
  ·have e:(1 - n.e - n.s.length).toNat=k:=by omega
   refine ⟨by simp [hr];omega,by simp [hr];omega,by omega,by omega,by simp [hr];omega,?_⟩;simp [Jq8, *]
 ·simp [Jq8,Jrg, *]
 ·simp [Jq8, *]
 ·refine SWP.loop (fun k:Nat=>⟨Ba 76 [(1,.ptr 1 0 0),(3,.p (.str (Jrg n))),(4,.p (.str (n.s ++ Lib.repeatL [48] k))),(5,.p (.int .i64 k))],[(1,.var 35 (n.pv.map .p))]⟩) (fun k=>(k:Int)≤n.e) (fun k=>(n.e - k).toNat) 0 (Jqj (by simp only [Ap,Ar,Ao,Aj,Af,Nat.reduceEqDiff,reduceIte,Nat.reduceLT,Nat.reduceLeDiff];simp (disch:=omega) [Ai,Au,Aa,Jrg,Js6,Jwj, *]) (by simp [Az,A3,Aw,Am,Ai,Jr9]) (by simp [Ay])) omg ?_;intro k hk;(refine lws ?_;simp only [go_sem,simprocAttr,Jr9,hr,List.length_append]);(repeat' (first | (apply iteI <;> intro h)|(refine Jqd ?_) | fail))
  ·exact ⟨k+1,by omega,by omega,(Jqj (by simp only [Ap,Ar,Ao,Aj,Af,Nat.reduceEqDiff,reduceIte,Nat.reduceLT,Nat.reduceLeDiff];simp (disch:=omega) [Ai,Au,Aa,Jrg,Js6,Jwj, *]) (by simp [Az,A3,Aw,Am,Ai,Jr9]) (by simp [Ay]))⟩
  ·have e:k=n.e.toNat:=by omega
   subst e;simp [Jq8, *]
 ·simp [Jq8,Jrg, *]
 ·refine SWP.loop (fun k:Nat=>⟨Ba 76 [(1,.ptr 1 0 0),(3,.p (.str (Jrg n))),(4,.p (.str (Lib.repeatL [48] k ++ n.s)))],[(1,.var 35 (n.pv.map .p))]⟩) (fun k=>k≤(1 - n.e - n.s.length).toNat) (fun k=>(1 - n.e - n.s.length).toNat - k) 0 (Jqj (by simp only [Ap,Ar,Ao,Aj,Af,Nat.reduceEqDiff,reduceIte,Nat.reduceLT,Nat.reduceLeDiff];simp (disch:=omega) [Ai,Au,Aa,Jrg,Js6,Jwk, *]) (by simp [Az,A3,Aw,Am,Ai,Jr9]) (by simp [Ay])) omg ?_;intro k hk;have hk2:=hk;have w4:IntKind.i64.wrap ((k:Int)+n.s.length+n.e)=(k:Int)+n.s.length+n.e:=Aa omg omg;(refine lws ?_;simp only [go_sem,simprocAttr,Jr9,w1,hr,List.length_append,Int.natCast_add]);(repeat' (first | (apply iteI <;> intro h)|(refine Jqd ?_)|((refine Jqp ?_);simp only [go_sem,simprocAttr,hr,List.length_append,Int.natCast_add,w4]) | fail))
  ·exact ⟨k+1,by omega,by omega,(Jqj (by simp only [Ap,Ar,Ao,Aj,Af,Nat.reduceEqDiff,reduceIte,Nat.reduceLT,Nat.reduceLeDiff];simp (disch:=omega) [Ai,Au,Aa,Jrg,Js6,Jwk, *]) (by simp [Az,A3,Aw,Am,Ai,Jr9]) (by simp [Ay]))⟩
  ·have e:(1 - n.e - n.s.length).toNat=k:=by omega
   refine ⟨by simp [hr];omega,by simp [hr];omega,by omega,by omega,by simp [hr];omega,?_⟩;simp [Jq8, *]
 ·simp [Jq8,Jrg, *]
theorem Jvm {sep:List UInt8} {x:List UInt8}:∀ {l:List (List UInt8)},l≠[]→Jqq sep (l ++ [x])=Jqq sep l ++ sep ++ x
 | [],h=>absurd rfl h
 | [a],_=>rfl
 | a :: b :: l,_=>by
  have:=Jvm (sep:=sep) (x:=x) (l:=b :: l) sm;simp only [List.cons_append] at this ⊢;rw [Jqq,this,Jqq];simp only [List.append_assoc]
theorem Ka5 (c:Node) (hp:Jqr c) (hs:c.s.length≤1000000):Det cx 63 [.p (.agg [.int .i64 c.kind,.int .i64 c.many,.str c.name,.str c.s,.bool c.neg,.int .i64 c.e])] [] (.p (.str (Jrz c))) []:=by
 have hN:=fun hk=>J88 c (J29 hp hk)
 have hQ:=Jvd c.s hs;obtain ⟨k,m,nm,s,g,e⟩:=c;rcases Juk hp with h | h | h | h | h <;> simp only at h hN hQ <;> subst h
 ·(refine bgo Tryz.func63 ?_;simp only [go_sem,simprocAttr])
  all_goals rfl
 ·(refine bgo Tryz.func63 ?_;simp only [go_sem,simprocAttr])
  all_goals rfl
 ·(refine bgo Tryz.func63 ?_;simp only [go_sem,simprocAttr])
  all_goals rfl
 ·have hN:=hN rfl;rw [Jr9] at hN;(refine bgo Tryz.func63 ?_;simp only [go_sem,simprocAttr]);(repeat' (first | ((refine Jqa (hN) ?_);simp only [go_sem,simprocAttr]) | fail))
  all_goals rfl
 ·(refine bgo Tryz.func63 ?_;simp only [go_sem,simprocAttr]);(repeat' (first | ((refine Jqa (hQ) ?_);simp only [go_sem,simprocAttr]) | fail))
  all_goals rfl
theorem Kfh (s:List UInt8) (hs:s.length≤1000000):Det cx 98 [.p (.str s)] [] (.p (.str (nmT s))) []:=by
 have hW:=Jt8 s hs;have hQ:=Jvd s hs;unfold nmT;by_cases h:isWd s
 ·rw [decide_eq_true h] at hW;rw [if_pos h];(refine bgo Tryz.func98 ?_;simp only [go_sem,simprocAttr]);(repeat' (first | ((refine Jqa (hW) ?_);simp only [go_sem,simprocAttr]) | fail))
 ·rw [decide_eq_false h] at hW;rw [if_neg h];(refine bgo Tryz.func98 ?_;simp only [go_sem,simprocAttr]);(repeat' (first | ((first | (refine Jqa (hW) ?_)|(refine Jqa (hQ) ?_));simp only [go_sem,simprocAttr]) | fail))
end Go.LX
set_option maxHeartbeats 1000000
namespace Go.LX
open Go Go.RowKit Go.Proofs
attribute [local irreducible] Al SWP Bi
theorem Kd8 (p:List Step) (t:RT) (nm:List UInt8) (hv:(t.enc nm).length≤1000000) (hp:p.length≤1000000):Det cx 35 [.p (.sl (rowL (t.enc nm))),.p (.sl (Bb p))] [] (Jur (Jrm t p)) []:=by
 have hL:=J8v p t (t.enc nm) 0 nm [] hv hp sm;have hsp:=Jtr (t:=t) (p:=p) (nm:=nm);cases hl:Jtc t p with
 | none =>
  rw [hl] at hL hsp;simp only [Jvw] at hL hsp;rw [show Jrm t p=none by unfold Jrm;rw [hsp]];simp only [Jur];(refine bgo Tryz.func35 ?_;simp only [go_sem,simprocAttr]);(repeat' (first | ((refine Jqa (hL) ?_);simp only [go_sem,simprocAttr]) | fail))
 | some o =>
  rw [hl] at hL hsp;simp only [Jvw,Nat.zero_add] at hL;obtain ⟨u,nm',b,h1,h2⟩:=hsp;have y1:u.kind=1→Jrm t p=some o:=fun h=>by unfold Jrm;rw [h1];simp only [if_pos h,hl]
  have y0:¬ u.kind=1→Jrm t p=none:=fun h=>by unfold Jrm;rw [h1];simp only [if_neg h]
  obtain ⟨k,s,n,c,K⟩:=u;rw [Jqh,List.cons_append] at h2;have hg:=Jru h2;rw [Jq0] at hg;have hol:o<(t.enc nm).length:=by
   have:=congrArg List.length h2;rw [List.length_drop,List.length_cons] at this;omega
  generalize t.enc nm=v at *
  generalize Jrm t p=oo at y0 y1 ⊢;by_cases hk:k=1
  ·have e1:=eq_true hk;rw [y1 hk];simp only [Jur];(refine bgo Tryz.func35 ?_;simp only [go_sem,simprocAttr]);(repeat' (first | (apply iteI <;> intro h)|(refine Jqd ?_)|((refine Jqa (hL) ?_);simp only [go_sem,simprocAttr,hg,e1,not_true_eq_false])|(exact True.intro)|(exfalso;omega)))
  ·have e1:=eq_false hk;rw [y0 hk];simp only [Jur];(refine bgo Tryz.func35 ?_;simp only [go_sem,simprocAttr]);(repeat' (first | (apply iteI <;> intro h)|((refine Jqa (hL) ?_);simp only [go_sem,simprocAttr,hg,e1,not_false_eq_true])|(exact True.intro)))
theorem Jtt:∀ m<32,∀ k<5,Jri m (k+1)=if Jr0 m k=true then (if Jri m k=[] then Juv k else Jri m k ++ [124] ++ Juv k) else Jri m k:=by decide +kernel
theorem J5e {l:List (Int×Node)} {a:Int×Node} (h:l[0]? = some a):Jrc l 1=[40] ++ Jro a:=by
 unfold Jrc;cases l with
 | nil=>cases h
 | cons b l=>simp at h;subst h;rfl
theorem J4c {l:List (Int×Node)} {a:Int×Node} {i:Nat} (h:l[i]? = some a) (hi:0<i):Jrc l (i+1)=Jrc l i ++ [44,32] ++ Jro a:=by
 have hl:=(List.getElem?_eq_some_iff.1 h).1;unfold Jrc;rw [if_neg omg,if_neg omg,List.take_add_one,h,Option.toList_some,List.map_append,List.map_cons,List.map_nil,Jvm]
 ·simp
 ·intro e;have:=congrArg List.length e;rw [List.length_map,List.length_take] at this;simp only [List.length_nil] at this;omega
theorem Kfa (nm:List UInt8) (s:List UInt8) (g:Int) (c:Node) (kids:RF) (hv:kids.enc.length≤10000) (hlf:Jwg kids.list) (g1:1≤g) (g2:g≤31) (ha:∀ a∈Jqf kids.list,Jrf a.1 a.2) (hf:Jsz kids):Det cx 81 [.p (.sl (rowL ((RT.mk 1 s g c kids).enc nm)))] [] (.p (.str (Js4 g.toNat (Jqf kids.list)))) []:=by
 have hA:=Jyt nm s g c kids omg hlf;have hal:(Jqf kids.list).length=kids.len:=by unfold Jqf;rw [List.length_map,Jqo]
 have hle:=Jqs kids;have hfa:=Jwm hf;have hg0:(rowL ((RT.mk 1 s g c kids).enc nm))[0]? = some [.int .i64 1,.int .i64 kids.len,.str nm,.str s,.int .i64 g,.int .i64 c.kind,.int .i64 c.many,.str c.name,.str c.s,.bool c.neg,.int .i64 c.e]:=by rw [Jqh];rfl
 generalize rowL ((RT.mk 1 s g c kids).enc nm)=rows at *
 obtain ⟨m,rfl⟩:∃ m:Nat,g=m:=⟨g.toNat,by omega⟩
 rw [Int.toNat_natCast];have hm32:m<32:=by omega
 generalize hL:Jqf kids.list=l at *
 rw [Jyr];(refine bgo Tryz.func81 ?_;simp only [go_sem,simprocAttr]);refine Jzx (fun k:Nat=>⟨Ba 68 [(0,.p (.sl rows)),(3,.own 10 0 5),(4,.p (.str (Jri m k))),(5,.p (.int .i64 k))],[(10,.row 9 1 [[.str [110,117,108,108]],[.str [102,97,108,115,101]],[.str [116,114,117,101]],[.str [110,117,109]],[.str [115,116,114]]])]⟩) (fun k=>k≤5) (fun k=>5 - k) 0 0 (fun _:Nat=>⟨Ba 68 [(0,.p (.sl rows)),(4,.p (.str (Jri m 5)))],[]⟩) (fun _=>True) (by rw [show Jri m 0=[] from rfl];exact Jqb) (Nat.zero_le _) ?_ ?_
 ·intro k hk;rcases (by omega:k=0∨k=1∨k=2∨k=3∨k=4∨k=5) with rfl | rfl | rfl | rfl | rfl | rfl
  ·have hs:=Jtt m hm32 0 omg;have hlm:=Jtm m hm32 0 omg;have hX:=J1t m 0 omg omg;have w0:IntKind.i64.wrap 0=0:=by decide
   have w1:IntKind.i64.wrap (0+1)=1:=by decide
   cases hb:Jr0 m 0 with
   | false =>
    have hb':Jr0 (m:Int) ((0:Nat):Int)=false:=hb;rw [hb',if_neg sm] at hs;rw [hb'] at hX;generalize Jri m 0=z at *
    (refine lws ?_;simp only [go_sem,simprocAttr,hg0]);(repeat' (first | ((refine Jqa (hX) ?_);simp only [go_sem,simprocAttr]) | fail));exact ⟨1,by omega,by omega,by rw [hs];exact Jqb⟩
   | true =>
    have hb':Jr0 (m:Int) ((0:Nat):Int)=true:=hb;rw [hb',if_pos rfl] at hs;rw [hb'] at hX;generalize Jri m 0=z at *
    by_cases he:z=[]
    ·rw [if_pos he] at hs;have e:=eq_true he;(refine lws ?_;simp only [go_sem,simprocAttr,hg0]);(repeat' (first | (refine Jqd ?_)|((refine Jqa (hX) ?_);simp only [go_sem,simprocAttr,e]) | fail));exact ⟨1,by omega,by omega,by rw [show Jri m 1=z ++ [110,117,108,108] by rw [hs,he];rfl];exact Jqb⟩
    ·rw [if_neg he] at hs;have e:=eq_false he;(refine lws ?_;simp only [go_sem,simprocAttr,hg0]);(repeat' (first | (refine And.intro (by simp only [List.length_append,List.length_cons,List.length_nil];omega) ?_)|(refine Jqd ?_)|((refine Jqa (hX) ?_);simp only [go_sem,simprocAttr,e]) | fail));exact ⟨1,by omega,by omega,by rw [show Jri m 1=z ++ [124] ++ [110,117,108,108] by rw [hs];rfl];exact Jqb⟩
  ·have hs:=Jtt m hm32 1 omg;have hlm:=Jtm m hm32 1 omg;have hX:=J1t m 1 omg omg;have w0:IntKind.i64.wrap 1=1:=by decide
   have w1:IntKind.i64.wrap (1+1)=2:=by decide
   cases hb:Jr0 m 1 with
   | false =>
    have hb':Jr0 (m:Int) ((1:Nat):Int)=false:=hb;rw [hb',if_neg sm] at hs;rw [hb'] at hX;generalize Jri m 1=z at *
    (refine lws ?_;simp only [go_sem,simprocAttr,hg0]);(repeat' (first | ((refine Jqa (hX) ?_);simp only [go_sem,simprocAttr]) | fail));exact ⟨2,by omega,by omega,by rw [hs];exact Jqb⟩
   | true =>
    have hb':Jr0 (m:Int) ((1:Nat):Int)=true:=hb;rw [hb',if_pos rfl] at hs;rw [hb'] at hX;generalize Jri m 1=z at *
    by_cases he:z=[]
    ·rw [if_pos he] at hs;have e:=eq_true he;(refine lws ?_;simp only [go_sem,simprocAttr,hg0]);(repeat' (first | (refine Jqd ?_)|((refine Jqa (hX) ?_);simp only [go_sem,simprocAttr,e]) | fail));exact ⟨2,by omega,by omega,by rw [show Jri m 2=z ++ [102,97,108,115,101] by rw [hs,he];rfl];exact Jqb⟩
    ·rw [if_neg he] at hs;have e:=eq_false he;(refine lws ?_;simp only [go_sem,simprocAttr,hg0]);(repeat' (first | (refine And.intro (by simp only [List.length_append,List.length_cons,List.length_nil];omega) ?_)|(refine Jqd ?_)|((refine Jqa (hX) ?_);simp only [go_sem,simprocAttr,e]) | fail));exact ⟨2,by omega,by omega,by rw [show Jri m 2=z ++ [124] ++ [102,97,108,115,101] by rw [hs];rfl];exact Jqb⟩
  ·have hs:=Jtt m hm32 2 omg;have hlm:=Jtm m hm32 2 omg;have hX:=J1t m 2 omg omg;have w0:IntKind.i64.wrap 2=2:=by decide
   have w1:IntKind.i64.wrap (2+1)=3:=by decide
   cases hb:Jr0 m 2 with
   | false =>
    have hb':Jr0 (m:Int) ((2:Nat):Int)=false:=hb;rw [hb',if_neg sm] at hs;rw [hb'] at hX;generalize Jri m 2=z at *
    (refine lws ?_;simp only [go_sem,simprocAttr,hg0]);(repeat' (first | ((refine Jqa (hX) ?_);simp only [go_sem,simprocAttr]) | fail));exact ⟨3,by omega,by omega,by rw [hs];exact Jqb⟩
   | true =>
    have hb':Jr0 (m:Int) ((2:Nat):Int)=true:=hb;rw [hb',if_pos rfl] at hs;rw [hb'] at hX;generalize Jri m 2=z at *
    by_cases he:z=[]
    ·rw [if_pos he] at hs;have e:=eq_true he;(refine lws ?_;simp only [go_sem,simprocAttr,hg0]);(repeat' (first | (refine Jqd ?_)|((refine Jqa (hX) ?_);simp only [go_sem,simprocAttr,e]) | fail));exact ⟨3,by omega,by omega,by rw [show Jri m 3=z ++ [116,114,117,101] by rw [hs,he];rfl];exact Jqb⟩
    ·rw [if_neg he] at hs;have e:=eq_false he;(refine lws ?_;simp only [go_sem,simprocAttr,hg0]);(repeat' (first | (refine And.intro (by simp only [List.length_append,List.length_cons,List.length_nil];omega) ?_)|(refine Jqd ?_)|((refine Jqa (hX) ?_);simp only [go_sem,simprocAttr,e]) | fail));exact ⟨3,by omega,by omega,by rw [show Jri m 3=z ++ [124] ++ [116,114,117,101] by rw [hs];rfl];exact Jqb⟩
  ·have hs:=Jtt m hm32 3 omg;have hlm:=Jtm m hm32 3 omg;have hX:=J1t m 3 omg omg;have w0:IntKind.i64.wrap 3=3:=by decide
   have w1:IntKind.i64.wrap (3+1)=4:=by decide
   cases hb:Jr0 m 3 with
   | false =>
    have hb':Jr0 (m:Int) ((3:Nat):Int)=false:=hb;rw [hb',if_neg sm] at hs;rw [hb'] at hX;generalize Jri m 3=z at *
    (refine lws ?_;simp only [go_sem,simprocAttr,hg0]);(repeat' (first | ((refine Jqa (hX) ?_);simp only [go_sem,simprocAttr]) | fail));exact ⟨4,by omega,by omega,by rw [hs];exact Jqb⟩
   | true =>
    have hb':Jr0 (m:Int) ((3:Nat):Int)=true:=hb;rw [hb',if_pos rfl] at hs;rw [hb'] at hX;generalize Jri m 3=z at *
    by_cases he:z=[]
    ·rw [if_pos he] at hs;have e:=eq_true he;(refine lws ?_;simp only [go_sem,simprocAttr,hg0]);(repeat' (first | (refine Jqd ?_)|((refine Jqa (hX) ?_);simp only [go_sem,simprocAttr,e]) | fail));exact ⟨4,by omega,by omega,by rw [show Jri m 4=z ++ [110,117,109] by rw [hs,he];rfl];exact Jqb⟩
    ·rw [if_neg he] at hs;have e:=eq_false he;(refine lws ?_;simp only [go_sem,simprocAttr,hg0]);(repeat' (first | (refine And.intro (by simp only [List.length_append,List.length_cons,List.length_nil];omega) ?_)|(refine Jqd ?_)|((refine Jqa (hX) ?_);simp only [go_sem,simprocAttr,e]) | fail));exact ⟨4,by omega,by omega,by rw [show Jri m 4=z ++ [124] ++ [110,117,109] by rw [hs];rfl];exact Jqb⟩
  ·have hs:=Jtt m hm32 4 omg;have hlm:=Jtm m hm32 4 omg;have hX:=J1t m 4 omg omg;have w0:IntKind.i64.wrap 4=4:=by decide
   have w1:IntKind.i64.wrap (4+1)=5:=by decide
   cases hb:Jr0 m 4 with
   | false =>
    have hb':Jr0 (m:Int) ((4:Nat):Int)=false:=hb;rw [hb',if_neg sm] at hs;rw [hb'] at hX;generalize Jri m 4=z at *
    (refine lws ?_;simp only [go_sem,simprocAttr,hg0]);(repeat' (first | ((refine Jqa (hX) ?_);simp only [go_sem,simprocAttr]) | fail));exact ⟨5,by omega,by omega,by rw [hs];exact Jqb⟩
   | true =>
    have hb':Jr0 (m:Int) ((4:Nat):Int)=true:=hb;rw [hb',if_pos rfl] at hs;rw [hb'] at hX;generalize Jri m 4=z at *
    by_cases he:z=[]
    ·rw [if_pos he] at hs;have e:=eq_true he;(refine lws ?_;simp only [go_sem,simprocAttr,hg0]);(repeat' (first | (refine Jqd ?_)|((refine Jqa (hX) ?_);simp only [go_sem,simprocAttr,e]) | fail));exact ⟨5,by omega,by omega,by rw [show Jri m 5=z ++ [115,116,114] by rw [hs,he];rfl];exact Jqb⟩
    ·rw [if_neg he] at hs;have e:=eq_false he;(refine lws ?_;simp only [go_sem,simprocAttr,hg0]);(repeat' (first | (refine And.intro (by simp only [List.length_append,List.length_cons,List.length_nil];omega) ?_)|(refine Jqd ?_)|((refine Jqa (hX) ?_);simp only [go_sem,simprocAttr,e]) | fail));exact ⟨5,by omega,by omega,by rw [show Jri m 5=z ++ [124] ++ [115,116,114] by rw [hs];rfl];exact Jqb⟩
  ·(refine lws ?_;simp only [go_sem,simprocAttr]);exact ⟨0,Jqb⟩
 ·intro _ _;have hlm:=Jtm m hm32 5 omg;generalize Jri m 5=z at *
  simp only [go_sem,simprocAttr];(repeat' (first | ((refine Jqa (hA) ?_);simp only [go_sem,simprocAttr]) | fail));refine SWP.loop (fun i:Nat=>⟨Ba 68 [(4,.p (.str (z ++ Jrc l i))),(6,.p (.sl (Jq9 l))),(7,.p (.int .i64 i))],[]⟩) (fun i=>i≤l.length) (fun i=>l.length - i) 0 (by rw [show Jrc l 0=[] from rfl,List.append_nil];exact Jqb) (Nat.zero_le _) ?_;intro i hi;have hpre:=J1a hfa i;by_cases hlt:i<l.length
  ·have c1:((i:Int)<(l.length:Int))=True:=eq_true omg;obtain ⟨⟨n,d⟩,hq⟩:∃ a,l[i]? = some a:=⟨_,List.getElem?_eq_getElem hlt⟩
   have hg:=Jt9 hq;obtain ⟨n0,n5,hpd⟩:=ha _ (List.mem_of_getElem? hq);obtain ⟨fd,fd1,fd2⟩:=hfa _ (List.mem_of_getElem? hq);simp only at hg n0 n5 hpd fd fd1 fd2;have hX:=Ka5 d hpd omg;have hxl:=J1q fd fd1 fd2;have w1:=wj1 (i:=i) omg;have w01:IntKind.i64.wrap 1=1:=by decide
   have hat:Jro (n,d)=Jsf n ++ [32] ++ Jrz d:=rfl;generalize Jrz d=x at hX hxl hat;by_cases h0:i=0
   ·subst h0;have hx:=J5e hq;rw [show Jrc l 0=[] from rfl,List.append_nil];rcases (by omega:n=0∨n=1∨n=2∨n=3∨n=4∨n=5) with rfl | rfl | rfl | rfl | rfl | rfl
    ·have hy:z ++ Jrc l 1=z ++ [40] ++ [61,61] ++ [32] ++ x:=by rw [hx,hat];simp [Jsf]
     (refine lws ?_;simp only [go_sem,simprocAttr,hg,Jqm]);(repeat' (first | (refine And.intro (by simp only [List.length_append,List.length_cons,List.length_nil];omega) ?_)|(apply iteI <;> intro h)|(refine Jqd ?_)|((refine Jqa (hX) ?_);simp only [go_sem,simprocAttr,w01])|(exfalso;omega)));exact ⟨1,by omega,by omega,by rw [hy];exact Jqb⟩
    ·have hy:z ++ Jrc l 1=z ++ [40] ++ [33,61] ++ [32] ++ x:=by rw [hx,hat];simp [Jsf]
     (refine lws ?_;simp only [go_sem,simprocAttr,hg,Jqm]);(repeat' (first | (refine And.intro (by simp only [List.length_append,List.length_cons,List.length_nil];omega) ?_)|(apply iteI <;> intro h)|(refine Jqd ?_)|((refine Jqa (hX) ?_);simp only [go_sem,simprocAttr,w01])|(exfalso;omega)));exact ⟨1,by omega,by omega,by rw [hy];exact Jqb⟩
    ·have hy:z ++ Jrc l 1=z ++ [40] ++ [60] ++ [32] ++ x:=by rw [hx,hat];simp [Jsf]
     (refine lws ?_;simp only [go_sem,simprocAttr,hg,Jqm]);(repeat' (first | (refine And.intro (by simp only [List.length_append,List.length_cons,List.length_nil];omega) ?_)|(apply iteI <;> intro h)|(refine Jqd ?_)|((refine Jqa (hX) ?_);simp only [go_sem,simprocAttr,w01])|(exfalso;omega)));exact ⟨1,by omega,by omega,by rw [hy];exact Jqb⟩
    ·have hy:z ++ Jrc l 1=z ++ [40] ++ [60,61] ++ [32] ++ x:=by rw [hx,hat];simp [Jsf]
     (refine lws ?_;simp only [go_sem,simprocAttr,hg,Jqm]);(repeat' (first | (refine And.intro (by simp only [List.length_append,List.length_cons,List.length_nil];omega) ?_)|(apply iteI <;> intro h)|(refine Jqd ?_)|((refine Jqa (hX) ?_);simp only [go_sem,simprocAttr,w01])|(exfalso;omega)));exact ⟨1,by omega,by omega,by rw [hy];exact Jqb⟩
    ·have hy:z ++ Jrc l 1=z ++ [40] ++ [62] ++ [32] ++ x:=by rw [hx,hat];simp [Jsf]
     (refine lws ?_;simp only [go_sem,simprocAttr,hg,Jqm]);(repeat' (first | (refine And.intro (by simp only [List.length_append,List.length_cons,List.length_nil];omega) ?_)|(apply iteI <;> intro h)|(refine Jqd ?_)|((refine Jqa (hX) ?_);simp only [go_sem,simprocAttr,w01])|(exfalso;omega)));exact ⟨1,by omega,by omega,by rw [hy];exact Jqb⟩
    ·have hy:z ++ Jrc l 1=z ++ [40] ++ [62,61] ++ [32] ++ x:=by rw [hx,hat];simp [Jsf]
     (refine lws ?_;simp only [go_sem,simprocAttr,hg,Jqm]);(repeat' (first | (refine And.intro (by simp only [List.length_append,List.length_cons,List.length_nil];omega) ?_)|(apply iteI <;> intro h)|(refine Jqd ?_)|((refine Jqa (hX) ?_);simp only [go_sem,simprocAttr,w01])|(exfalso;omega)));exact ⟨1,by omega,by omega,by rw [hy];exact Jqb⟩
   ·have hx:=J4c hq omg;have c0:((i:Int)=0)=False:=eq_false omg;generalize Jrc l i=y at *
    rcases (by omega:n=0∨n=1∨n=2∨n=3∨n=4∨n=5) with rfl | rfl | rfl | rfl | rfl | rfl
    ·have hy:z ++ Jrc l (i+1)=z ++ y ++ [44,32] ++ [61,61] ++ [32] ++ x:=by rw [hx,hat];simp [Jsf]
     (refine lws ?_;simp only [go_sem,simprocAttr,c1,c0,hg,Jqm]);(repeat' (first | (refine And.intro (by simp only [List.length_append,List.length_cons,List.length_nil];omega) ?_)|((refine Jqa (hX) ?_);simp only [go_sem,simprocAttr,w1]) | fail));exact ⟨i+1,by omega,by omega,by rw [hy];exact Jqb⟩
    ·have hy:z ++ Jrc l (i+1)=z ++ y ++ [44,32] ++ [33,61] ++ [32] ++ x:=by rw [hx,hat];simp [Jsf]
     (refine lws ?_;simp only [go_sem,simprocAttr,c1,c0,hg,Jqm]);(repeat' (first | (refine And.intro (by simp only [List.length_append,List.length_cons,List.length_nil];omega) ?_)|((refine Jqa (hX) ?_);simp only [go_sem,simprocAttr,w1]) | fail));exact ⟨i+1,by omega,by omega,by rw [hy];exact Jqb⟩
    ·have hy:z ++ Jrc l (i+1)=z ++ y ++ [44,32] ++ [60] ++ [32] ++ x:=by rw [hx,hat];simp [Jsf]
     (refine lws ?_;simp only [go_sem,simprocAttr,c1,c0,hg,Jqm]);(repeat' (first | (refine And.intro (by simp only [List.length_append,List.length_cons,List.length_nil];omega) ?_)|((refine Jqa (hX) ?_);simp only [go_sem,simprocAttr,w1]) | fail));exact ⟨i+1,by omega,by omega,by rw [hy];exact Jqb⟩
    ·have hy:z ++ Jrc l (i+1)=z ++ y ++ [44,32] ++ [60,61] ++ [32] ++ x:=by rw [hx,hat];simp [Jsf]
     (refine lws ?_;simp only [go_sem,simprocAttr,c1,c0,hg,Jqm]);(repeat' (first | (refine And.intro (by simp only [List.length_append,List.length_cons,List.length_nil];omega) ?_)|((refine Jqa (hX) ?_);simp only [go_sem,simprocAttr,w1]) | fail));exact ⟨i+1,by omega,by omega,by rw [hy];exact Jqb⟩
    ·have hy:z ++ Jrc l (i+1)=z ++ y ++ [44,32] ++ [62] ++ [32] ++ x:=by rw [hx,hat];simp [Jsf]
     (refine lws ?_;simp only [go_sem,simprocAttr,c1,c0,hg,Jqm]);(repeat' (first | (refine And.intro (by simp only [List.length_append,List.length_cons,List.length_nil];omega) ?_)|((refine Jqa (hX) ?_);simp only [go_sem,simprocAttr,w1]) | fail));exact ⟨i+1,by omega,by omega,by rw [hy];exact Jqb⟩
    ·have hy:z ++ Jrc l (i+1)=z ++ y ++ [44,32] ++ [62,61] ++ [32] ++ x:=by rw [hx,hat];simp [Jsf]
     (refine lws ?_;simp only [go_sem,simprocAttr,c1,c0,hg,Jqm]);(repeat' (first | (refine And.intro (by simp only [List.length_append,List.length_cons,List.length_nil];omega) ?_)|((refine Jqa (hX) ?_);simp only [go_sem,simprocAttr,w1]) | fail));exact ⟨i+1,by omega,by omega,by rw [hy];exact Jqb⟩
  ·obtain rfl:i=l.length:=by omega
   have c1:((l.length:Int)<(l.length:Int))=False:=eq_false omg;by_cases h0:l=[]
   ·have c0:((0:Int)<(l.length:Int))=False:=eq_false (by rw [h0];simp);rw [if_pos h0,List.append_nil];(refine lws ?_;simp only [go_sem,simprocAttr,c1,c0,Jqm])
    skip
   ·have hpos:=List.length_pos_iff.2 h0;have c0:((0:Int)<(l.length:Int))=True:=eq_true omg;rw [if_neg h0];(refine lws ?_;simp only [go_sem,simprocAttr,c1,c0,Jqm])
    all_goals (rw [List.length_append];omega)
theorem Jyo {k:Int} {l:List TTx} {p:TTx} (h:l[0]? = some p):Jsg k (l.take 1)=Jsn k p:=by
 cases l with
 | nil=>cases h
 | cons q l=>simp at h;subst h;rfl
theorem J0w {k:Int} {l:List TTx} {p:TTx} {i:Nat} (h:l[i]? = some p) (hi:0<i):Jsg k (l.take (i+1))=Jsg k (l.take i) ++ [44,32] ++ Jsn k p:=by
 have hl:=(List.getElem?_eq_some_iff.1 h).1;unfold Jsg;rw [List.take_add_one,h,Option.toList_some,List.map_append,List.map_cons,List.map_nil,Jvm];intro e;have:=congrArg List.length e;rw [List.length_map,List.length_take] at this;simp only [List.length_nil] at this;omega
theorem Kav (l:List TTx) (i:Nat):sumX (l.take i)≤sumX l:=by
 have:sumX l=sumX (l.take i)+sumX (l.drop i):=by
  unfold sumX;rw [← List.sum_append,← List.map_append,List.take_append_drop]
 omega
theorem J6i {k:Int} {l:List TTx} (h:∀ p∈l,p.1.length≤100) (i:Nat):(Jsg k (l.take i)).length≤sumX l+606 * l.length:=by
 have h1:=Jtv [44,32] ((l.take i).map (Jsn k));have h2:=J1i (k:=k) (l:=l.take i) (fun p hp=>h p (List.mem_of_mem_take hp));have h3:=Kav l i;have h4:(l.take i).length≤l.length:=by rw [List.length_take];omega
 rw [List.length_map] at h1;simp only [List.length_cons,List.length_nil] at h1;unfold Jsg;omega
def Jzn (n:Nat):Prop:=∀ (t:RT) (nm:List UInt8),okR t→t.kind≠9→fitQ t→(t.enc nm).length≤n→Det cx 37 [.p (.sl (rowL (t.enc nm)))] [] (.p (.str (Jrb t))) []
theorem Ka1 (n:Nat) (hn2:n≤10000) (H:Jzn n) (nm:List UInt8) (k:Int) (hk1:k≠1) (s:List UInt8) (g:Int) (c:Node) (kids:RF) (ho:okRF kids) (h9:∀ p∈kids.list,p.2.kind≠9) (hf:Jsz kids) (hn:kids.enc.length≤n):Det cx 82 [.p (.sl (rowL ((RT.mk k s g c kids).enc nm)))] [] (.p (.str (Jsg k (Jqi kids)))) []:=by
 have hP:=Jv4 nm k s g c kids omg hk1;obtain ⟨hq1,hq2⟩:=Ju8 kids hf;have hql:=Jvn kids;have hll:=Jqo kids;have hB:∀ i,(Jsg k ((Jqi kids).take i)).length≤21000000:=fun i=>by
  have:=J6i (k:=k) hq1 i;rw [hql] at this;omega
 by_cases h2:k=2
 ·have hN:=Jvz nm s g c kids omg;rw [← h2] at hN;have hnl:(Jr6 kids.list).length=kids.list.length:=by simp [Jr6]
  have ho1:∀ p:RKT,Jsn k (p.1,Jrb p.2)=nmT p.1 ++ [58,32] ++ Jrb p.2:=fun p=>if_pos h2
  generalize rowL ((RT.mk k s g c kids).enc nm)=rows at hP hN ⊢;(refine bgo Tryz.func82 ?_;simp only [go_sem,simprocAttr]);(repeat' (first | ((first | (refine Jqa (hP) ?_)|(refine Jqa (hN) ?_));simp only [go_sem,simprocAttr]) | fail));refine SWP.loop (fun i:Nat=>⟨Ba 40 [(3,.p (.sl (Jra kids.list))),(4,.p (.sl (Jr6 kids.list))),(5,.p (.str (Jsg k ((Jqi kids).take i)))),(6,.p (.int .i64 i))],[]⟩) (fun i=>i≤kids.len) (fun i=>kids.len - i) 0 (by simp only [List.take_zero,Jsg,List.map_nil,Jqq];exact Jqb) (Nat.zero_le _) ?_;intro i hi;by_cases hlt:i<kids.len
  ·have c1:((i:Int)<(kids.list.length:Int))=True:=eq_true omg;obtain ⟨p,hp⟩:∃ p,kids.list[i]? = some p:=⟨_,List.getElem?_eq_getElem omg⟩
   have hpm:=List.mem_of_getElem? hp;have hgp:(Jra kids.list)[i]? = some [.sl (rowL (p.2.enc []))]:=Jui hp;have hgq:=Jw7 hp;obtain ⟨f1,f2⟩:=Jwo hf hpm;have hel:=Jvg hpm;rw [J70] at hel;have hT:=H p.2 [] (Jst.1 ho p hpm) (h9 p hpm) f2 omg;have w1:=wj1 (i:=i) omg;have b1:=hB i;have hz:=Ju3 p.2 f2 [];have hz2:(Jrb p.2).length≤21000000:=by omega
   have ho2:=ho1 p;have hgn:(Jr6 kids.list)[i]? = some [.str p.1]:=by unfold Jr6;rw [List.getElem?_map,hp];rfl
   have hNm:=Kfh p.1 omg;have b3:=J8k p.1;have c2:((0:Int)<(kids.list.length:Int))=True:=eq_true omg;generalize nmT p.1=nx at *
   generalize Jrb p.2=tx at *
   by_cases h0:i=0
   ·subst h0;have hx:=(Jyo (k:=k) hgq).trans ho2;rw [show Jsg k ((Jqi kids).take 0)=[] from rfl];(refine lws ?_;simp only [go_sem,simprocAttr,Jq3,hnl,hgn,c2]);(repeat' (first | (refine And.intro (by simp only [List.length_append,List.length_cons,List.length_nil];omega) ?_)|(refine Jqd ?_)|((first | (refine Jqa (hT) ?_)|(refine Jqa (hNm) ?_));simp only [go_sem,simprocAttr,hgp]) | fail));exact ⟨1,by omega,by omega,by rw [hx];exact Jqb⟩
   ·have hx:=J0w (k:=k) hgq omg;rw [ho2] at hx;have c0:((0:Int)<(i:Int))=True:=eq_true omg;generalize Jsg k ((Jqi kids).take i)=x at b1 hx ⊢;(refine lws ?_;simp only [go_sem,simprocAttr,Jq3,hnl,c1,hgn,c2,c0]);(repeat' (first | (refine And.intro (by simp only [List.length_append,List.length_cons,List.length_nil];omega) ?_)|(refine Jqd ?_)|((first | (refine Jqa (hT) ?_)|(refine Jqa (hNm) ?_));simp only [go_sem,simprocAttr,hgp,w1]) | fail));exact ⟨i+1,by omega,by omega,by rw [hx];(try simp only [← List.append_assoc]);exact Jqb⟩
  ·obtain rfl:i=kids.len:=by omega
   have c1:((kids.len:Int)<(kids.list.length:Int))=False:=eq_false omg;rw [List.take_of_length_le omg];(refine lws ?_;simp only [go_sem,simprocAttr,Jq3,c1])
   skip
 ·have hN:=Jw4 nm k h2 s g c kids;have ho1:∀ p:RKT,Jsn k (p.1,Jrb p.2)=Jrb p.2:=fun p=>if_neg h2
  generalize rowL ((RT.mk k s g c kids).enc nm)=rows at hP hN ⊢;(refine bgo Tryz.func82 ?_;simp only [go_sem,simprocAttr]);(repeat' (first | ((first | (refine Jqa (hP) ?_)|(refine Jqa (hN) ?_));simp only [go_sem,simprocAttr]) | fail));refine SWP.loop (fun i:Nat=>⟨Ba 40 [(3,.p (.sl (Jra kids.list))),(4,.p (.sl [])),(5,.p (.str (Jsg k ((Jqi kids).take i)))),(6,.p (.int .i64 i))],[]⟩) (fun i=>i≤kids.len) (fun i=>kids.len - i) 0 (by simp only [List.take_zero,Jsg,List.map_nil,Jqq];exact Jqb) (Nat.zero_le _) ?_;intro i hi;by_cases hlt:i<kids.len
  ·have c1:((i:Int)<(kids.list.length:Int))=True:=eq_true omg;obtain ⟨p,hp⟩:∃ p,kids.list[i]? = some p:=⟨_,List.getElem?_eq_getElem omg⟩
   have hpm:=List.mem_of_getElem? hp;have hgp:(Jra kids.list)[i]? = some [.sl (rowL (p.2.enc []))]:=Jui hp;have hgq:=Jw7 hp;obtain ⟨f1,f2⟩:=Jwo hf hpm;have hel:=Jvg hpm;rw [J70] at hel;have hT:=H p.2 [] (Jst.1 ho p hpm) (h9 p hpm) f2 omg;have w1:=wj1 (i:=i) omg;have b1:=hB i;have hz:=Ju3 p.2 f2 [];have hz2:(Jrb p.2).length≤21000000:=by omega
   have ho2:=ho1 p;generalize Jrb p.2=tx at *
   by_cases h0:i=0
   ·subst h0;have hx:=(Jyo (k:=k) hgq).trans ho2;rw [show Jsg k ((Jqi kids).take 0)=[] from rfl];(refine lws ?_;simp only [go_sem,simprocAttr,Jq3,hgp]);(repeat' (first | (apply iteI <;> intro h)|(refine Jqd ?_)|((refine Jqa (hT) ?_);simp only [go_sem,simprocAttr])|(exfalso;omega)));exact ⟨1,by omega,by omega,by rw [hx];exact Jqb⟩
   ·have hx:=J0w (k:=k) hgq omg;rw [ho2] at hx;have c0:((0:Int)<(i:Int))=True:=eq_true omg;generalize Jsg k ((Jqi kids).take i)=x at b1 hx ⊢;(refine lws ?_;simp only [go_sem,simprocAttr,Jq3,c1,hgp,c0]);(repeat' (first | (refine And.intro (by simp only [List.length_append,List.length_cons,List.length_nil];omega) ?_)|(refine Jqd ?_)|((refine Jqa (hT) ?_);simp only [go_sem,simprocAttr,w1]) | fail));exact ⟨i+1,by omega,by omega,by rw [hx];(try simp only [← List.append_assoc]);exact Jqb⟩
  ·obtain rfl:i=kids.len:=by omega
   have c1:((kids.len:Int)<(kids.list.length:Int))=False:=eq_false omg;rw [List.take_of_length_le omg];(refine lws ?_;simp only [go_sem,simprocAttr,Jq3,c1])
   skip
theorem J85 (l:List TTx) (n:Int):Jqq [44,32] (l.map fieldTx ++ Jt0 n)=Jsg 2 l ++ (if n=1 then (if l=[] then [63] else [44,32,63]) else []):=by
 have h1:l.map (Jsn 2)=l.map fieldTx:=List.map_congr_left fun p _=>if_pos rfl
 unfold Jsg Jt0;rw [h1];by_cases hn:n=1
 ·rw [if_pos hn,if_pos hn];by_cases hl:l=[]
  ·rw [if_pos hl,hl];rfl
  ·rw [if_neg hl,Jvm (by simpa using hl)];simp
 ·rw [if_neg hn,if_neg hn,List.append_nil,List.append_nil]
theorem Jtn {k:Int} (hk:k≠2) (l:List TTx):Jqq [44,32] (l.map (·.2))=Jsg k l:=by
 unfold Jsg;rw [show l.map (Jsn k)=l.map (·.2) from List.map_congr_left fun p _=>if_neg hk]
theorem Kc8 (n:Nat) (hn2:n<10000) (H:Jzn n):Jzn (n+1):=by
 intro t nm ho h9 hf hn;obtain ⟨k,s,g,c,kids⟩:=t;have hkn:kids.enc.length≤n:=by rw [Jqh,List.length_cons] at hn;omega
 have hg0:(rowL ((RT.mk k s g c kids).enc nm))[0]? = some [.int .i64 k,.int .i64 kids.len,.str nm,.str s,.int .i64 g,.int .i64 c.kind,.int .i64 c.many,.str c.name,.str c.s,.bool c.neg,.int .i64 c.e]:=by rw [Jqh];rfl
 obtain ⟨h1,h2,_,h3⟩:=Jr5.1 ho;have hf':=hf;rw [fitQ] at hf';obtain ⟨⟨f1,_⟩,f2⟩:=hf';simp only [RT.kind] at h9;have hq:=Ju8 kids f2;have hql:=Jvn kids;have hle:=Jqs kids;have hjl:(Jsg k (Jqi kids)).length≤21000000:=by
  have:=J6i (k:=k) hq.1 (Jqi kids).length;rw [List.take_length,hql] at this;omega
 rw [Jth];by_cases k1:k=1
 ·subst k1;obtain ⟨a1,a2⟩:=J3l h3 h2.1;unfold Jqv at h1;rw [if_neg omg,if_pos rfl] at h1;have hS:=Kfa nm s g c kids omg a1 h1.2.1 h1.2.2.1 a2 f2;generalize rowL ((RT.mk 1 s g c kids).enc nm)=rows at *
  rw [show Jse 1 s g (Jqi kids) (Jqf kids.list)=Js4 g.toNat (Jqf kids.list) by unfold Jse;rw [if_neg omg,if_pos rfl]];(refine bgo Tryz.func37 ?_;simp only [go_sem,simprocAttr,hg0]);(repeat' (first | ((refine Jqa (hS) ?_);simp only [go_sem,simprocAttr]) | fail))
 have hJ:=Ka1 n omg H nm k k1 s g c kids h3 (fun p hp h=>k1 ((h2.1 p hp).1.1 h)) f2 hkn;generalize rowL ((RT.mk k s g c kids).enc nm)=rows at *
 have hkk:k=0∨k=2∨k=3∨k=4∨k=5∨k=6∨k=7∨k=8:=by
  unfold Jqv at h1;by_cases hx:k=0∨k=2∨k=3∨k=4∨k=5∨k=6∨k=7∨k=8
  ·exact hx
  ·rw [if_neg omg,if_neg k1,if_neg h9,if_neg omg,if_neg omg,if_neg omg,if_neg omg] at h1;exact h1.elim
 rcases hkk with rfl | rfl | rfl | rfl | rfl | rfl | rfl | rfl
 ·(refine bgo Tryz.func37 ?_;simp only [go_sem,simprocAttr,hg0]);rfl
 ·rw [show Jse 2 s g (Jqi kids) (Jqf kids.list)=123 :: (Jqq [44,32] ((Jqi kids).map fieldTx ++ Jt0 g) ++ [125]) from rfl,J85];have hmt:(Jqi kids=[])=(kids.len=0):=by rw [← hql,List.length_eq_zero_iff]
  generalize Jsg 2 (Jqi kids)=x at *
  by_cases hg1:g=1
  ·have e1:=eq_true hg1;rw [if_pos hg1];by_cases hm0:kids.len=0
   ·have c0:((0:Int)<(kids.len:Int))=False:=eq_false omg;rw [if_pos (by rw [hmt];exact hm0)];(refine bgo Tryz.func37 ?_;simp only [go_sem,simprocAttr,hg0,e1,c0]);(repeat' (first | (refine Jqd ?_)|((refine Jqa (hJ) ?_);simp only [go_sem,simprocAttr]) | fail))
    all_goals (first | omega | rfl | (simp only [List.length_append,List.length_cons,List.length_nil];omega) | simp)
   ·have c0:((0:Int)<(kids.len:Int))=True:=eq_true omg;rw [if_neg (by rw [hmt];exact hm0)];(refine bgo Tryz.func37 ?_;simp only [go_sem,simprocAttr,hg0,e1,c0]);(repeat' (first | (refine Jqd ?_)|((refine Jqa (hJ) ?_);simp only [go_sem,simprocAttr]) | fail))
    all_goals (first | omega | rfl | (simp only [List.length_append,List.length_cons,List.length_nil];omega) | simp)
  ·have e1:=eq_false hg1;rw [if_neg hg1];(refine bgo Tryz.func37 ?_;simp only [go_sem,simprocAttr,hg0,e1]);(repeat' (first | (refine Jqd ?_)|((refine Jqa (hJ) ?_);simp only [go_sem,simprocAttr]) | fail))
   all_goals (first | omega | rfl | (simp only [List.length_append,List.length_cons,List.length_nil];omega) | simp)
 ·rw [show Jse 3 s g (Jqi kids) (Jqf kids.list)=Jrn 3 s ++ Jqq [44,32] ((Jqi kids).map (·.2)) ++ [Jrk 3] from rfl,Jtn (k:=3) omg];generalize Jsg 3 (Jqi kids)=x at *
  (refine bgo Tryz.func37 ?_;simp only [go_sem,simprocAttr,hg0]);(repeat' (first | (refine Jqd ?_)|((refine Jqa (hJ) ?_);simp only [go_sem,simprocAttr]) | fail))
  all_goals (first | omega | rfl | (simp only [List.length_append,List.length_cons,List.length_nil];omega) | simp [Jrn,Jrk])
 ·rw [show Jse 4 s g (Jqi kids) (Jqf kids.list)=Jrn 4 s ++ Jqq [44,32] ((Jqi kids).map (·.2)) ++ [Jrk 4] from rfl,Jtn (k:=4) omg];generalize Jsg 4 (Jqi kids)=x at *
  (refine bgo Tryz.func37 ?_;simp only [go_sem,simprocAttr,hg0]);(repeat' (first | (refine Jqd ?_)|((refine Jqa (hJ) ?_);simp only [go_sem,simprocAttr]) | fail))
  all_goals (first | omega | rfl | (simp only [List.length_append,List.length_cons,List.length_nil];omega) | simp [Jrn,Jrk])
 ·rw [show Jse 5 s g (Jqi kids) (Jqf kids.list)=Jrn 5 s ++ Jqq [44,32] ((Jqi kids).map (·.2)) ++ [Jrk 5] from rfl,Jtn (k:=5) omg];generalize Jsg 5 (Jqi kids)=x at *
  (refine bgo Tryz.func37 ?_;simp only [go_sem,simprocAttr,hg0]);(repeat' (first | (refine Jqd ?_)|((refine Jqa (hJ) ?_);simp only [go_sem,simprocAttr]) | fail))
  all_goals (first | omega | rfl | (simp only [List.length_append,List.length_cons,List.length_nil];omega) | simp [Jrn,Jrk])
 ·rw [show Jse 6 s g (Jqi kids) (Jqf kids.list)=Jrn 6 s ++ Jqq [44,32] ((Jqi kids).map (·.2)) ++ [Jrk 6] from rfl,Jtn (k:=6) omg];generalize Jsg 6 (Jqi kids)=x at *
  (refine bgo Tryz.func37 ?_;simp only [go_sem,simprocAttr,hg0]);(repeat' (first | (refine Jqd ?_)|((refine Jqa (hJ) ?_);simp only [go_sem,simprocAttr]) | fail))
  all_goals (first | omega | rfl | (simp only [List.length_append,List.length_cons,List.length_nil];omega) | simp [Jrn,Jrk])
 ·rw [show Jse 7 s g (Jqi kids) (Jqf kids.list)=Jrn 7 s ++ Jqq [44,32] ((Jqi kids).map (·.2)) ++ [Jrk 7] from rfl,Jtn (k:=7) omg];generalize Jsg 7 (Jqi kids)=x at *
  (refine bgo Tryz.func37 ?_;simp only [go_sem,simprocAttr,hg0]);(repeat' (first | (refine And.intro (by simp only [List.length_append,List.length_cons,List.length_nil];omega) ?_)|(refine Jqd ?_)|((first | (refine Jqp ?_)|(refine Jqg (hJ) ?_));simp only [go_sem,simprocAttr,hg0]) | fail))
  all_goals (first | omega | rfl | (simp only [List.length_append,List.length_cons,List.length_nil];omega) | simp [Jrn,Jrk])
 ·rw [show Jse 8 s g (Jqi kids) (Jqf kids.list)=Jrn 8 s ++ Jqq [44,32] ((Jqi kids).map (·.2)) ++ [Jrk 8] from rfl,Jtn (k:=8) omg];generalize Jsg 8 (Jqi kids)=x at *
  (refine bgo Tryz.func37 ?_;simp only [go_sem,simprocAttr,hg0]);(repeat' (first | (refine And.intro (by simp only [List.length_append,List.length_cons,List.length_nil];omega) ?_)|(refine Jqd ?_)|((first | (refine Jqp ?_)|(refine Jqg (hJ) ?_));simp only [go_sem,simprocAttr,hg0]) | fail))
  all_goals (first | omega | rfl | (simp only [List.length_append,List.length_cons,List.length_nil];omega) | simp [Jrn,Jrk])
theorem J94:∀ n,n≤10000→Jzn n
 | 0,_=>fun t nm _ _ _ h=>by have:=Jrs t nm;omega
 | n+1,h=>Kc8 n omg (J94 n omg)
end Go.LX
set_option maxHeartbeats 2000000
namespace Go.LX
open Go Go.RowKit Go.Proofs
attribute [local irreducible] Al SWP Bi
theorem J2c (nm:List UInt8) (k:Int) (hk:k≠1) (s:List UInt8) (g:Int) (c:Node) (kids:RF) (hv:kids.enc.length≤999999):Det cx 33 [.p (.sl (rowL ((RT.mk k s g c kids).enc nm)))] [] (.p (.sl [])) []:=by
 have hg0:(rowL ((RT.mk k s g c kids).enc nm))[0]? = some [.int .i64 k,.int .i64 kids.len,.str nm,.str s,.int .i64 g,.int .i64 c.kind,.int .i64 c.many,.str c.name,.str c.s,.bool c.neg,.int .i64 c.e]:=by rw [Jqh];rfl
 have hl:=Jqs kids;generalize rowL ((RT.mk k s g c kids).enc nm)=rows at *
 have e1:=eq_false hk;have hA:Det cx 77 [.p (.sl rows),.p (.int .i64 0)] [] (.p (.sl [])) []:=by
  have w0:IntKind.i64.wrap 1=1:=by decide
  have w1:IntKind.i64.wrap (0+(kids.len:Int))=(kids.len:Int):=by rw [Int.zero_add,Aa omg omg]
  have w2:IntKind.i64.wrap ((0:Int)+1)=1:=by decide
  have w3:IntKind.i64.wrap (kids.len:Int)=(kids.len:Int):=by rw [Aa omg omg]
  (refine bgo Tryz.func77 ?_;simp only [go_sem,simprocAttr,w0]);refine Jqn (B1 [(7,42)] _ sm) ?_;simp only [go_sem,simprocAttr];refine SWP.loop (fun i:Nat=>⟨Ba 44 [(0,.p (.sl rows)),(1,.p (.int .i64 0)),(5,.own 42 0 0),(6,.p (.int .i64 1))],[(42,.row 49 7 [])]⟩) (fun i=>True) (fun i=>0) 0 Jqb trivial ?_;rintro i -
  (refine lws ?_;simp only [go_sem,simprocAttr,hg0,e1,w1]);(repeat' (first | (apply iteI <;> intro h)|(exact True.intro)))
 (refine bgo Tryz.func33 ?_;simp only [go_sem,simprocAttr]);(repeat' (first | ((refine Jqa (hA) ?_);simp only [go_sem,simprocAttr]) | fail))
theorem J4o (nm:List UInt8) (s:List UInt8) (g:Int) (c:Node) (kids:RF) (hv:kids.enc.length≤999999):Det cx 40 [.p (.sl (rowL ((RT.mk 1 s g c kids).enc nm)))] [] (.p (.sl [])) []:=by
 have hg0:(rowL ((RT.mk 1 s g c kids).enc nm))[0]? = some [.int .i64 1,.int .i64 kids.len,.str nm,.str s,.int .i64 g,.int .i64 c.kind,.int .i64 c.many,.str c.name,.str c.s,.bool c.neg,.int .i64 c.e]:=by rw [Jqh];rfl
 have hl:=Jqs kids;generalize rowL ((RT.mk 1 s g c kids).enc nm)=rows at *
 (refine bgo Tryz.func40 ?_;simp only [go_sem,simprocAttr]);refine Jqn (B1 [(9,44)] _ sm) ?_;simp only [go_sem,simprocAttr];refine SWP.loop (fun i:Nat=>⟨Ba 47 [(0,.p (.sl rows)),(3,.own 44 0 0),(4,.p (.int .i64 1)),(5,.p (.int .i64 0))],[(44,.row 40 1 [])]⟩) (fun i=>True) (fun i=>0) 0 Jqb trivial ?_;rintro i -
 (refine lws ?_;simp only [go_sem,simprocAttr,hg0]);(repeat' (first | (apply iteI <;> intro h)|(exact True.intro)))
theorem J9s (l:List RKT) (hl:l.length≤1000000) (hs:∀ p∈l,(p.2.enc []).length≤1000000):Det cx 38 [.p (.sl (Jra l)),.p (.sl (Jra l))] [] (.p (.bool true)) []:=by
 (refine bgo Tryz.func38 ?_;simp only [go_sem,simprocAttr,Jq3,not_true_eq_false]);refine SWP.loop (fun i:Nat=>⟨Ba 27 [(0,.p (.sl (Jra l))),(1,.p (.sl (Jra l))),(5,.p (.int .i64 i))],[]⟩) (fun i=>i≤l.length) (fun i=>l.length - i) 0 Jqb (Nat.zero_le _) ?_;intro i hi;by_cases hlt:i<l.length
 ·have c1:((i:Int)<(l.length:Int))=True:=eq_true omg;obtain ⟨p,hq⟩:∃ p,l[i]? = some p:=⟨_,List.getElem?_eq_getElem hlt⟩
  have hg:=Jui hq;have hS:=J38 (p.2.enc []) (p.2.enc []) (hs p (List.mem_of_getElem? hq)) (hs p (List.mem_of_getElem? hq));rw [decide_eq_true rfl] at hS;have w1:=wi1 (i:=i) omg;(refine lws ?_;simp only [go_sem,simprocAttr,Jq3,c1]);(repeat' (first | ((first | (refine Jqp ?_)|(refine Jqg (hS) ?_));simp only [go_sem,simprocAttr,hg,w1]) | fail));exact ⟨i+1,by omega,by omega,Jqb⟩
 ·have c1:((i:Int)<(l.length:Int))=False:=eq_false omg;(refine lws ?_;simp only [go_sem,simprocAttr,Jq3,decide_false,c1])
  skip
theorem Kbt (v:List YRow) (p:List Step) (hv:FiFit v) (hp:PathFit p):Det cx 8 [.p (.sl (rowL v)),.p (.sl (Bb p))] [] (.p (.bool true)) []:=by
 have hS:=Jx1 v 40 de (by have:=hv.len;omega) hv.row;cases b1:Jsq v 40 with
 | false =>
  rw [b1] at hS;(refine bgo Tryz.func8 ?_;simp only [go_sem,simprocAttr]);(repeat' (first | ((first | (refine Jqa (hS) ?_)|(refine Jqa (Jqx) ?_));simp only [go_sem,simprocAttr]) | fail))
 | true =>
  rw [b1] at hS;obtain ⟨hl40,hrow⟩:=Jtp hv b1;have hR:=Jsm v omg (Jsb hrow);cases b2:Jrr v with
  | false =>
   rw [b2] at hR;(refine bgo Tryz.func8 ?_;simp only [go_sem,simprocAttr]);(repeat' (first | ((first | (refine Jqa (hS) ?_)|(refine Jqa (hR) ?_)|(refine Jqa (Jqx) ?_));simp only [go_sem,simprocAttr]) | fail))
  | true =>
   rw [b2] at hR;have hP:=Jyz p hp.len hp.name;by_cases hpo:E9 p
   ·rw [decide_eq_true hpo] at hP;have hp6:=J1v hp hpo;obtain ⟨t,ho,h9,rfl,htl,hf,_⟩:=Jud hv b1 b2;have hLf:=Jwu p t [] omg hp6;have hLd:=Kd8 p t [] omg hp6;have hT1:=Jvj 10000 (Nat.le_refl _) t [] ho h9 hf omg;have hT2:=J94 10000 (Nat.le_refl _) t [] ho h9 hf omg;obtain ⟨k,s,g,c,kids⟩:=t;have hkl:kids.enc.length≤39:=by rw [Jqh,List.length_cons] at htl;omega
    generalize Jrb (.mk k s g c kids)=tx at hT1 hT2;obtain ⟨z,b,hz⟩:∃ (z:Int) (b:Bool),Jur (Jrm (.mk k s g c kids) p)=.tup [.int .i64 z,.bool b]:=by
     cases Jrm (.mk k s g c kids) p with
     | none=>exact ⟨_,_,rfl⟩
     | some o=>exact ⟨_,_,rfl⟩
    rw [hz] at hLf hLd;by_cases hk:k=1
    ·subst hk;have hlf:=J3u ho;have hA1:=Jxm [] s g c kids omg hlf;have hA2:=Jyt [] s g c kids omg hlf;have hQ1:=J3k [] s g c kids omg;have hQ2:=J4o [] s g c kids omg;have hLs:=J9s [] sm sm;rw [show Jra []=[] from rfl] at hLs;have hall:(Jqf kids.list).length≤39:=by
      unfold Jqf;have:=Jqs kids;rw [List.length_map,Jqo];omega
     generalize Jqf kids.list=al at *
     generalize rowL ((RT.mk 1 s g c kids).enc [])=rows at *
     clear hf ho hrow hv b1 b2;(refine bgo Tryz.func8 ?_;simp only [go_sem,simprocAttr]);(repeat' (first | ((first | (refine Jqa (hS) ?_)|(refine Jqa (hR) ?_)|(refine Jqa (hP) ?_)|(refine Jqa (hA1) ?_)|(refine Jqa (hA2) ?_));simp only [go_sem,simprocAttr,Jqm,not_true_eq_false]) | fail));refine SWP.loop (fun i:Nat=>⟨Ba 87 [(0,.p (.sl rows)),(1,.p (.sl (Bb p))),(5,.p (.sl (Jq9 al))),(6,.p (.sl (Jq9 al))),(7,.p (.int .i64 i))],[]⟩) (fun i=>i≤al.length) (fun i=>al.length - i) 0 Jqb (Nat.zero_le _) ?_;intro i hi;by_cases hlt:i<al.length
     ·have c1:((i:Int)<(al.length:Int))=True:=eq_true omg;obtain ⟨a,hq⟩:∃ a,al[i]? = some a:=⟨_,List.getElem?_eq_getElem hlt⟩
      have hg:=Jt9 hq;have w1:=wi1 (i:=i) omg;(refine lws ?_;simp only [go_sem,simprocAttr,Jqm,c1]);(repeat' (first | ((refine Jqp ?_);simp only [go_sem,simprocAttr,hg,w1]) | fail));exact ⟨i+1,by omega,by omega,Jqb⟩
     ·have c1:((i:Int)<(al.length:Int))=False:=eq_false omg;(refine lws ?_;simp only [go_sem,simprocAttr,Jqm,decide_false,c1]);(repeat' (first | ((first | (refine Jqa (hLf) ?_)|(refine Jqa (hLd) ?_)|(refine Jqa (hT1) ?_)|(refine Jqa (hT2) ?_)|(refine Jqa (hQ1) ?_)|(refine Jqa (hQ2) ?_)|(refine Jqa (hLs) ?_)|(refine Jqa (Jqx) ?_));simp only [go_sem,simprocAttr]) | fail))
    ·have hA1:=J10 [] k hk s g c kids;have hA2:=J2c [] k hk s g c kids omg;have hQ1:=J0n [] k s g c kids omg hk;have hQ2:=Jv4 [] k s g c kids omg hk;have hLs:=J9s kids.list (by have:=Jqs kids;rw [Jqo];omega) (fun p hp=>by have:=Jxv hp;omega);generalize rowL ((RT.mk k s g c kids).enc [])=rows at *
     clear hf ho hrow hv b1 b2;(refine bgo Tryz.func8 ?_;simp only [go_sem,simprocAttr]);(repeat' (first | ((first | (refine Jqa (hS) ?_)|(refine Jqa (hR) ?_)|(refine Jqa (hP) ?_)|(refine Jqa (hA1) ?_)|(refine Jqa (hA2) ?_));simp only [go_sem,simprocAttr]) | fail));refine SWP.loop (fun i:Nat=>⟨Ba 87 [(0,.p (.sl rows)),(1,.p (.sl (Bb p))),(5,.p .snil),(6,.p (.sl [])),(7,.p (.int .i64 0))],[]⟩) (fun i=>True) (fun i=>0) 0 Jqb trivial ?_;rintro i -
     (refine lws ?_;simp only [go_sem,simprocAttr,decide_false]);(repeat' (first | ((first | (refine Jqa (hLf) ?_)|(refine Jqa (hLd) ?_)|(refine Jqa (hT1) ?_)|(refine Jqa (hT2) ?_)|(refine Jqa (hQ1) ?_)|(refine Jqa (hQ2) ?_)|(refine Jqa (hLs) ?_)|(refine Jqa (Jqx) ?_));simp only [go_sem,simprocAttr]) | fail))
   ·rw [decide_eq_false hpo] at hP;(refine bgo Tryz.func8 ?_;simp only [go_sem,simprocAttr]);(repeat' (first | ((first | (refine Jqa (hS) ?_)|(refine Jqa (hR) ?_)|(refine Jqa (hP) ?_)|(refine Jqa (Jqx) ?_));simp only [go_sem,simprocAttr]) | fail))
end Go.LX
