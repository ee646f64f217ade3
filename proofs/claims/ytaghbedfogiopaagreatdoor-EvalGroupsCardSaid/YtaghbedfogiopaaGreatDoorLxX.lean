/- Rows of one's own that the library turns, cuts, sorts. -/
import Derived.Test.YtaghbedfogiopaaGreatDoorLxW
set_option linter.unusedSimpArgs false
set_option linter.unusedVariables false
set_option linter.unusedSectionVars false
set_option linter.unnecessarySimpa false
set_option maxRecDepth 100000
set_option maxHeartbeats 2000000
namespace Go.LX
open Go Go.RowKit Go.Proofs
attribute [local irreducible] Al SWP Bi
theorem J6d (es:List (List PV)) (n j:Nat) (hn:es.length=n) (hj:j<n) (hb:n<=1500000000000):Det cx 70 [.own 1000 0 n,.p (.int .i64 j),.p (.int .i64 (j+1:Nat))] [(1000,.row 25 1 es)] (.own 1000 0 (n - 1)) [(1000,.row 25 1 (es.eraseIdx j))]:=by
 unfold Det Al;refine ⟨enters_of Tryz.func70 kr rfl,fun β Im w vs hg hf=>?_⟩;obtain ⟨v,u,x,rfl,hv,hu,hx⟩:=fit3 hf;obtain rfl:=Mz hu;obtain rfl:=Mz hx;rcases Jy9 hf hv hn with ⟨h0,_⟩ | ⟨loc,cap,d,hβ,rfl,hc,hdl,hnc,hcm,hH,hd⟩
 ·omega
 ·subst hdl;have hm:maxLen=9223372036854775807:=rfl;obtain ⟨i0,hi0,hz1⟩:∃ i0,Tryz.prog.info? 25=some i0/\i0.size=1:=by
   have hc:Tryz.prog.cellsOf 25=1:=kr;cases h:Tryz.prog.info? 25 with
   | none=>simp [Program.cellsOf,h] at hc
   | some i=>exact ⟨i,rfl,by simpa [Program.cellsOf,h] using hc⟩
  have h:Calls Tryz.prog 70 #[.slice (some ⟨loc.blk,0,none⟩) d.toArray.size cap,.int .i64 j,.int .i64 (j+1:Nat)] w fun e w'=>e=.returned (.slice (some ⟨loc.blk,0,none⟩) (d.toArray.size - (j+1 - j)) cap)/\∃ q,w'=Sort.putRow v1 (Sort.ahead w q) loc.blk 0 (d.toArray.toList.take j ++ d.toArray.toList.drop (j+1) ++ List.replicate (j+1 - j) (⟨.slice none 0 0,rfl⟩:V1)).toArray :=
   AnyE.slices_Delete J27 v1 Kak ⟨.slice none 0 0,rfl⟩ Tryz.zeroValue25 i0 hi0 hz1 loc.blk 0 cap j (j+1) d.toArray w hH (by simpa using hnc) omg omg (by simp;omega)
  refine h.mono ?_;rintro e w' ⟨rfl,q,rfl⟩;refine ⟨_,_,_,β,Im,rfl,⟨rfl,rfl⟩,.inl ⟨loc,cap,0,hβ,by omega,by omega,fun _=>(Ecs _).symm,by simp⟩,Jy7 hf hβ (k:=q) (os:=#[]) (d:=d.take j ++ d.drop (j+1) ++ List.replicate (j+1 - j) (⟨.slice none 0 0,rfl⟩:V1)) (by rw [Sort.grow_empty]) (by simp;omega) (by rw [Ec5];simp;split <;> omega) fun i x e hx he=>?_⟩;have hl:(d.take j).length=j:=by rw [Eaw];omega
  have hel:=(Eab.1 he).1;rw [Ec5] at hel;have hi:i<d.length - 1:=by split at hel <;> omega
  rw [Eaq (by simp;omega)] at hx;rw [List.getElem?_eraseIdx] at he;split at he
  ·rw [Eaq omg,Eao,if_pos omg] at hx;exact hd _ x e hx he
  ·rw [Ean omg,Ecg,hl] at hx;exact hd (i+1) x e (by rw [<- hx];congr 1;omega) he
theorem J1f (v:List YRow) (i:Nat) (nm:List UInt8) (t:RT) (rest:List YRow) (hv:v.length<=850000000000) (h:v.drop i=t.enc nm ++ rest):Det cx 102 [.p (.sl (rowL v)),.p (.int .i64 i)] [] (.p (.int .i64 (i+(t.enc nm).length:Nat))) []:=by
 (refine bgo Tryz.func102 ?_;simp only [go_sem,simprocAttr]);have hp:=Jsi t nm;have hb:=J4f h (fun e=>by have e2:(t.enc nm ++ rest).length=0:=(by rw [e];rfl);rw [Eac] at e2;omega);rw [Eac] at hb;refine SWP.loop (fun x:Nat×Nat×RF=>⟨Ba 41 [(0,.p (.sl (rowL v))),(1,.p (.int .i64 x.1)),(5,.p (.int .i64 x.2.1))],[]⟩) (fun x=>x.2.1=x.2.2.len/\v.drop x.1=x.2.2.enc ++ rest/\x.1+x.2.2.enc.length=i+(t.enc nm).length) (fun x=>x.2.2.enc.length) (i,1,.cons nm t .nil) Jqc ⟨rfl,by simp [Jqv,Jsd,h],by simp [Jqv,Jsd]⟩ ?_;rintro ⟨j,left,F⟩ ⟨h0,h1,h2⟩;simp only at h0 h1 h2
 match F,h0,h1,h2 with
 | .nil,h0,h1,h2 =>
  rw [Jsd] at h2;simp only [RF.len] at h0;subst h0;have c0:((0:Int)<((0:Nat):Int))=False:=eq_false omg;(refine lws ?_;simp only [go_sem,simprocAttr]);simp only [List.length_nil] at h2;omega
 | .cons nm' (.mk k s g e kids) r,h0,h1,h2 =>
  rw [Jve] at h0;rw [Jqv,Jqs] at h1 h2;have hg:=Js5 h1;rw [Jr5] at hg;simp only [List.length_cons,Eac] at h2;have hl1:=Jq7 kids;have hl2:=Jq7 r;have w0:IntKind.i64.wrap ((left:Int) - 1)=(r.len:Int):=by rw [Aa omg omg];omega
  have w1:IntKind.i64.wrap ((r.len:Int)+(kids.len:Int))=((r.len+kids.len:Nat):Int):=by rw [Aa omg omg];omega
  (refine lws ?_;simp only [go_sem,simprocAttr,wj1 (i:=j) omg,hg,w0,w1,Jq0]);(repeat' (first|(apply iteI<;>intro h)|(exfalso;omega)))
  ·exact ⟨(j+1,r.len+kids.len,kids.app r),⟨by simp only [Jsr];omega,by
    simp only [Jq6];rw [<- Ebg,h1];simp,by simp only [Jq6,Eac];omega⟩,by simp only [Jq6,Jqv,Jqs,Eac,List.length_cons];omega,Jqc⟩
theorem J97 (v:List YRow) (hv:v.length<=10000):Det cx 102 [.p (.sl (rowL v)),.p (.int .i64 0)] [] (.p (.int .i64 (Jtm v 0 1))) []:=by
 (refine bgo Tryz.func102 ?_;simp only [go_sem,simprocAttr]);refine SWP.loop (fun x:Nat×Nat=>⟨Ba 41 [(0,.p (.sl (rowL v))),(1,.p (.int .i64 x.1)),(5,.p (.int .i64 x.2))],[]⟩) (fun x=>x.1<=v.length/\x.2<=1+x.1 * 10000/\Jtm v x.1 x.2=Jtm v 0 1) (fun x=>v.length - x.1) (0,1) Jqc ⟨Eav _,by simp,rfl⟩ ?_;rintro ⟨i,o⟩ ⟨h1,h2,h3⟩;simp only at h1 h2 h3;by_cases ho:o=0
 ·subst ho;rw [J96] at h3;have c0:((0:Int)<((0:Nat):Int))=False:=eq_false omg;(refine lws ?_;simp only [go_sem,simprocAttr]);rw [h3]
 ·have c0:((0:Int)<(o:Int))=True:=eq_true omg;by_cases hi:¬ i<v.length
  ·have c1:((v.length:Int)<=(i:Int))=True:=eq_true omg;rw [Kcj omg omg] at h3;(refine lws ?_;simp only [go_sem,simprocAttr,Jq0,c0,c1]);rw [<- h3]
  ·have hi:=Ea1.1 hi;have c1:((v.length:Int)<=(i:Int))=False:=eq_false omg;obtain ⟨n,hn⟩:∃ n,v[i]? = some n:=⟨_,Eaa hi⟩
   have hg:=Jzc hn;by_cases hb:n.many<0\/(v.length:Int)<n.many
   ·rw [Kb1 hn omg hb] at h3;by_cases hb1:n.many<0
    ·have c2:(n.many<0)=True:=eq_true hb1;(refine lws ?_;simp only [go_sem,simprocAttr,Jq0,c0,c1,c2,hg]);rw [<- h3]
    ·have c2:(n.many<0)=False:=eq_false hb1;have c3:((v.length:Int)<n.many)=True:=eq_true omg;(refine lws ?_;simp only [go_sem,simprocAttr,Jq0,c0,c1,c2,c3,hg]);rw [<- h3]
   ·have c2:(n.many<0)=False:=eq_false omg;have c3:((v.length:Int)<n.many)=False:=eq_false omg;obtain ⟨o',rfl⟩:∃ o',o=o'+1:=⟨o - 1,by omega⟩
    rw [J99 hn hb] at h3;have w1:IntKind.i64.wrap (((o'+1:Nat):Int) - 1)=(o':Int):=by rw [Aa omg omg];omega
    have w2:IntKind.i64.wrap ((o':Int)+n.many)=((o'+n.many.toNat:Nat):Int):=by rw [Aa omg omg];omega
    have w3:=wj1 (i:=i) omg;(refine lws ?_;simp only [go_sem,simprocAttr,Jq0,c0,c1,c2,c3,hg,w1,w2,w3]);exact ⟨(i+1,o'+n.many.toNat),⟨by simp only;omega,by simp only;omega,h3⟩,by simp only;omega,Jqc⟩
def preP (us:List (Nat×Tree)):Except Nat (List (Nat×Tree))->Except Nat (List (Nat×Tree))
 | .ok l=>.ok (us ++ l)
 | .error e=>.error e
def J29:Except Nat (List (Nat×Tree))->L
 | .ok us=>.tup [.sl (Jqd (us.map (·.2))),.sl (natL (us.map (·.1))),.int .i64 0]
 | .error e=>.tup [.snil,.snil,.int .i64 e]
theorem Kcu {t:Tree} (h:FitT t) {nm:List UInt8} (hn:nm.length<=1000000):∀ n∈t.enc nm,NodeFit n:=by
 obtain ⟨k,s,g,e,kids⟩:=t;intro n hn';unfold FitT at h;rw [A6] at h hn';rcases Eaj.1 hn' with rfl | h'
 ·have:=h _ Eaf;exact ⟨this.s,hn,this.e0,this.e1⟩
 ·exact h n (Eag _ h')
theorem J3m:∀ l:List KT,(∀ p∈l,FitT p.2/\p.1.length<=1000000)->∀ n∈(A1 l).enc,NodeFit n
 | [],_,n,hn=>by rw [show A1 []=.nil from rfl,Bl] at hn;cases hn
 | p :: l,hl,n,hn=>by
  rw [show A1 (p :: l)=.cons p.1 p.2 (A1 l) from rfl,A0] at hn;obtain ⟨h1,h2⟩:=hl p Eaf;rcases Eau.1 hn with hn | hn
  ·exact Kcu h1 h2 n hn
  ·exact J3m l (fun x hx=>hl x (Eag _ hx)) n hn
theorem Jvy (s:List UInt8) (hs:s.length<=1000000):Det cx 162 [.p (.str s)] [] (.p (.bool (decide (J14 s)))) []:=by
 have hR:=J4g s hs;by_cases h0:(Je s).2.2=0
 ·have c1:(((Je s).2.2:Int)=0)=True:=eq_true omg;rw [show decide (J14 s)=true from decide_eq_true h0];(refine bgo Tryz.func162 ?_;simp only [go_sem,simprocAttr]);(repeat' (first|((refine Jqa hR ?_);simp only [go_sem,simprocAttr,c1])|fail))
 ·have c1:(((Je s).2.2:Int)=0)=False:=eq_false omg;rw [show decide (J14 s)=false from decide_eq_false h0];(refine bgo Tryz.func162 ?_;simp only [go_sem,simprocAttr]);(repeat' (first|((refine Jqa hR ?_);simp only [go_sem,simprocAttr,c1])|fail))
theorem Kf6 (n:Node) (hf:NodeFitC n) (hk:n.kind<5):Det cx 24 [.p (.sl [[.int .i64 n.kind,.int .i64 n.many,.str n.name,.str n.s,.bool n.neg,.int .i64 n.e]])] [] (.p (.bool (decide (Js2 n)))) []:=by
 by_cases hnm:n.name=[]
 ·have hR:=Jp [n] sm (by intro x hx;simp at hx;subst hx;exact ⟨hf.s,by rw [hnm];simp,hf.e0,hf.e1⟩);rw [J81 hk,show valL [n]=[[.int .i64 n.kind,.int .i64 n.many,.str n.name,.str n.s,.bool n.neg,.int .i64 n.e]] from rfl] at hR;exact hR
 ·rw [decide_eq_false (fun h=>hnm h.2.1)];exact Jy2 n hnm
instance (op:Int) (s:List UInt8) (n:Int) (c:Node) (m:Int):Decidable (Jqq op s n c m):=by unfold Jqq;infer_instance
theorem Kdh (k m:Int) (nm s:List UInt8) (n:Int) (c:Node) (hs:s.length<=1000000) (hf:NodeFitC c):Det cx 130 [.p (.agg [.int .i64 k,.int .i64 m,.str nm,.str s,.int .i64 n,.int .i64 c.kind,.int .i64 c.many,.str c.name,.str c.s,.bool c.neg,.int .i64 c.e])] [] (.p (.bool (decide (Jqq k s n c m)))) []:=by
 by_cases k0:k=0
 ·subst k0;(refine bgo Tryz.func130 ?_;simp only [go_sem,simprocAttr]);(repeat' (apply iteI <;> intro h))
  all_goals (try clear hU)
  all_goals (try clear hP)
  all_goals (try clear hR)
  all_goals (clear hf hs)
  all_goals (rw [Ea0])
  all_goals (simp only [Jqq,Jre,decide_eq_true_eq,Int.reduceEq,if_true,if_false,true_or,or_true,or_false,false_or,or_self,ite_true,ite_false,reduceIte])
  all_goals (try simp_all)
  all_goals (try omega)
 by_cases k1:k=1
 ·subst k1;have hU:=Cn s hs;(refine bgo Tryz.func130 ?_;simp only [go_sem,simprocAttr]);(repeat' (first|(apply iteI<;>intro h)|((refine Jqa hU ?_);simp only [go_sem,simprocAttr])|fail))
  all_goals (try clear hU)
  all_goals (try clear hP)
  all_goals (try clear hR)
  all_goals (clear hf hs)
  all_goals (rw [Ea0])
  all_goals (simp only [Jqq,Jre,decide_eq_true_eq,Int.reduceEq,if_true,if_false,true_or,or_true,or_false,false_or,or_self,ite_true,ite_false,reduceIte])
  all_goals (try simp_all)
  all_goals (try omega)
 by_cases k2:k=2
 ·subst k2;(refine bgo Tryz.func130 ?_;simp only [go_sem,simprocAttr]);(repeat' (apply iteI <;> intro h))
  all_goals (try clear hU)
  all_goals (try clear hP)
  all_goals (try clear hR)
  all_goals (clear hf hs)
  all_goals (rw [Ea0])
  all_goals (simp only [Jqq,Jre,decide_eq_true_eq,Int.reduceEq,if_true,if_false,true_or,or_true,or_false,false_or,or_self,ite_true,ite_false,reduceIte])
  all_goals (try simp_all)
  all_goals (try omega)
 by_cases k3:k=3
 ·subst k3;(refine bgo Tryz.func130 ?_;simp only [go_sem,simprocAttr]);(repeat' (apply iteI <;> intro h))
  all_goals (try clear hU)
  all_goals (try clear hP)
  all_goals (try clear hR)
  all_goals (clear hf hs)
  all_goals (rw [Ea0])
  all_goals (simp only [Jqq,Jre,decide_eq_true_eq,Int.reduceEq,if_true,if_false,true_or,or_true,or_false,false_or,or_self,ite_true,ite_false,reduceIte])
  all_goals (try simp_all)
  all_goals (try omega)
 by_cases k4:k=4
 ·subst k4;(refine bgo Tryz.func130 ?_;simp only [go_sem,simprocAttr]);(repeat' (apply iteI <;> intro h))
  all_goals (try clear hU)
  all_goals (try clear hP)
  all_goals (try clear hR)
  all_goals (clear hf hs)
  all_goals (rw [Ea0])
  all_goals (simp only [Jqq,Jre,decide_eq_true_eq,Int.reduceEq,if_true,if_false,true_or,or_true,or_false,false_or,or_self,ite_true,ite_false,reduceIte])
  all_goals (try simp_all)
  all_goals (try omega)
 by_cases k5:k=5
 ·subst k5;(refine bgo Tryz.func130 ?_;simp only [go_sem,simprocAttr]);(repeat' (apply iteI <;> intro h))
  all_goals (try clear hU)
  all_goals (try clear hP)
  all_goals (try clear hR)
  all_goals (clear hf hs)
  all_goals (rw [Ea0])
  all_goals (simp only [Jqq,Jre,decide_eq_true_eq,Int.reduceEq,if_true,if_false,true_or,or_true,or_false,false_or,or_self,ite_true,ite_false,reduceIte])
  all_goals (try simp_all)
  all_goals (try omega)
 by_cases k6:k=6
 ·subst k6;(refine bgo Tryz.func130 ?_;simp only [go_sem,simprocAttr]);(repeat' (apply iteI <;> intro h))
  all_goals (try clear hU)
  all_goals (try clear hP)
  all_goals (try clear hR)
  all_goals (clear hf hs)
  all_goals (rw [Ea0])
  all_goals (simp only [Jqq,Jre,decide_eq_true_eq,Int.reduceEq,if_true,if_false,true_or,or_true,or_false,false_or,or_self,ite_true,ite_false,reduceIte])
  all_goals (try simp_all)
  all_goals (try omega)
 by_cases k7:k=7
 ·subst k7;(refine bgo Tryz.func130 ?_;simp only [go_sem,simprocAttr]);(repeat' (apply iteI <;> intro h))
  all_goals (try clear hU)
  all_goals (try clear hP)
  all_goals (try clear hR)
  all_goals (clear hf hs)
  all_goals (rw [Ea0])
  all_goals (simp only [Jqq,Jre,decide_eq_true_eq,Int.reduceEq,if_true,if_false,true_or,or_true,or_false,false_or,or_self,ite_true,ite_false,reduceIte])
  all_goals (try simp_all)
  all_goals (try omega)
 by_cases k8:k=8
 ·subst k8;(refine bgo Tryz.func130 ?_;simp only [go_sem,simprocAttr]);(repeat' (apply iteI <;> intro h))
  all_goals (try clear hU)
  all_goals (try clear hP)
  all_goals (try clear hR)
  all_goals (clear hf hs)
  all_goals (rw [Ea0])
  all_goals (simp only [Jqq,Jre,decide_eq_true_eq,Int.reduceEq,if_true,if_false,true_or,or_true,or_false,false_or,or_self,ite_true,ite_false,reduceIte])
  all_goals (try simp_all)
  all_goals (try omega)
 by_cases k9:k=9
 ·subst k9;(refine bgo Tryz.func130 ?_;simp only [go_sem,simprocAttr]);(repeat' (apply iteI <;> intro h))
  all_goals (try clear hU)
  all_goals (try clear hP)
  all_goals (try clear hR)
  all_goals (clear hf hs)
  all_goals (rw [Ea0])
  all_goals (simp only [Jqq,Jre,decide_eq_true_eq,Int.reduceEq,if_true,if_false,true_or,or_true,or_false,false_or,or_self,ite_true,ite_false,reduceIte])
  all_goals (try simp_all)
  all_goals (try omega)
 by_cases k10:k=10
 ·subst k10;(refine bgo Tryz.func130 ?_;simp only [go_sem,simprocAttr]);(repeat' (apply iteI <;> intro h))
  all_goals (try clear hU)
  all_goals (try clear hP)
  all_goals (try clear hR)
  all_goals (clear hf hs)
  all_goals (rw [Ea0])
  all_goals (simp only [Jqq,Jre,decide_eq_true_eq,Int.reduceEq,if_true,if_false,true_or,or_true,or_false,false_or,or_self,ite_true,ite_false,reduceIte])
  all_goals (try simp_all)
  all_goals (try omega)
 by_cases k11:k=11
 ·subst k11;(refine bgo Tryz.func130 ?_;simp only [go_sem,simprocAttr]);(repeat' (apply iteI <;> intro h))
  all_goals (try clear hU)
  all_goals (try clear hP)
  all_goals (try clear hR)
  all_goals (clear hf hs)
  all_goals (rw [Ea0])
  all_goals (simp only [Jqq,Jre,decide_eq_true_eq,Int.reduceEq,if_true,if_false,true_or,or_true,or_false,false_or,or_self,ite_true,ite_false,reduceIte])
  all_goals (try simp_all)
  all_goals (try omega)
 by_cases k12:k=12
 ·subst k12;have hP:=Jvy s hs;(refine bgo Tryz.func130 ?_;simp only [go_sem,simprocAttr]);(repeat' (first|(apply iteI<;>intro h)|((refine Jqa hP ?_);simp only [go_sem,simprocAttr])|fail))
  all_goals (try clear hU)
  all_goals (try clear hP)
  all_goals (try clear hR)
  all_goals (clear hf hs)
  all_goals (rw [Ea0])
  all_goals (simp only [Jqq,Jre,decide_eq_true_eq,Int.reduceEq,if_true,if_false,true_or,or_true,or_false,false_or,or_self,ite_true,ite_false,reduceIte])
  all_goals (try simp_all)
  all_goals (try omega)
 by_cases k13:k=13
 ·subst k13;have hP:=Jvy s hs;(refine bgo Tryz.func130 ?_;simp only [go_sem,simprocAttr]);(repeat' (first|(apply iteI<;>intro h)|((refine Jqa hP ?_);simp only [go_sem,simprocAttr])|fail))
  all_goals (try clear hU)
  all_goals (try clear hP)
  all_goals (try clear hR)
  all_goals (clear hf hs)
  all_goals (rw [Ea0])
  all_goals (simp only [Jqq,Jre,decide_eq_true_eq,Int.reduceEq,if_true,if_false,true_or,or_true,or_false,false_or,or_self,ite_true,ite_false,reduceIte])
  all_goals (try simp_all)
  all_goals (try omega)
 by_cases k14:k=14
 ·subst k14;(refine bgo Tryz.func130 ?_;simp only [go_sem,simprocAttr]);(repeat' (apply iteI <;> intro h))
  all_goals (try clear hU)
  all_goals (try clear hP)
  all_goals (try clear hR)
  all_goals (clear hf hs)
  all_goals (rw [Ea0])
  all_goals (simp only [Jqq,Jre,decide_eq_true_eq,Int.reduceEq,if_true,if_false,true_or,or_true,or_false,false_or,or_self,ite_true,ite_false,reduceIte])
  all_goals (try simp_all)
  all_goals (try omega)
 by_cases k15:k=15
 ·subst k15;have hP:=Jvy s hs;(refine bgo Tryz.func130 ?_;simp only [go_sem,simprocAttr]);(repeat' (first|(apply iteI<;>intro h)|((refine Jqa hP ?_);simp only [go_sem,simprocAttr])|fail))
  all_goals (try clear hU)
  all_goals (try clear hP)
  all_goals (try clear hR)
  all_goals (clear hf hs)
  all_goals (rw [Ea0])
  all_goals (simp only [Jqq,Jre,decide_eq_true_eq,Int.reduceEq,if_true,if_false,true_or,or_true,or_false,false_or,or_self,ite_true,ite_false,reduceIte])
  all_goals (try simp_all)
  all_goals (try omega)
 by_cases k17:k=17
 ·subst k17;(refine bgo Tryz.func130 ?_;simp only [go_sem,simprocAttr]);(repeat' (apply iteI <;> intro h))
  all_goals (try clear hU)
  all_goals (try clear hP)
  all_goals (try clear hR)
  all_goals (clear hf hs)
  all_goals (rw [Ea0])
  all_goals (simp only [Jqq,Jre,decide_eq_true_eq,Int.reduceEq,if_true,if_false,true_or,or_true,or_false,false_or,or_self,ite_true,ite_false,reduceIte])
  all_goals (try simp_all)
  all_goals (try omega)
 by_cases k18:k=18
 ·subst k18;(refine bgo Tryz.func130 ?_;simp only [go_sem,simprocAttr]);(repeat' (apply iteI <;> intro h))
  all_goals (try clear hU)
  all_goals (try clear hP)
  all_goals (try clear hR)
  all_goals (clear hf hs)
  all_goals (rw [Ea0])
  all_goals (simp only [Jqq,Jre,decide_eq_true_eq,Int.reduceEq,if_true,if_false,true_or,or_true,or_false,false_or,or_self,ite_true,ite_false,reduceIte])
  all_goals (try simp_all)
  all_goals (try omega)
 by_cases k19:k=19
 ·subst k19;(refine bgo Tryz.func130 ?_;simp only [go_sem,simprocAttr]);(repeat' (apply iteI <;> intro h))
  all_goals (try clear hU)
  all_goals (try clear hP)
  all_goals (try clear hR)
  all_goals (clear hf hs)
  all_goals (rw [Ea0])
  all_goals (simp only [Jqq,Jre,decide_eq_true_eq,Int.reduceEq,if_true,if_false,true_or,or_true,or_false,false_or,or_self,ite_true,ite_false,reduceIte])
  all_goals (try simp_all)
  all_goals (try omega)
 by_cases k16:k=16
 ·subst k16;have hP:=Jvy s hs;by_cases hk:c.kind<5
  ·have hR:=Kf6 c hf hk;have ck:=eq_true hk;(refine bgo Tryz.func130 ?_;simp only [go_sem,simprocAttr]);(repeat' (first|(apply iteI<;>intro h)|((first|refine Jqa hP ?_|refine Jqa hR ?_);simp only [go_sem,simprocAttr,ck,decide_true])|fail))
   all_goals (try clear hU)
   all_goals (try clear hP)
   all_goals (try clear hR)
   all_goals (clear hf hs)
   all_goals (rw [Ea0])
   all_goals (simp only [Jqq,Jre,decide_eq_true_eq,Int.reduceEq,if_true,if_false,true_or,or_true,or_false,false_or,or_self,ite_true,ite_false,reduceIte])
   all_goals (try simp_all)
   all_goals (try omega)
  ·have ck:=eq_false hk;have hnp:¬ Js2 c:=fun h=>hk h.1
   (refine bgo Tryz.func130 ?_;simp only [go_sem,simprocAttr]);(repeat' (first|(apply iteI<;>intro h)|((refine Jqa hP ?_);simp only [go_sem,simprocAttr,ck,decide_false])|fail))
   all_goals (try clear hU)
   all_goals (try clear hP)
   all_goals (try clear hR)
   all_goals (clear hf hs)
   all_goals (rw [Ea0])
   all_goals (simp only [Jqq,Jre,decide_eq_true_eq,Int.reduceEq,if_true,if_false,true_or,or_true,or_false,false_or,or_self,ite_true,ite_false,reduceIte])
   all_goals (try simp_all)
   all_goals (try omega)
 have e0:=eq_false k0;have e1:=eq_false k1;have e2:=eq_false k2;have e3:=eq_false k3;have e4:=eq_false k4;have e5:=eq_false k5;have e6:=eq_false k6;have e7:=eq_false k7;have e8:=eq_false k8;have e9:=eq_false k9;have e10:=eq_false k10;have e11:=eq_false k11;have e12:=eq_false k12;have e13:=eq_false k13;have e14:=eq_false k14;have e15:=eq_false k15;have e17:=eq_false k17;have e18:=eq_false k18;have e19:=eq_false k19;have e16:=eq_false k16;rw [show decide (Jqq k s n c m)=false by simp [Jqq,k0,k1,k2,k3,k4,k5,k6,k7,k8,k9,k10,k11,k12,k13,k14,k15,k16,k17,k18,k19]];(refine bgo Tryz.func130 ?_;simp only [go_sem,simprocAttr,e0,e1,e2,e3,e4,e5,e6,e7,e8,e9,e10,e11,e12,e13,e14,e15,e16,e17,e18,e19])
 skip
theorem J90 (k m:Int) (nm s:List UInt8) (n:Int) (c:Node):Det cx 81 [.p (.agg [.int .i64 k,.int .i64 m,.str nm,.str s,.int .i64 n,.int .i64 c.kind,.int .i64 c.many,.str c.name,.str c.s,.bool c.neg,.int .i64 c.e]) ] [] (.p (.bool (decide (Jrm k)))) []:=by
 by_cases h1:16<=k
 ·have c1:=eq_true h1;by_cases h2:k<=19
  ·have c2:=eq_true h2;rw [show decide (Jrm k)=true from decide_eq_true ⟨h1,h2⟩];(refine bgo Tryz.func81 ?_;simp only [go_sem,simprocAttr,c1,c2,decide_true])
   skip
  ·have c2:=eq_false h2;rw [show decide (Jrm k)=false from decide_eq_false fun h=>h2 h.2];(refine bgo Tryz.func81 ?_;simp only [go_sem,simprocAttr,c1,c2,decide_true,decide_false])
   skip
 ·have c1:=eq_false h1;rw [show decide (Jrm k)=false from decide_eq_false fun h=>h1 h.1];(refine bgo Tryz.func81 ?_;simp only [go_sem,simprocAttr,c1,decide_false])
  skip
def Jrt (i:Nat) (l:List RKT) (q:Nat):Nat:=i+1+(rfL (l.take q)).enc.length
theorem J2s (i:Nat) (l:List RKT):Jrt i l 0=i+1:=by unfold Jrt;rw [List.take_zero,rfL,Jsd];rfl
theorem Jx9 {i:Nat} {l:List RKT} {q:Nat} {p:RKT} (h:l[q]? = some p):Jrt i l (q+1)=Jrt i l q+(p.2.enc p.1).length:=by
 unfold Jrt;rw [Js7,Js7,Ea8,h,Option.toList_some,List.flatMap_append,Eac];simp;omega
theorem Jt5:∀ f:RF,rfL f.list=f
 | .nil=>rfl
 | .cons nm t r=>by rw [RF.list,rfL,Jt5 r]
theorem J74 {v:List YRow} {i:Nat} {y:YRow} {kids:RF} {rest:List YRow} (h:v.drop i=y :: (kids.enc ++ rest)) {q:Nat} (hq:q<=kids.list.length):v.drop (Jrt i kids.list q)=(rfL (kids.list.drop q)).enc ++ rest:=by
 unfold Jrt;have e1:kids.enc=(rfL (kids.list.take q)).enc ++ (rfL (kids.list.drop q)).enc:=by
  rw [Js7,Js7,<- List.flatMap_append,Ebl,<- Js7,Jt5]
 rw [<- Ebg,<- Ebg,h,Eb1,Ebi,e1,Ea2,Ec4]
theorem Jyq {v:List YRow} {i:Nat} {y:YRow} {kids:RF} {rest:List YRow} (h:v.drop i=y :: (kids.enc ++ rest)) {q:Nat} {p:RKT} (hp:kids.list[q]? = some p):v.drop (Jrt i kids.list q)=p.2.enc p.1 ++ ((rfL (kids.list.drop (q+1))).enc ++ rest):=by
 have hq:=(Eab.1 hp).1;rw [J74 h omg,Eax hq];have:kids.list[q]=p:=(Eab.1 hp).2;rw [this,rfL,Jqv,Ea2]
theorem J79 {v:List YRow} {i:Nat} {y:YRow} {kids:RF} {rest:List YRow} (h:v.drop i=y :: (kids.enc ++ rest)) {q:Nat} {p:RKT} (hp:kids.list[q]? = some p):Jrt i kids.list q+(p.2.enc p.1).length<=v.length:=by
 have h1:=Jyq h hp;have h2:=congrArg List.length h1;have h3:=Jsi p.2 p.1;rw [Ea4,Eac] at h2;omega
theorem Kau {i:Nat} {l:List RKT} {q r:Nat} (h:q<r) (hr:r<=l.length):Jrt i l q<Jrt i l r:=by
 induction r with
 | zero=>omega
 | succ r ih =>
  obtain ⟨p,hp⟩:∃ p,l[r]? = some p:=⟨_,Eaa omg⟩
  rw [Jx9 hp];have:=Jsi p.2 p.1;by_cases e:q=r
  ·subst e;omega
  ·have:=ih omg omg;omega
theorem d_had (v:List YRow) (i:Nat) (y:YRow) (kids:RF) (rest:List YRow) (q:Nat) (p:RKT) (hv:v.length<=850000000000) (h:v.drop i=y :: (kids.enc ++ rest)) (hp:kids.list[q]? = some p):Det cx 163 [.p (.sl (rowL v)),.p (.int .i64 i),.p (.int .i64 (Jrt i kids.list q))] [] (.p (.bool (decide (p.1∈(kids.list.take q).map (·.1))))) []:=by
 have hq:=(Eab.1 hp).1;have hlt:=J79 h hp;have h0:i+1<=Jrt i kids.list q:=by unfold Jrt;omega
 obtain ⟨k1,n1,s1,g1,e1,hgp⟩:=Jzt (Jyq h hp);have w0:=wj1 (i:=i) omg;(refine bgo Tryz.func163 ?_;simp only [go_sem,simprocAttr,w0]);refine SWP.loop (fun r:Nat=>⟨Ba 27 [(0,.p (.sl (rowL v))),(1,.p (.int .i64 i)),(2,.p (.int .i64 (Jrt i kids.list q))),(7,.p (.int .i64 (Jrt i kids.list r)))],[]⟩) (fun r=>r<=q/\p.1 ∉ (kids.list.take r).map (·.1)) (fun r=>q - r) 0 (by rw [J2s];exact Jqc) ⟨Eav _,by simp⟩ ?_;rintro r ⟨hr,hn⟩;by_cases hrq:r<q
 ·have hpl:=Kau (i:=i) hrq (by omega:q<=kids.list.length);have c1:((Jrt i kids.list r:Int)<(Jrt i kids.list q:Int))=True:=eq_true omg;obtain ⟨x,hx⟩:∃ x,kids.list[r]? = some x:=⟨_,Eaa omg⟩
  have hd:=Jyq h hx;obtain ⟨k2,n2,s2,g2,e2,hgx⟩:=Jzt hd;by_cases hnm:x.1=p.1
  ·have c2:=eq_true hnm;have hin:p.1∈(kids.list.take q).map (·.1):=by
    rw [<- hnm];refine Eap.2 ⟨x,?_,rfl⟩;exact Eae (i:=r) (by rw [Eao,if_pos hrq];exact hx)
   rw [decide_eq_true hin];(refine lws ?_;simp only [go_sem,simprocAttr,c1,decide_true]);(repeat' (first|((refine Jqm ?_);simp only [go_sem,simprocAttr,hgp,c2,hgx])|fail))
  ·have c2:=eq_false hnm;have hNx:=J1f v (Jrt i kids.list r) x.1 x.2 _ hv hd;rw [<- Jx9 hx] at hNx;(refine lws ?_;simp only [go_sem,simprocAttr,c1,decide_true]);(repeat' (first|((first|refine Jqm ?_|refine Jqa hNx ?_);simp only [go_sem,simprocAttr,hgp,c2,hgx])|fail));exact ⟨r+1,⟨by omega,by
    rw [Ea8,hx,Option.toList_some,Ebu,Eau];rintro (a | a)
    ·exact hn a
    ·simp at a;exact hnm a.symm⟩,by omega,Jqc⟩
 ·obtain rfl:r=q:=by omega
  have c1:((Jrt i kids.list r:Int)<(Jrt i kids.list r:Int))=False:=eq_false omg;rw [decide_eq_false hn];(refine lws ?_;simp only [go_sem,simprocAttr,c1])
  skip
def Jtq (op:Int) (l:List RKT) (q:Nat) (p:RKT):Prop:=Kft op p/\(op=4->q=0->p.2.kind≠4)/\(op=8->p.1 ∉ (l.take q).map (·.1))
theorem J3t {l:List (List UInt8)}:l.Nodup ↔ ∀ q x,l[q]? = some x->x ∉ l.take q:=by
 constructor
 ·intro h q x hx hm';obtain ⟨r,hr⟩:=Ebt hm';rw [Eao] at hr;split at hr
  ·obtain ⟨a,rfl⟩:=Eab.1 hr;obtain ⟨b,hb⟩:=Eab.1 hx;exact (Eca.1 h) r q a b omg hb.symm
  ·cases hr
 ·intro h;refine Eca.2 fun i j hi hj hij e=>?_
  have hx:=Eaa hj;refine h j _ hx (Eae (i:=i) ?_);rw [Eao,if_pos hij,<- e];exact Eaa hi
theorem J5h {op:Int} {l:List RKT}:Jsy op l ↔ ∀ q p,l[q]? = some p->Jtq op l q p:=by
 unfold Jsy Jtq;constructor
 ·rintro ⟨h1,h2,h3⟩ q p hp;refine ⟨h1 p (Eae hp),fun a b=>?_,fun a=>?_⟩
  ·subst b;exact h2 a p (by rw [List.head?_eq_getElem?];exact hp)
  ·rw [Ecq];exact (J3t.1 (h3 a)) q p.1 (by simp [hp])
 ·intro h;refine ⟨fun p hp=>?_,fun a p hp=>?_,fun a=>?_⟩
  ·obtain ⟨q,hq⟩:=Ebt hp;exact (h q p hq).1
  ·exact (h 0 p (by rw [<- List.head?_eq_getElem?];exact hp)).2.1 a rfl
  ·rw [J3t];intro q x hx;rw [Eam] at hx;cases hq:l[q]? with
   | none=>rw [hq] at hx;cases hx
   | some p =>
    rw [hq] at hx;cases hx;rw [<- Ecq];exact (h q p hq).2.2 a
open Classical in
noncomputable def J0i (k:Int) (l:List RKT):Bool:=decide (Jsy k l)
theorem J8f {k:Int} {l:List RKT} (h:Jsy k l):true=J0i k l:=by unfold J0i;exact (@decide_eq_true _ (Classical.propDecidable _) h).symm
theorem J67 {k:Int} {l:List RKT} (h:¬ Jsy k l):false=J0i k l:=by unfold J0i;exact (@decide_eq_false _ (Classical.propDecidable _) h).symm
theorem Kc9 (v:List YRow) (i:Nat) (nm:List UInt8) (k:Int) (s:List UInt8) (g:Int) (e:Node) (kids:RF) (rest:List YRow) (hv:v.length<=850000000000) (h:v.drop i=(RT.mk k s g e kids).enc nm ++ rest) (hs:∀ n∈v,n.name.length<=1000000):Det cx 131 [.p (.sl (rowL v)),.p (.int .i64 i)] [] (.p (.bool (J0i k kids.list))) []:=by
 have hll:=Jq7 kids;have hkl:=Jq4 kids;rw [Jqs] at h;have hg0:=Js5 h;rw [Jr5] at hg0;have hb:=J4f h sm;simp only [List.cons_append,List.length_cons,Eac] at hb;have w0:=wj1 (i:=i) omg;have hI0:=J90 k kids.len nm s g e;(refine bgo Tryz.func131 ?_;simp only [go_sem,simprocAttr,hg0,w0]);refine SWP.loop (fun q:Nat=>⟨Ba 77 [(0,.p (.sl (rowL v))),(1,.p (.int .i64 i)),(5,.ptr 5 0 0),(6,.p (.int .i64 (Jrt i kids.list q))),(7,.p (.int .i64 q))],[(5,.var 38 [.p (.int .i64 k),.p (.int .i64 kids.len),.p (.str nm),.p (.str s),.p (.int .i64 g),.p (.int .i64 e.kind),.p (.int .i64 e.many),.p (.str e.name),.p (.str e.s),.p (.bool e.neg),.p (.int .i64 e.e)])]⟩) (fun q=>q<=kids.len/\∀ r p,r<q->kids.list[r]? = some p->Jtq k kids.list r p) (fun q=>kids.len - q) 0 (by rw [J2s];exact Jqc) ⟨Eav _,fun r p hr=>by omega⟩ ?_;rintro q ⟨h1,h2⟩;by_cases hq:q<kids.len
 ·have c1:((q:Int)<(kids.len:Int))=True:=eq_true omg;obtain ⟨⟨nm',k',s',g',e',kids'⟩,hp⟩:∃ p,kids.list[q]? = some p:=⟨_,Eaa omg⟩
  have hd:=Jyq h hp;have hlt:=J79 h hp;have hpos:=Jsi (.mk k' s' g' e' kids') nm';simp only at hd hlt;have hga:(rowL v)[Jrt i kids.list q]? = some [.int .i64 k',.int .i64 kids'.len,.str nm',.str s',.int .i64 g',.int .i64 e'.kind,.int .i64 e'.many,.str e'.name,.str e'.s,.bool e'.neg,.int .i64 e'.e]:=by
   rw [Jqs] at hd;exact Js5 hd
  have hnl:nm'.length<=1000000:=by
   rw [Jqs] at hd;have hm:(⟨k',kids'.len,nm',s',g',e'⟩:YRow)∈v.drop (Jrt i kids.list q):=by rw [hd];exact Eaf
   exact hs _ (Ea7 hm)
  have w1:=wj1 (i:=q) omg;have hIx:=J90 k' kids'.len nm' s' g' e';have hNx:=J1f v (Jrt i kids.list q) nm' (.mk k' s' g' e' kids') _ hv hd;rw [show Jrt i kids.list q+((RT.mk k' s' g' e' kids').enc nm').length=Jrt i kids.list (q+1) from (Jx9 hp).symm] at hNx;have hU:=Cn nm' hnl;have hH:=d_had v i ⟨k,kids.len,nm,s,g,e⟩ kids rest q (nm',.mk k' s' g' e' kids') hv h hp;simp only at hH;have hno:¬ Jtq k kids.list q (nm',.mk k' s' g' e' kids')->false=J0i k kids.list:=fun hn=>J67 fun hk=>hn (J5h.1 hk q _ hp)
  have hyes:Jtq k kids.list q (nm',.mk k' s' g' e' kids')->∀ r p,r<q+1->kids.list[r]? = some p->Jtq k kids.list r p:=fun hy r p hr hrp=>by
   by_cases e:r=q
   ·subst e;rw [hp] at hrp;cases hrp;exact hy
   ·exact h2 r p omg hrp
  by_cases hX:Jrm k'
  ·rw [decide_eq_true hX] at hIx;by_cases hY:Jrm k
   ·rw [decide_eq_true hY] at hI0;have hkd:Jrm k' ↔ Jrm k\/k=7:=⟨fun _=>.inl hY,fun _=>hX⟩
    by_cases o4:k=4
    ·have e4:=eq_true o4;have e8:(k=8)=False:=eq_false omg;by_cases q0:q=0
     ·have f0:((q:Int)=0)=True:=eq_true omg;by_cases k4:k'=4
      ·have g4:=eq_true k4;(refine lws ?_;simp only [go_sem,simprocAttr,c1,hga,decide_true]);(repeat' (first|((first|refine Jqm ?_|refine Jqb hIx ?_|refine Jqb hI0 ?_);simp only [go_sem,simprocAttr,bne_self_eq_false,e4,f0,g4])|fail))
       all_goals exact hno fun h=>h.2.1 o4 q0 k4
      ·have g4:=eq_false k4;by_cases n0:nm'=[]
       ·have fn:=eq_true n0;have hy:Jtq k kids.list q (nm',.mk k' s' g' e' kids'):=⟨⟨hkd,fun _=>n0,fun h=>absurd h omg⟩,fun _ _=>k4,fun h=>absurd h omg⟩
        (refine lws ?_;simp only [go_sem,simprocAttr,c1,hga,decide_true]);(repeat' (first|((first|refine Jqm ?_|refine Jqb hIx ?_|refine Jqb hI0 ?_|refine Jqa hNx ?_);simp only [go_sem,simprocAttr,w1,Ebe,bne_self_eq_false,e4,e8,f0,g4,fn])|fail))
        all_goals exact ⟨q+1,⟨by omega,hyes hy⟩,by omega,Jqc⟩
       ·have fn:=eq_false n0;(refine lws ?_;simp only [go_sem,simprocAttr,c1,hga,decide_true]);(repeat' (first|((first|refine Jqm ?_|refine Jqb hIx ?_|refine Jqb hI0 ?_);simp only [go_sem,simprocAttr,Ebe,bne_self_eq_false,e4,e8,f0,g4,fn])|fail))
        all_goals exact hno fun h=>n0 (h.1.2.1 omg)
     ·have f0:((q:Int)=0)=False:=eq_false omg;by_cases n0:nm'=[]
      ·have fn:=eq_true n0;have hy:Jtq k kids.list q (nm',.mk k' s' g' e' kids'):=⟨⟨hkd,fun _=>n0,fun h=>absurd h omg⟩,fun _ h=>absurd h q0,fun h=>absurd h omg⟩
       (refine lws ?_;simp only [go_sem,simprocAttr,c1,hga,decide_true]);(repeat' (first|((first|refine Jqm ?_|refine Jqb hIx ?_|refine Jqb hI0 ?_|refine Jqa hNx ?_);simp only [go_sem,simprocAttr,w1,Ebe,bne_self_eq_false,e4,e8,f0,fn])|fail))
       all_goals exact ⟨q+1,⟨by omega,hyes hy⟩,by omega,Jqc⟩
      ·have fn:=eq_false n0;(refine lws ?_;simp only [go_sem,simprocAttr,c1,hga,decide_true]);(repeat' (first|((first|refine Jqm ?_|refine Jqb hIx ?_|refine Jqb hI0 ?_);simp only [go_sem,simprocAttr,Ebe,bne_self_eq_false,e4,e8,f0,fn])|fail))
       all_goals exact hno fun h=>n0 (h.1.2.1 omg)
    ·have e4:=eq_false o4;by_cases o8:k=8
     ·have e8:=eq_true o8;cases hva:valid nm' with
      | false =>
       rw [hva] at hU;(refine lws ?_;simp only [go_sem,simprocAttr,c1,hga,decide_true]);(repeat' (first|((first|refine Jqm ?_|refine Jqb hIx ?_|refine Jqb hI0 ?_|refine Jqa hU ?_);simp only [go_sem,simprocAttr,Ect,bne_self_eq_false,e4,e8])|fail))
       all_goals exact hno fun h=>by have:=h.1.2.2 o8;simp only at this;rw [hva] at this;cases this
      | true =>
       rw [hva] at hU;by_cases hin:nm'∈(kids.list.take q).map (·.1)
       ·rw [decide_eq_true hin] at hH;(refine lws ?_;simp only [go_sem,simprocAttr,c1,hga,decide_true]);(repeat' (first|((first|refine Jqm ?_|refine Jqb hIx ?_|refine Jqb hI0 ?_|refine Jqa hU ?_|refine Jqa hH ?_);simp only [go_sem,simprocAttr,Ebe,bne_self_eq_false,e4,e8])|fail))
        all_goals exact hno fun h=>h.2.2 o8 hin
       ·rw [decide_eq_false hin] at hH;have hy:Jtq k kids.list q (nm',.mk k' s' g' e' kids'):=⟨⟨hkd,fun h=>absurd o8 h,fun _=>hva⟩,fun h=>absurd h o4,fun _=>hin⟩
        (refine lws ?_;simp only [go_sem,simprocAttr,c1,hga,decide_true]);(repeat' (first|((first|refine Jqm ?_|refine Jqb hIx ?_|refine Jqb hI0 ?_|refine Jqa hU ?_|refine Jqa hH ?_|refine Jqa hNx ?_);simp only [go_sem,simprocAttr,w1,Ebe,bne_self_eq_false,e4,e8])|fail))
        all_goals exact ⟨q+1,⟨by omega,hyes hy⟩,by omega,Jqc⟩
     ·have e8:=eq_false o8;by_cases n0:nm'=[]
      ·have fn:=eq_true n0;have hy:Jtq k kids.list q (nm',.mk k' s' g' e' kids'):=⟨⟨hkd,fun _=>n0,fun h=>absurd h o8⟩,fun h=>absurd h o4,fun h=>absurd h o8⟩
       (refine lws ?_;simp only [go_sem,simprocAttr,c1,hga,decide_true]);(repeat' (first|((first|refine Jqm ?_|refine Jqb hIx ?_|refine Jqb hI0 ?_|refine Jqa hNx ?_);simp only [go_sem,simprocAttr,w1,Ebe,bne_self_eq_false,e4,e8,fn])|fail))
       all_goals exact ⟨q+1,⟨by omega,hyes hy⟩,by omega,Jqc⟩
      ·have fn:=eq_false n0;(refine lws ?_;simp only [go_sem,simprocAttr,c1,hga,decide_true]);(repeat' (first|((first|refine Jqm ?_|refine Jqb hIx ?_|refine Jqb hI0 ?_);simp only [go_sem,simprocAttr,Ebe,bne_self_eq_false,e4,e8,fn])|fail))
       all_goals exact hno fun h=>n0 (h.1.2.1 o8)
   ·rw [decide_eq_false hY] at hI0;by_cases o7:k=7
    ·have e7:=eq_true o7;have hkd:Jrm k' ↔ Jrm k\/k=7:=⟨fun _=>.inr o7,fun _=>hX⟩
     by_cases o4:k=4
     ·have e4:=eq_true o4;have e8:(k=8)=False:=eq_false omg;by_cases q0:q=0
      ·have f0:((q:Int)=0)=True:=eq_true omg;by_cases k4:k'=4
       ·have g4:=eq_true k4;(refine lws ?_;simp only [go_sem,simprocAttr,c1,hga,decide_true]);(repeat' (first|((first|refine Jqm ?_|refine Jqb hIx ?_|refine Jqb hI0 ?_);simp only [go_sem,simprocAttr,Eck,Ebe,e7,e4,f0,g4])|(exfalso;omega)))
        all_goals exact hno fun h=>h.2.1 o4 q0 k4
       ·have g4:=eq_false k4;by_cases n0:nm'=[]
        ·have fn:=eq_true n0;have hy:Jtq k kids.list q (nm',.mk k' s' g' e' kids'):=⟨⟨hkd,fun _=>n0,fun h=>absurd h omg⟩,fun _ _=>k4,fun h=>absurd h omg⟩
         (refine lws ?_;simp only [go_sem,simprocAttr,c1,hga,decide_true]);(repeat' (first|((first|refine Jqm ?_|refine Jqb hIx ?_|refine Jqb hI0 ?_|refine Jqa hNx ?_);simp only [go_sem,simprocAttr,w1,Eck,Ebe,e7,e4,e8,f0,g4,fn])|(exfalso;omega)))
         all_goals exact ⟨q+1,⟨by omega,hyes hy⟩,by omega,Jqc⟩
        ·have fn:=eq_false n0;(refine lws ?_;simp only [go_sem,simprocAttr,c1,hga,decide_true]);(repeat' (first|((first|refine Jqm ?_|refine Jqb hIx ?_|refine Jqb hI0 ?_);simp only [go_sem,simprocAttr,Eck,Ebe,e7,e4,e8,f0,g4,fn])|(exfalso;omega)))
         all_goals exact hno fun h=>n0 (h.1.2.1 omg)
      ·have f0:((q:Int)=0)=False:=eq_false omg;by_cases n0:nm'=[]
       ·have fn:=eq_true n0;have hy:Jtq k kids.list q (nm',.mk k' s' g' e' kids'):=⟨⟨hkd,fun _=>n0,fun h=>absurd h omg⟩,fun _ h=>absurd h q0,fun h=>absurd h omg⟩
        (refine lws ?_;simp only [go_sem,simprocAttr,c1,hga,decide_true]);(repeat' (first|((first|refine Jqm ?_|refine Jqb hIx ?_|refine Jqb hI0 ?_|refine Jqa hNx ?_);simp only [go_sem,simprocAttr,w1,Eck,Ebe,e7,e4,e8,f0,fn])|(exfalso;omega)))
        all_goals exact ⟨q+1,⟨by omega,hyes hy⟩,by omega,Jqc⟩
       ·have fn:=eq_false n0;(refine lws ?_;simp only [go_sem,simprocAttr,c1,hga,decide_true]);(repeat' (first|((first|refine Jqm ?_|refine Jqb hIx ?_|refine Jqb hI0 ?_);simp only [go_sem,simprocAttr,Eck,Ebe,e7,e4,e8,f0,fn])|(exfalso;omega)))
        all_goals exact hno fun h=>n0 (h.1.2.1 omg)
     ·have e4:=eq_false o4;by_cases o8:k=8
      ·have e8:=eq_true o8;cases hva:valid nm' with
       | false =>
        rw [hva] at hU;(refine lws ?_;simp only [go_sem,simprocAttr,c1,hga,decide_true]);(repeat' (first|((first|refine Jqm ?_|refine Jqb hIx ?_|refine Jqb hI0 ?_|refine Jqa hU ?_);simp only [go_sem,simprocAttr,Eck,Ebe,Ect,e7,e4,e8])|(exfalso;omega)))
        all_goals exact hno fun h=>by have:=h.1.2.2 o8;simp only at this;rw [hva] at this;cases this
       | true =>
        rw [hva] at hU;by_cases hin:nm'∈(kids.list.take q).map (·.1)
        ·rw [decide_eq_true hin] at hH;(refine lws ?_;simp only [go_sem,simprocAttr,c1,hga,decide_true]);(repeat' (first|((first|refine Jqm ?_|refine Jqb hIx ?_|refine Jqb hI0 ?_|refine Jqa hU ?_|refine Jqa hH ?_);simp only [go_sem,simprocAttr,Eck,Ebe,e7,e4,e8])|(exfalso;omega)))
         all_goals exact hno fun h=>h.2.2 o8 hin
        ·rw [decide_eq_false hin] at hH;have hy:Jtq k kids.list q (nm',.mk k' s' g' e' kids'):=⟨⟨hkd,fun h=>absurd o8 h,fun _=>hva⟩,fun h=>absurd h o4,fun _=>hin⟩
         (refine lws ?_;simp only [go_sem,simprocAttr,c1,hga,decide_true]);(repeat' (first|((first|refine Jqm ?_|refine Jqb hIx ?_|refine Jqb hI0 ?_|refine Jqa hU ?_|refine Jqa hH ?_|refine Jqa hNx ?_);simp only [go_sem,simprocAttr,w1,Eck,Ebe,e7,e4,e8])|(exfalso;omega)))
         all_goals exact ⟨q+1,⟨by omega,hyes hy⟩,by omega,Jqc⟩
      ·have e8:=eq_false o8;by_cases n0:nm'=[]
       ·have fn:=eq_true n0;have hy:Jtq k kids.list q (nm',.mk k' s' g' e' kids'):=⟨⟨hkd,fun _=>n0,fun h=>absurd h o8⟩,fun h=>absurd h o4,fun h=>absurd h o8⟩
        (refine lws ?_;simp only [go_sem,simprocAttr,c1,hga,decide_true]);(repeat' (first|((first|refine Jqm ?_|refine Jqb hIx ?_|refine Jqb hI0 ?_|refine Jqa hNx ?_);simp only [go_sem,simprocAttr,w1,Eck,Ebe,e7,e4,e8,fn])|fail))
        all_goals exact ⟨q+1,⟨by omega,hyes hy⟩,by omega,Jqc⟩
       ·have fn:=eq_false n0;(refine lws ?_;simp only [go_sem,simprocAttr,c1,hga,decide_true]);(repeat' (first|((first|refine Jqm ?_|refine Jqb hIx ?_|refine Jqb hI0 ?_);simp only [go_sem,simprocAttr,Eck,Ebe,e7,e4,e8,fn])|fail))
        all_goals exact hno fun h=>n0 (h.1.2.1 o8)
    ·have e7:=eq_false o7;(refine lws ?_;simp only [go_sem,simprocAttr,c1,hga,decide_true]);(repeat' (first|((first|refine Jqm ?_|refine Jqb hIx ?_|refine Jqb hI0 ?_);simp only [go_sem,simprocAttr,Eck,Ebe,e7])|fail))
     all_goals exact hno fun h=>(h.1.1.1 hX).elim hY o7
  ·rw [decide_eq_false hX] at hIx;by_cases hY:Jrm k
   ·rw [decide_eq_true hY] at hI0;(refine lws ?_;simp only [go_sem,simprocAttr,c1,hga,decide_true]);(repeat' (first|((first|refine Jqm ?_|refine Jqb hIx ?_|refine Jqb hI0 ?_);simp only [go_sem,simprocAttr,Bool.bne_true,Ect])|fail))
    all_goals exact hno fun h=>hX (h.1.1.2 (.inl hY))
   ·rw [decide_eq_false hY] at hI0;by_cases o7:k=7
    ·have e7:=eq_true o7;(refine lws ?_;simp only [go_sem,simprocAttr,c1,hga,decide_true]);(repeat' (first|((first|refine Jqm ?_|refine Jqb hIx ?_|refine Jqb hI0 ?_);simp only [go_sem,simprocAttr,Ecf,e7])|fail))
     all_goals exact hno fun h=>hX (h.1.1.2 (.inr o7))
    ·have e7:=eq_false o7;have hkd:Jrm k' ↔ Jrm k\/k=7:=⟨fun h=>absurd h hX,fun h=>(h.elim hY o7).elim⟩
     by_cases o4:k=4
     ·have e4:=eq_true o4;have e8:(k=8)=False:=eq_false omg;by_cases q0:q=0
      ·have f0:((q:Int)=0)=True:=eq_true omg;by_cases k4:k'=4
       ·have g4:=eq_true k4;(refine lws ?_;simp only [go_sem,simprocAttr,c1,hga,decide_true]);(repeat' (first|((first|refine Jqm ?_|refine Jqb hIx ?_|refine Jqb hI0 ?_);simp only [go_sem,simprocAttr,Ecf,e7,e4,f0,g4])|fail))
        all_goals exact hno fun h=>h.2.1 o4 q0 k4
       ·have g4:=eq_false k4;by_cases n0:nm'=[]
        ·have fn:=eq_true n0;have hy:Jtq k kids.list q (nm',.mk k' s' g' e' kids'):=⟨⟨hkd,fun _=>n0,fun h=>absurd h omg⟩,fun _ _=>k4,fun h=>absurd h omg⟩
         (refine lws ?_;simp only [go_sem,simprocAttr,c1,hga,decide_true]);(repeat' (first|((first|refine Jqm ?_|refine Jqb hIx ?_|refine Jqb hI0 ?_|refine Jqa hNx ?_);simp only [go_sem,simprocAttr,w1,Ecf,Ebe,e7,e4,e8,f0,g4,fn])|fail))
         all_goals exact ⟨q+1,⟨by omega,hyes hy⟩,by omega,Jqc⟩
        ·have fn:=eq_false n0;(refine lws ?_;simp only [go_sem,simprocAttr,c1,hga,decide_true]);(repeat' (first|((first|refine Jqm ?_|refine Jqb hIx ?_|refine Jqb hI0 ?_);simp only [go_sem,simprocAttr,Ecf,Ebe,e7,e4,e8,f0,g4,fn])|fail))
         all_goals exact hno fun h=>n0 (h.1.2.1 omg)
      ·have f0:((q:Int)=0)=False:=eq_false omg;by_cases n0:nm'=[]
       ·have fn:=eq_true n0;have hy:Jtq k kids.list q (nm',.mk k' s' g' e' kids'):=⟨⟨hkd,fun _=>n0,fun h=>absurd h omg⟩,fun _ h=>absurd h q0,fun h=>absurd h omg⟩
        (refine lws ?_;simp only [go_sem,simprocAttr,c1,hga,decide_true]);(repeat' (first|((first|refine Jqm ?_|refine Jqb hIx ?_|refine Jqb hI0 ?_|refine Jqa hNx ?_);simp only [go_sem,simprocAttr,w1,Ecf,Ebe,e7,e4,e8,f0,fn])|fail))
        all_goals exact ⟨q+1,⟨by omega,hyes hy⟩,by omega,Jqc⟩
       ·have fn:=eq_false n0;(refine lws ?_;simp only [go_sem,simprocAttr,c1,hga,decide_true]);(repeat' (first|((first|refine Jqm ?_|refine Jqb hIx ?_|refine Jqb hI0 ?_);simp only [go_sem,simprocAttr,Ecf,Ebe,e7,e4,e8,f0,fn])|fail))
        all_goals exact hno fun h=>n0 (h.1.2.1 omg)
     ·have e4:=eq_false o4;by_cases o8:k=8
      ·have e8:=eq_true o8;cases hva:valid nm' with
       | false =>
        rw [hva] at hU;(refine lws ?_;simp only [go_sem,simprocAttr,c1,hga,decide_true]);(repeat' (first|((first|refine Jqm ?_|refine Jqb hIx ?_|refine Jqb hI0 ?_|refine Jqa hU ?_);simp only [go_sem,simprocAttr,Ecf,Ect,e7,e4,e8])|fail))
        all_goals exact hno fun h=>by have:=h.1.2.2 o8;simp only at this;rw [hva] at this;cases this
       | true =>
        rw [hva] at hU;by_cases hin:nm'∈(kids.list.take q).map (·.1)
        ·rw [decide_eq_true hin] at hH;(refine lws ?_;simp only [go_sem,simprocAttr,c1,hga,decide_true]);(repeat' (first|((first|refine Jqm ?_|refine Jqb hIx ?_|refine Jqb hI0 ?_|refine Jqa hU ?_|refine Jqa hH ?_);simp only [go_sem,simprocAttr,Ecf,Ebe,e7,e4,e8])|fail))
         all_goals exact hno fun h=>h.2.2 o8 hin
        ·rw [decide_eq_false hin] at hH;have hy:Jtq k kids.list q (nm',.mk k' s' g' e' kids'):=⟨⟨hkd,fun h=>absurd o8 h,fun _=>hva⟩,fun h=>absurd h o4,fun _=>hin⟩
         (refine lws ?_;simp only [go_sem,simprocAttr,c1,hga,decide_true]);(repeat' (first|((first|refine Jqm ?_|refine Jqb hIx ?_|refine Jqb hI0 ?_|refine Jqa hU ?_|refine Jqa hH ?_|refine Jqa hNx ?_);simp only [go_sem,simprocAttr,w1,Ecf,Ebe,e7,e4,e8])|fail))
         all_goals exact ⟨q+1,⟨by omega,hyes hy⟩,by omega,Jqc⟩
      ·have e8:=eq_false o8;by_cases n0:nm'=[]
       ·have fn:=eq_true n0;have hy:Jtq k kids.list q (nm',.mk k' s' g' e' kids'):=⟨⟨hkd,fun _=>n0,fun h=>absurd h o8⟩,fun h=>absurd h o4,fun h=>absurd h o8⟩
        (refine lws ?_;simp only [go_sem,simprocAttr,c1,hga,decide_true]);(repeat' (first|((first|refine Jqm ?_|refine Jqb hIx ?_|refine Jqb hI0 ?_|refine Jqa hNx ?_);simp only [go_sem,simprocAttr,w1,Ecf,Ebe,e7,e4,e8,fn])|fail))
        all_goals exact ⟨q+1,⟨by omega,hyes hy⟩,by omega,Jqc⟩
       ·have fn:=eq_false n0;(refine lws ?_;simp only [go_sem,simprocAttr,c1,hga,decide_true]);(repeat' (first|((first|refine Jqm ?_|refine Jqb hIx ?_|refine Jqb hI0 ?_);simp only [go_sem,simprocAttr,Ecf,Ebe,e7,e4,e8,fn])|fail))
        all_goals exact hno fun h=>n0 (h.1.2.1 o8)
 ·obtain rfl:q=kids.len:=by omega
  have c1:((kids.len:Int)<(kids.len:Int))=False:=eq_false omg;have hK:Jsy k kids.list:=J5h.2 fun r p hp=>h2 r p (by rw [<- hkl];exact (Eab.1 hp).1) hp
  (refine lws ?_;simp only [go_sem,simprocAttr,c1]);exact J8f hK
theorem Kcc (v:List YRow) (hv:v.length<=10000) (hf:∀ n∈v,RowFit n):Det cx 80 [.p (.sl (rowL v))] [] (.p (.bool (Juz v))) []:=by
 cases v with
 | nil =>
  have hb:false=Juz []:=Jva (by
   rintro ⟨t,_,h⟩;have:=congrArg List.length h;have h1:=Jsi t [];simp at this;omega)
  have c0:(((rowL []).length:Int)=0)=True:=eq_true rfl;rw [<- hb];(refine bgo Tryz.func80 ?_;simp only [go_sem,simprocAttr,c0])
  skip
 | cons n r =>
  have hg0:=Jzc (v:=n :: r) (i:=0) (n:=n) rfl;have c0:(((n :: r).length:Int)=0)=False:=eq_false (by simp;omega);have hN:=J97 (n :: r) hv;generalize hvv:n :: r=v at *
  by_cases hnm:n.name=[]
  ·have c2:=eq_true hnm;by_cases hnx:Jtm v 0 1=v.length
   ·obtain ⟨nm,t,ht⟩:=J9g hnx;have htk:nm=[]:=by
     cases t with
     | mk k s g e kids =>
      rw [Jqs,<- hvv] at ht;have:=(List.cons.inj ht).1;rw [this] at hnm;exact hnm
    subst htk;have c3:(Jtm v 0 1=(v.length:Int))=True:=eq_true hnx;(refine bgo Tryz.func80 ?_;simp only [go_sem,simprocAttr,Jq0,hg0,c0,c2,not_true_eq_false]);(repeat' (first|((refine Jqa hN ?_);simp only [go_sem,simprocAttr,Jq0,c3,not_true_eq_false])|fail));have hB:∀ b:Bool,(b=true ↔ okQ t)->b=Juz v:=by
     intro b hb;rw [Ea0,hb,Ju6,ht,J9l]
    refine SWP.loop (fun x:Nat×RF=>⟨Ba 39 [(0,.p (.sl (rowL v))),(3,.p (.int .i64 x.1))],[]⟩) (fun x=>v.drop x.1=x.2.enc/\x.1+x.2.enc.length=v.length/\(okQ t ↔ okQF x.2)) (fun x=>v.length - x.1) (0,.cons [] t .nil) Jqc ⟨by rw [Jqv,Jsd,Eaz,Ebi,ht],by rw [Jqv,Jsd,Eaz,ht];simp,by rw [Jvi];exact ⟨fun h=>⟨h,Jvm⟩,fun h=>h.1⟩⟩ ?_;rintro ⟨i,F⟩ ⟨h1,h2,h3⟩;simp only at h1 h2 h3
    match F,h1,h2,h3 with
    | .nil,h1,h2,h3 =>
     rw [Jsd] at h2;have c4:((i:Int)<(v.length:Int))=False:=eq_false (by simp at h2;omega);(refine lws ?_;simp only [go_sem,simprocAttr,Jq0,decide_false,c4]);exact hB true (by rw [h3];simp [Jvm])
    | .cons nm' (.mk k s g e kids) r,h1,h2,h3 =>
     rw [Jqv,Jqs] at h1 h2;simp only [Eac,List.length_cons] at h2;have c4:((i:Int)<(v.length:Int))=True:=eq_true omg;have hga:=Js5 h1;rw [Jr5] at hga;have w1:=wj1 (i:=i) omg;rw [Kcy] at h3;have hmem:(⟨k,kids.len,nm',s,g,e⟩:YRow)∈v:=by
      have:(⟨k,kids.len,nm',s,g,e⟩:YRow)∈v.drop i:=by rw [h1];simp
      exact Ea7 this
     have hfn:=hf _ hmem;have hpl:=Kdh k kids.len nm' s g e hfn.s hfn.c;have hri:=Kc9 v i nm' k s g e kids r.enc omg (by rw [h1,Jqs]) fun n hn=>(hf n hn).name
     by_cases hn1:Jqq k s g e kids.len
     ·rw [decide_eq_true hn1] at hpl;by_cases hk1:Jsy k kids.list
      ·rw [<- J8f hk1] at hri;(refine lws ?_;simp only [go_sem,simprocAttr,Jq0,decide_true,c4,hga,decide_true]);(repeat' (first|((first|refine Jqa hpl ?_|refine Jqa hri ?_);simp only [go_sem,simprocAttr,w1,Ebe])|fail));refine ⟨(i+1,kids.app r),⟨?_,?_,h3.trans ⟨fun h=>h.2.2,fun h=>⟨hn1,hk1,h⟩⟩⟩,?_,Jqc⟩
       ·simp only;rw [<- Ebg,h1,Jq6];rfl
       ·simp only;rw [Jq6,Eac];omega
       ·simp only;omega
      ·rw [<- J67 hk1] at hri;(refine lws ?_;simp only [go_sem,simprocAttr,Jq0,decide_true,c4,hga,decide_true]);(repeat' (first|((first|refine Jqa hpl ?_|refine Jqa hri ?_);simp only [go_sem,simprocAttr,Ebe,Ect])|fail));exact hB false (by rw [h3];simp [hk1])
     ·rw [decide_eq_false hn1] at hpl;(refine lws ?_;simp only [go_sem,simprocAttr,Jq0,decide_true,c4,hga,decide_true]);(repeat' (first|((refine Jqa hpl ?_);simp only [go_sem,simprocAttr,Ect])|fail));exact hB false (by rw [h3];simp [hn1])
   ·have c3:(Jtm v 0 1=(v.length:Int))=False:=eq_false hnx;have hb:=Jva (v:=v) (fun h=>hnx (J8s h));rw [<- hb];(refine bgo Tryz.func80 ?_;simp only [go_sem,simprocAttr,Jq0,hg0,c0,c2,not_true_eq_false]);(repeat' (first|((refine Jqa hN ?_);simp only [go_sem,simprocAttr,Jq0,c3,not_false_eq_true])|fail))
  ·have c2:=eq_false hnm;have hb:=Jva (v:=v) (by
    rintro ⟨t,_,h⟩;cases t with
    | mk k s g e kids =>
     rw [Jqs,<- hvv] at h;have:=(List.cons.inj h).1;rw [this] at hnm;exact hnm rfl)
   rw [<- hb];(refine bgo Tryz.func80 ?_;simp only [go_sem,simprocAttr,Jq0,hg0,c0,c2,not_false_eq_true])
   skip
theorem Kbs (v:List YRow) (hv:v.length<=10000) (hf:∀ n∈v,RowFit n):Det cx 28 [.p (.sl (rowL v))] [] (.p (.bool (Jtz v))) []:=by
 have hW:=Kcc v hv hf;cases hb:Juz v with
 | false =>
  have:false=Jtz v:=Jxy fun ⟨t,h1,_,h3⟩=>by
   rw [Ju6.2 ⟨t,h1,h3⟩] at hb;cases hb
  rw [hb] at hW;rw [<- this];(refine bgo Tryz.func28 ?_;simp only [go_sem,simprocAttr]);(repeat' (first|((refine Jqa hW ?_);simp only [go_sem,simprocAttr])|fail))
 | true =>
  obtain ⟨⟨k,s,n,c,kids⟩,ht,rfl⟩:=Ju6.1 hb;rw [hb] at hW;have hI:=J90 k kids.len [] s n c;have hg0:(rowL ((RT.mk k s n c kids).enc []))[0]? = some [.int .i64 k,.int .i64 kids.len,.str [],.str s,.int .i64 n,.int .i64 c.kind,.int .i64 c.many,.str c.name,.str c.s,.bool c.neg,.int .i64 c.e]:=by rw [Jqs];rfl
  by_cases hc:Jrm k
  ·have:false=Jtz ((RT.mk k s n c kids).enc []):=Jxy fun h=>(J3e.1 h).2 hc
   rw [decide_eq_true hc] at hI;rw [<- this];generalize rowL ((RT.mk k s n c kids).enc [])=rows at *
   (refine bgo Tryz.func28 ?_;simp only [go_sem,simprocAttr]);(repeat' (first|((first|refine Jqa hW ?_|refine Jqa hI ?_);simp only [go_sem,simprocAttr,hg0,Ebe])|fail))
  ·have:Jtz ((RT.mk k s n c kids).enc [])=true:=Jwr.2 (J3e.2 ⟨ht,hc⟩);rw [decide_eq_false hc] at hI;rw [this];generalize rowL ((RT.mk k s n c kids).enc [])=rows at *
   (refine bgo Tryz.func28 ?_;simp only [go_sem,simprocAttr]);(repeat' (first|((first|refine Jqa hW ?_|refine Jqa hI ?_);simp only [go_sem,simprocAttr,hg0,Ect])|fail))
def GT (v:Tree):Prop:=okT v/\FitT v
theorem Jt9 {k:Int} {s:List UInt8} {g:Bool} {e:Int} {kids:Forest} (h:GT (.mk k s g e kids)) {p:KT} (hp:p∈kids.list):valid p.1=true/\p.1.length<=1000000/\GT p.2 :=
 ⟨(Lu.1 h.1).2.1.2.1 p hp,(Mg h.2 hp).1,Jvb h.1 hp,(Mg h.2 hp).2⟩
theorem Jtw {v:Tree} (h:GT v):∀ x∈Jqe v,GT x:=by
 obtain ⟨k,s,g,e,kids⟩:=v;intro x hx;obtain ⟨p,hp,rfl⟩:=Eap.1 hx;exact (Jt9 h hp).2.2
theorem J4s:∀ l:List Tree,(∀ x∈l,GT x)->∀ n∈(A1 (unT l)).enc,NodeFit n
 | [],_,n,hn=>by rw [show A1 (unT [])=.nil from rfl,Bl] at hn;cases hn
 | t :: l,hl,n,hn=>by
  rw [show A1 (unT (t :: l))=.cons [] t (A1 (unT l)) from rfl,A0] at hn;rcases Eau.1 hn with hn | hn
  ·exact (hl t Eaf).2 n hn
  ·exact J4s l (fun x hx=>hl x (Eag _ hx)) n hn
theorem J21 (k m:Int):NodeFit ⟨k,m,[],[],false,0⟩:=⟨Eav _,Eav _,(by decide:(-9223372036854775808:Int)<=0),(by decide:(0:Int)<=9223372036854775807)⟩
theorem Jti {l:List Tree} (h:∀ x∈l,GT x):GT (listT l):=by
 refine ⟨Kgc fun x hx=>(h x hx).1,fun n hn=>?_⟩;unfold listT at hn;rw [A6] at hn;rcases Eaj.1 hn with rfl | hn
 ·exact J21 _ _
 ·exact J4s l h n hn
theorem J49 {l:List KT} (hr:Rise l) (h:∀ p∈l,valid p.1=true/\p.1.length<=1000000/\GT p.2):GT (nd 6 l):=by
 refine ⟨Jdh.2 ⟨by simp [G3],⟨fun h=>by omega,fun p hp=>(h p hp).1,fun _=>hr⟩,fun p hp=>(h p hp).2.2.1⟩,fun n hn=>?_⟩;unfold nd at hn;rw [A6] at hn;rcases Eaj.1 hn with rfl | hn
 ·exact J21 _ _
 ·exact J3m l (fun p hp=>⟨(h p hp).2.2.2,(h p hp).2.1⟩) n hn
theorem Jwp:GT nilT:=⟨J6r,fun n hn=>by
 unfold nilT at hn;rw [A6,Bl] at hn;simp only [Eaj,Ebc,or_false] at hn;subst hn;exact J21 _ _⟩
theorem J6k {x:Step} {t u:Tree} (ht:GT t) (h:Jrc x t=.ok u):GT u:=by
 have hk:∀ p∈t.kids.list,GT p.2:=by
  obtain ⟨k,s,g,e,kids⟩:=t;exact fun p hp=>(Jt9 ht hp).2.2
 unfold Jrc at h;split at h
 ·cases h;exact Jwp
 ·split at h
  ·split at h
   ·cases h;cases hq:t.kids.list[x.n.toNat]? with
    | none=>exact Jwp
    | some p=>exact hk p (Eae hq)
   ·cases h
  ·split at h
   ·cases h;cases hq:Ch x.name t.kids.list with
    | none=>exact Jwp
    | some w =>
     obtain ⟨p,hp,rfl,_⟩:=H2 hq;exact hk p hp
   ·cases h
def preB (us:List Tree):Except Nat (List Tree)->Except Nat (List Tree)
 | .ok l=>.ok (us ++ l)
 | .error e=>.error e
def resB:Except Nat Bool->Bool
 | .ok b=>b
 | .error _=>false
def resC:Except Nat Bool->Int
 | .ok _=>0
 | .error e=>e
theorem Kbg {c:Node} (h:Js2 c):valL ((ndT c).enc [])=[[.int .i64 c.kind,.int .i64 c.many,.str c.name,.str c.s,.bool c.neg,.int .i64 c.e]]:=by
 obtain ⟨h1,h2,h3⟩:=h;have h4:c.many=0:=by
  unfold G3 at h3;split at h3
  ·exact h3.1
  ·split at h3
   ·exact h3.1
   ·split at h3
    ·exact h3.2.1
    ·split at h3
     ·omega
     ·exact h3.elim
 unfold ndT;rw [A6,Bl,h2,h4];rfl
theorem Kbb (c:Node):((ndT c).enc []).length=1:=by unfold ndT;rw [A6,Bl];rfl
theorem Ye {n:Node}:∀ {l:List KT},n∈(A1 l).enc->∃ p∈l,n∈p.2.enc p.1
 | [],h=>by simp [A1,Bl] at h
 | p :: l,h=>by
  rw [A1,A0,Eau] at h;rcases h with h | h
  ·exact ⟨p,Eaf,h⟩
  ·obtain ⟨q,h1,h2⟩:=Ye h;exact ⟨q,Eag _ h1,h2⟩
theorem Jli {k:Int} {l:List KT} (h:∀ p∈l,p.1.length<=1000000/\FitT p.2):FitT (nd k l):=by
 intro n hn;unfold nd at hn;rw [A6] at hn;rcases Eaj.1 hn with rfl | hn
 ·exact ⟨by simp,by simp,by simp only;omega,by simp only;omega⟩
 ·obtain ⟨p,h1,h2⟩:=Ye hn;exact Y3 (h p h1).2 (h p h1).1 n h2
theorem Jnz {t w y:Tree} {x:Step} (hf:FitT t) (hw:Way t x w) (hy:FitT y):FitT (putT t x y):=by
 cases hw with
 | list l h hp hn hi =>
  subst h;rw [Cr hp hn];refine Jli fun p hp'=>?_
  rcases Eby hp' with hp' | rfl
  ·have:=Mg (k:=5) (s:=[]) (g:=false) (e:=0) (kids:=A1 l) hf (p:=p) (by rw [Ea];exact hp');exact this
  ·exact ⟨by simp,hy⟩
 | obj l h hp hr hi =>
  subst h;rw [C7 hp hr hi];refine Jli fun p hp'=>?_
  obtain ⟨q,hq,rfl⟩:=Eap.1 hp';have:=Mg (k:=6) (s:=[]) (g:=false) (e:=0) (kids:=A1 l) hf (p:=q) (by rw [Ea];exact hq);split
  ·rename_i he;exact ⟨by simp only;rw [<- he];exact this.1,hy⟩
  ·exact this
theorem Jdv:∀ {p:List Step} {t u y:Tree},okT t->okT u->FitT t->FitT u->setT p t u=.ok y->FitT y
 | [],t,u,y,_,_,_,hu,h=>by cases h;exact hu
 | x :: p,t,u,y,ht,hu,ft,fu,h=>by
  rw [setT] at h;cases hi:inT t x with
  | error e=>rw [hi] at h;cases h
  | ok w =>
   rw [hi] at h;simp only at h;have hw:=Jv ht hi;cases hz:setT p w u with
   | error e=>rw [hz] at h;cases h
   | ok z =>
    rw [hz] at h;simp only at h;cases h;exact Jnz ft hw (Jdv (Ig ht hw) hu (Ji9 ft hi) fu hz)
theorem Jz6 (n:Nat) (l:List Tree):Jqn (l.drop n)<=Jqn l:=by
 conv=>rhs;rw [<- Ebl n l,Jtk]
 omega
theorem Jx7 (n:Nat) (l:List Tree):Jqn (l.eraseIdx n)<=Jqn l:=by
 rw [List.eraseIdx_eq_take_drop_succ,Jtk]
 conv=>rhs;rw [<- Ebl n l,Jtk]
 have:=Jz6 1 (l.drop n);rw [Ebg] at this;omega
theorem Jy1:∀ {p:List Step} {t:Tree} {e:Nat},delT p t=.error e->e=5
 | [],t,e,h=>by rw [delT] at h;cases h
 | x :: p,t,e,h=>by
  rw [delT] at h;split at h
  ·cases h
  ·cases hi:inT t x with
   | error er =>
    rw [hi] at h;simp only at h;split at h
    ·cases h
    ·cases h;rfl
   | ok u =>
    rw [hi] at h;simp only at h;split at h
    ·cases h
    ·cases hd:delT p u with
     | error er=>rw [hd] at h;cases h;exact Jy1 hd
     | ok w=>rw [hd] at h;simp only [setT,hi] at h;cases h
theorem Khg {t u:Tree} {x:Step} (ht:GT t) (h:inT t x=.ok u):GT (J01 t x)/\((J01 t x).enc []).length<=(t.enc []).length:=by
 have hk:=Jtw ht;have hsz:=Jq1 t;obtain ⟨k,s,g,e,kids⟩:=t;cases hp:x.part with
 | true =>
  have e1:J01 (.mk k s g e kids) x=listT ((Jqe (.mk k s g e kids)).eraseIdx x.n.toNat):=if_pos hp;rw [e1];refine ⟨Jti fun y hy=>hk y ((List.eraseIdx_sublist _ _).subset hy),?_⟩;rw [Jsb];have:=Jx7 x.n.toNat (Jqe (.mk k s g e kids));omega
 | false =>
  have e1:J01 (.mk k s g e kids) x=nd k (A8 x.name kids.list):=if_neg (by rw [hp];decide);rw [e1];by_cases k6:k=6
  ·subst k6;refine ⟨J49 (Rise.kept ((Lu.1 ht.1).2.1.2.2 rfl) _) fun p hp=>Jt9 ht (Jto hp).1,?_⟩;unfold nd;rw [A6,A6,List.length_cons,List.length_cons];have:=El x.name kids;omega
  ·rw [Iw hp k6] at h;cases h
theorem J30:∀ {p:List Step} {t w:Tree},GT t->delT p t=.ok w->GT w/\(w.enc []).length<=(t.enc []).length
 | [],t,w,ht,h=>by
  rw [delT] at h;cases h;refine ⟨Jwp,?_⟩;rw [Jt1];exact Et t []
 | x :: p,t,w,ht,h=>by
  rw [delT] at h;split at h
  ·cases h;exact ⟨ht,Eai _⟩
  ·cases hi:inT t x with
   | error er =>
    rw [hi] at h;simp only at h;split at h
    ·cases h;exact ⟨ht,Eai _⟩
    ·cases h
   | ok u =>
    rw [hi] at h;simp only at h;split at h
    ·cases h;exact Khg ht hi
    ·cases hd:delT p u with
     | error er=>rw [hd] at h;cases h
     | ok w' =>
      rw [hd] at h;simp only at h;have hu:GT u:=⟨Ig ht.1 (Jv ht.1 hi),Ji9 ht.2 hi⟩
      obtain ⟨h1,h2⟩:=J30 hu hd;have hs:=h;obtain ⟨w2,a1,a2,a3,a4,a5,a6⟩:=Kg ht.1 h1.1 h;have:w2=u:=by simp only [getT,hi] at a1;cases a1;rfl
      subst this;exact ⟨⟨a4,Jdv ht.1 h1.1 ht.2 h1.2 hs⟩,by omega⟩
end Go.LX
