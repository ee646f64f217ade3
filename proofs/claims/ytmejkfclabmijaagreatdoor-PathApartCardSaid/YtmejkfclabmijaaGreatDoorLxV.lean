/- Rows into which something is laid in the middle. -/
import Derived.Test.YtmejkfclabmijaaGreatDoorLxU
import Derived.Test.YtmejkfclabmijaaGreatDoorLxO
import Derived.Test.YtmejkfclabmijaaGreatDoorLxM
import Derived.Test.YtmejkfclabmijaaGreatDoorLxP
import Derived.Test.YtmejkfclabmijaaGreatDoorLxQ
set_option linter.unusedSimpArgs false
set_option linter.unusedVariables false
set_option linter.unusedSectionVars false
set_option linter.unnecessarySimpa false
set_option maxRecDepth 100000
set_option maxHeartbeats 2000000
namespace Go.LX
open Go Go.RowKit Go.Proofs
attribute [local irreducible] Al SWP Bi
theorem Jbo {rs:Regs} {d1 o1 n1 d2 o2 n2:Nat} {T1 T2:TypeId} {es1:List (List PV)} {f2:Bool} {es2:List (List L)} (h1:Am d1 rs=some (.row T1 1 es1)) (h2:Am d2 rs=some (.lrow T2 1 f2 es2)) (hne:d1≠d2) (hp1:0<es1.length) (hp2:0<es2.length) :
  Ad cx 193 [.own d1 o1 n1,.own d2 o2 n2] rs (.p (.bool false)) :=
 W9 (X:=cx) Tryz.func193 (by kernel_rfl) (by kernel_rfl) (by kernel_rfl) (tS:=67) (tR:=4) (e:=9) (by kernel_rfl) f_s67 h1 h2 hne hp1 hp2
theorem Yh (es:List (List PV)) (n i:Nat) (x:List UInt8) (h:es.length=n) (hi:i<n) (hn:n≤1000000) (h1:∀ q∈es,q.length=1):Det cx 127 [.own 1000 0 n,.p (.int .i64 i),.own 1001 0 1] [(1001,.row 9 1 [[.str x]]),(1000,.row 9 1 es)] (.own 900 0 (n+1)) [(900,.row 9 1 (es.take i ++ [[.str x]] ++ es.drop i)),(1001,.row 9 1 [[.str x]])]:=by
 refine Al.trunc (n+1) ?_
 refine Al.sub (Post:=fun m q=>m=.own 900 0 (n+1)∧((∃ r,q=[(900,.row 9 1 (es.take i ++ [[.str x]] ++ es.drop i)),(1001,.row 9 1 [[.str x]]),(1000,r)])∨∃ b ls,q=[(900,.lrow 9 1 b ls),(1001,.row 9 1 [[.str x]])]∧Cb (ls.take (n+1))=some (es.take i ++ [[.str x]] ++ es.drop i))) ?_ (by
  rintro m q ⟨rfl,⟨r,rfl⟩ | ⟨b,ls,rfl,hp⟩⟩
  ·exact ⟨_,((List.nil_sublist _).cons_cons _).cons_cons _,rfl,.inl rfl⟩
  ·exact ⟨_,List.Sublist.refl _,rfl,.inr ⟨b,ls,rfl,hp⟩⟩)
 refine Al.of_code (X:=cx) true [(40,900)] (by simp) Tryz.func127 (by kernel_rfl) rfl (by simp only [List.length_cons,List.length_nil,Tryz.ntmps127];decide) (by simp) ?_
 refine SWP.spare (d:=1000) (T:=9) (es:=es) rfl (by omega) fun k=>?_
 generalize hls:es.map (List.map L.p) ++ List.replicate k [L.junk]=ls
 have hll:ls.length=n+k:=by rw [← hls];simp [h]
 have c1:((i:Int)=(n:Int))=False:=eq_false (by omega)
 have hp0:(0<ls.length)=True:=eq_true (by omega)
 have hr1:Cb (ls.take i)=some (es.take i):=by rw [← hls];exact Gd (by omega)
 have w1:IntKind.i64.wrap ((n:Int)+((1:Nat):Int))=((n+1:Nat):Int):=by rw [Aa (by omega) (by omega)];omega
 have w3:IntKind.i64.wrap ((i:Int)+((1:Nat):Int))=((i+1:Nat):Int):=by rw [Aa (by omega) (by omega)];omega
 have c4:(((1:Nat):Int)=0)=False:=by simp
 have c7:((1:Nat)=0)=False:=by simp
 have c6:(n - i=0)=False:=eq_false (by omega)
 have e2:List.take (n+1 - i) [[PV.str x]]=[[PV.str x]]:=List.take_of_length_le (by simp;omega)
 have e3:n+1 - (i+1)=n - i:=by omega
 have e5:(es.drop i).length=n - i:=by simp [h]
 have hr2:Cb ((ls.drop i).take (n - i))=some (es.drop i):=by rw [← hls,Me (by omega),List.take_of_length_le (by simp;omega)]
 by_cases hk:k=0
 ·subst hk
  have c2:((ls.length:Int)<((n+1:Nat):Int))=True:=eq_true (by omega)
  have c3:((n:Int)<((n+1:Nat):Int))=True:=eq_true (by omega)
  have w2:IntKind.i64.wrap (((n+1:Nat):Int) - (i:Int))=((n+1 - i:Nat):Int):=by rw [Aa (by omega) (by omega)];omega
  simp only [Nat.add_zero] at hll
  have e1:i+(n+1 - i)=n+1:=by omega
  have hT:(es.take i ++ List.replicate (n+1 - i) [PV.str []]).take i=es.take i:=by rw [List.take_append_of_le_length (by simp;omega),List.take_take,Nat.min_self]
  have hD:(es.take i ++ List.replicate (n+1 - i) [PV.str []]).drop (i+1)=List.replicate (n - i) [PV.str []]:=by
   rw [List.drop_append,List.drop_eq_nil_of_le (by simp;omega),List.nil_append,List.drop_replicate];congr 1;simp;omega
  have hF:List.map (fun e=>List.map (L.forget 40) e) ls=ls:=by rw [← hls];exact Kj (fun _=>rfl) rfl _ _
  have c5:(i+(n - i)≤n)=True:=eq_true (by omega)
  have e4:min (n - i) (n - i)=n - i:=Nat.min_self _
  have hB:(es.take i ++ [[PV.str x]] ++ List.replicate (n - i) [PV.str []]).take (i+1) ++ es.drop i ++ (es.take i ++ [[PV.str x]] ++ List.replicate (n - i) [PV.str []]).drop (i+1+(n - i))=es.take i ++ [[PV.str x]] ++ es.drop i:=by
   have l1:(es.take i ++ [[PV.str x]]).length=i+1:=by simp;omega
   rw [List.take_append_of_le_length (by omega),List.take_of_length_le (l:=es.take i ++ [[PV.str x]]) (by omega),List.drop_eq_nil_of_le (show (es.take i ++ [[PV.str x]] ++ List.replicate (n - i) [PV.str []]).length≤i+1+(n - i) by simp;omega),List.append_nil]
  have hC:=hB
  skip
  simp only [Tryz.ntmps127,Tryz.results127,go_sem,Nat.reduceLT,Nat.reduceLeDiff,Nat.reduceEqDiff,Nat.reduceAdd,Nat.reduceSub,Nat.reduceMul,Nat.reduceBEq,Int.reduceToNat,Int.reduceLT,Int.reduceLE,Int.reduceEq,Int.reduceAdd,Int.reduceSub,Int.reduceNeg,↓reduceIte,reduceCtorEq,K9,Hf,Kc,Hi,hll,c1,c2,c3,c4,c5,c6,c7,w1,w2,w3,hr1,hr2,hp0,if_true,if_false,Nat.sub_zero,List.length_replicate,e1,e2,e3,e4,e5,hT,hD,hF,hB,hC]
  (refine Ae hm _ _ _ ?_;simp only [go_sem,Nat.reduceLT,Nat.reduceLeDiff,Nat.reduceEqDiff,↓reduceIte,reduceCtorEq,K9,Hf,Kc,Hi,hll,c1,c3,c4,c7,w1,w2,hr1,Nat.sub_zero,List.length_replicate,e1,e2,hT,hD,hF])
  (repeat' (first | (refine And.intro (by first | omega | (simp;done)|(simp;omega)|(intro q hq;exact h1 q (List.mem_of_mem_drop hq))|(intro q hq;exact h1 q hq)|(intro q hq;simp at hq;subst hq;rfl)) ?_)))
  (refine Gi 8 hm (by kernel_rfl) (by kernel_rfl) ?_;simp only [go_sem,Nat.reduceLT,Nat.reduceEqDiff,Nat.reduceAdd,↓reduceIte,reduceCtorEq,hll,c5,c6,w3,hr2,e3,e4,e5,hB])
  (repeat' (first | (refine And.intro (by first | omega | (simp;done)|(simp;omega)|(intro q hq;exact h1 q (List.mem_of_mem_drop hq))|(intro q hq;exact h1 q hq)|(intro q hq;simp at hq;subst hq;rfl)) ?_)))
  exact .inl ⟨_,rfl⟩
 ·have c2:((ls.length:Int)<((n+1:Nat):Int))=False:=eq_false (by omega)
  have c3:(((n+k:Nat):Int)<((n+1:Nat):Int))=False:=eq_false (by omega)
  have w2:=c4
  have e1:=c4
  have hT:=c4
  have hD:=c4
  have hF:List.map (fun e=>List.map (L.map (Fb 1000 40)) e) ls=ls:=by rw [← hls];exact Kj (fun _=>rfl) rfl _ _
  have c5:(i+(n+1 - i)≤n+k)=True:=eq_true (by omega)
  have e4:min (n+1 - i) (n - i)=n - i:=by omega
  have hB:ls.take (i+1) ++ (es.drop i).map (List.map L.p) ++ ls.drop (i+1+(n - i))=(es.take (i+1) ++ es.drop i).map (List.map L.p) ++ List.replicate (k - 1) [L.junk]:=by
   have:=Z8 (es:=es) (i:=i) (k:=k) (by omega) hk
   rw [hls,h] at this;exact this
  have hC:((es.take (i+1) ++ es.drop i).map (List.map L.p) ++ List.replicate (k - 1) [L.junk]).take i ++ [[L.p (.str x)]] ++ ((es.take (i+1) ++ es.drop i).map (List.map L.p) ++ List.replicate (k - 1) [L.junk]).drop (i+1)=(es.take i ++ [[PV.str x]] ++ es.drop i).map (List.map L.p) ++ List.replicate (k - 1) [L.junk]:=Xp (q:=[PV.str x]) (by omega)
  simp only [Tryz.ntmps127,Tryz.results127,go_sem,Nat.reduceLT,Nat.reduceLeDiff,Nat.reduceEqDiff,Nat.reduceAdd,Nat.reduceSub,Nat.reduceMul,Nat.reduceBEq,Int.reduceToNat,Int.reduceLT,Int.reduceLE,Int.reduceEq,Int.reduceAdd,Int.reduceSub,Int.reduceNeg,↓reduceIte,reduceCtorEq,K9,Hf,Kc,Hi,hll,c1,c2,c3,c4,c5,c6,c7,w1,w2,w3,hr1,hr2,hp0,if_true,if_false,Nat.sub_zero,List.length_replicate,e1,e2,e3,e4,e5,hT,hD,hF,hB,hC]
  (refine Ae hm _ _ _ ?_;simp only [go_sem,Nat.reduceLT,Nat.reduceEqDiff,↓reduceIte,reduceCtorEq,K9,Hf,Kc,Hi,hll,c1,c3,c4,w1,w3,Nat.sub_zero,e3])
  (repeat' (first | (refine And.intro (by first | omega | (simp;done)|(simp;omega)|(intro q hq;exact h1 q (List.mem_of_mem_drop hq))|(intro q hq;exact h1 q hq)|(intro q hq;simp at hq;subst hq;rfl)) ?_)))
  refine Ad.use (l:=.p (.bool false)) ?_ ?_
  ·exact Jbo rfl rfl (by decide) (by simp) (by omega)
  simp only [go_sem,Nat.reduceLT,↓reduceIte]
  refine SWP.of_le (B1 [(1000,40)] _ (by simp)) ?_
  simp only [go_sem,Nat.reduceEqDiff,↓reduceIte,hF]
  (refine Gi 8 hm (by kernel_rfl) (by kernel_rfl) ?_;simp only [go_sem,Nat.reduceLT,Nat.reduceLeDiff,Nat.reduceEqDiff,Nat.reduceAdd,↓reduceIte,reduceCtorEq,hll,c5,c6,c7,w3,hr2,e2,e3,e4,e5,hB,hC])
  (repeat' (first | (refine And.intro (by first | omega | (simp;done)|(simp;omega)|(intro q hq;exact h1 q (List.mem_of_mem_drop hq))|(intro q hq;exact h1 q hq)|(intro q hq;simp at hq;subst hq;rfl)) ?_)))
  rw [Kj (fun _=>rfl) rfl]
  exact .inr ⟨_,_,rfl,by rw [Gd (by simp;omega),List.take_of_length_le (by simp;omega)]⟩
theorem Jod {rs:Regs} {d1 o1 n1 d2 o2 n2:Nat} {T1 T2:TypeId} {es1:List (List PV)} {f2:Bool} {es2:List (List L)} (h1:Am d1 rs=some (.row T1 1 es1)) (h2:Am d2 rs=some (.lrow T2 1 f2 es2)) (hne:d1≠d2) (hp1:0<es1.length) (hp2:0<es2.length) :
  Ad cx 195 [.own d1 o1 n1,.own d2 o2 n2] rs (.p (.bool false)) :=
 W9 (X:=cx) Tryz.func195 (by kernel_rfl) (by kernel_rfl) (by kernel_rfl) (tS:=44) (tR:=4) (e:=34) (by kernel_rfl) f_s44 h1 h2 hne hp1 hp2
theorem Jba (es:List (List PV)) (n i:Nat) (x:PV) (hx:x.scalar=true) (h:es.length=n) (hi:i<n) (hn:n≤1000000) (h1:∀ q∈es,q.length=1):Det cx 128 [.own 1000 0 n,.p (.int .i64 i),.own 1001 0 1] [(1001,.row 34 1 [[x]]),(1000,.row 34 1 es)] (.own 900 0 (n+1)) [(900,.row 34 1 (es.take i ++ [[x]] ++ es.drop i)),(1001,.row 34 1 [[x]])]:=by
 refine Al.trunc (n+1) ?_
 refine Al.sub (Post:=fun m q=>m=.own 900 0 (n+1)∧((∃ r,q=[(900,.row 34 1 (es.take i ++ [[x]] ++ es.drop i)),(1001,.row 34 1 [[x]]),(1000,r)])∨∃ b ls,q=[(900,.lrow 34 1 b ls),(1001,.row 34 1 [[x]])]∧Cb (ls.take (n+1))=some (es.take i ++ [[x]] ++ es.drop i))) ?_ (by
  rintro m q ⟨rfl,⟨r,rfl⟩ | ⟨b,ls,rfl,hp⟩⟩
  ·exact ⟨_,((List.nil_sublist _).cons_cons _).cons_cons _,rfl,.inl rfl⟩
  ·exact ⟨_,List.Sublist.refl _,rfl,.inr ⟨b,ls,rfl,hp⟩⟩)
 refine Al.of_code (X:=cx) true [(40,900)] (by simp) Tryz.func128 (by kernel_rfl) rfl (by simp only [List.length_cons,List.length_nil,Tryz.ntmps128];decide) (by simp) ?_
 refine SWP.spare (d:=1000) (T:=34) (es:=es) rfl (by omega) fun k=>?_
 generalize hls:es.map (List.map L.p) ++ List.replicate k [L.junk]=ls
 have hll:ls.length=n+k:=by rw [← hls];simp [h]
 have c1:((i:Int)=(n:Int))=False:=eq_false (by omega)
 have hp0:(0<ls.length)=True:=eq_true (by omega)
 have hr1:Cb (ls.take i)=some (es.take i):=by rw [← hls];exact Gd (by omega)
 have w1:IntKind.i64.wrap ((n:Int)+((1:Nat):Int))=((n+1:Nat):Int):=by rw [Aa (by omega) (by omega)];omega
 have w3:IntKind.i64.wrap ((i:Int)+((1:Nat):Int))=((i+1:Nat):Int):=by rw [Aa (by omega) (by omega)];omega
 have c4:(((1:Nat):Int)=0)=False:=by simp
 have c7:((1:Nat)=0)=False:=by simp
 have c6:(n - i=0)=False:=eq_false (by omega)
 have e2:List.take (n+1 - i) [[x]]=[[x]]:=List.take_of_length_le (by simp;omega)
 have e3:n+1 - (i+1)=n - i:=by omega
 have e5:(es.drop i).length=n - i:=by simp [h]
 have hr2:Cb ((ls.drop i).take (n - i))=some (es.drop i):=by rw [← hls,Me (by omega),List.take_of_length_le (by simp;omega)]
 by_cases hk:k=0
 ·subst hk
  have c2:((ls.length:Int)<((n+1:Nat):Int))=True:=eq_true (by omega)
  have c3:((n:Int)<((n+1:Nat):Int))=True:=eq_true (by omega)
  have w2:IntKind.i64.wrap (((n+1:Nat):Int) - (i:Int))=((n+1 - i:Nat):Int):=by rw [Aa (by omega) (by omega)];omega
  simp only [Nat.add_zero] at hll
  have e1:i+(n+1 - i)=n+1:=by omega
  have hT:(es.take i ++ List.replicate (n+1 - i) [PV.snil]).take i=es.take i:=by rw [List.take_append_of_le_length (by simp;omega),List.take_take,Nat.min_self]
  have hD:(es.take i ++ List.replicate (n+1 - i) [PV.snil]).drop (i+1)=List.replicate (n - i) [PV.snil]:=by
   rw [List.drop_append,List.drop_eq_nil_of_le (by simp;omega),List.nil_append,List.drop_replicate];congr 1;simp;omega
  have hF:List.map (fun e=>List.map (L.forget 40) e) ls=ls:=by rw [← hls];exact Kj (fun _=>rfl) rfl _ _
  have c5:(i+(n - i)≤n)=True:=eq_true (by omega)
  have e4:min (n - i) (n - i)=n - i:=Nat.min_self _
  have hB:(es.take i ++ [[x]] ++ List.replicate (n - i) [PV.snil]).take (i+1) ++ es.drop i ++ (es.take i ++ [[x]] ++ List.replicate (n - i) [PV.snil]).drop (i+1+(n - i))=es.take i ++ [[x]] ++ es.drop i:=by
   have l1:(es.take i ++ [[x]]).length=i+1:=by simp;omega
   rw [List.take_append_of_le_length (by omega),List.take_of_length_le (l:=es.take i ++ [[x]]) (by omega),List.drop_eq_nil_of_le (show (es.take i ++ [[x]] ++ List.replicate (n - i) [PV.snil]).length≤i+1+(n - i) by simp;omega),List.append_nil]
  have hC:=hB
  skip
  simp only [Tryz.ntmps128,Tryz.results128,go_sem,Nat.reduceLT,Nat.reduceLeDiff,Nat.reduceEqDiff,Nat.reduceAdd,Nat.reduceSub,Nat.reduceMul,Nat.reduceBEq,Int.reduceToNat,Int.reduceLT,Int.reduceLE,Int.reduceEq,Int.reduceAdd,Int.reduceSub,Int.reduceNeg,↓reduceIte,reduceCtorEq,K9,Hf,Kc,Hi,hll,c1,c2,c3,c4,c5,c6,c7,w1,w2,w3,hr1,hr2,hp0,if_true,if_false,Nat.sub_zero,List.length_replicate,e1,e2,e3,e4,e5,hT,hD,hF,hB,hC]
  (refine Ae hm _ _ _ ?_;simp only [go_sem,Nat.reduceLT,Nat.reduceLeDiff,Nat.reduceEqDiff,↓reduceIte,reduceCtorEq,K9,Hf,Kc,Hi,hll,c1,c3,c4,c7,w1,w2,hr1,Nat.sub_zero,List.length_replicate,e1,e2,hT,hD,hF])
  (repeat' (first | (refine And.intro (by first | omega | (simp;done)|(simp;omega)|(intro q hq;exact h1 q (List.mem_of_mem_drop hq))|(intro q hq;exact h1 q hq)|(intro q hq;simp at hq;subst hq;rfl)) ?_)))
  (refine Gi 8 hm (by kernel_rfl) (by kernel_rfl) ?_;simp only [go_sem,Nat.reduceLT,Nat.reduceEqDiff,Nat.reduceAdd,↓reduceIte,reduceCtorEq,hll,c5,c6,w3,hr2,e3,e4,e5,hB])
  (repeat' (first | (refine And.intro (by first | omega | (simp;done)|(simp;omega)|(intro q hq;exact h1 q (List.mem_of_mem_drop hq))|(intro q hq;exact h1 q hq)|(intro q hq;simp at hq;subst hq;rfl)) ?_)))
  exact .inl ⟨_,rfl⟩
 ·have c2:((ls.length:Int)<((n+1:Nat):Int))=False:=eq_false (by omega)
  have c3:(((n+k:Nat):Int)<((n+1:Nat):Int))=False:=eq_false (by omega)
  have w2:=c4
  have e1:=c4
  have hT:=c4
  have hD:=c4
  have hF:List.map (fun e=>List.map (L.map (Fb 1000 40)) e) ls=ls:=by rw [← hls];exact Kj (fun _=>rfl) rfl _ _
  have c5:(i+(n+1 - i)≤n+k)=True:=eq_true (by omega)
  have e4:min (n+1 - i) (n - i)=n - i:=by omega
  have hB:ls.take (i+1) ++ (es.drop i).map (List.map L.p) ++ ls.drop (i+1+(n - i))=(es.take (i+1) ++ es.drop i).map (List.map L.p) ++ List.replicate (k - 1) [L.junk]:=by
   have:=Z8 (es:=es) (i:=i) (k:=k) (by omega) hk
   rw [hls,h] at this;exact this
  have hC:((es.take (i+1) ++ es.drop i).map (List.map L.p) ++ List.replicate (k - 1) [L.junk]).take i ++ [[L.p x]] ++ ((es.take (i+1) ++ es.drop i).map (List.map L.p) ++ List.replicate (k - 1) [L.junk]).drop (i+1)=(es.take i ++ [[x]] ++ es.drop i).map (List.map L.p) ++ List.replicate (k - 1) [L.junk]:=Xp (q:=[x]) (by omega)
  simp only [Tryz.ntmps128,Tryz.results128,go_sem,Nat.reduceLT,Nat.reduceLeDiff,Nat.reduceEqDiff,Nat.reduceAdd,Nat.reduceSub,Nat.reduceMul,Nat.reduceBEq,Int.reduceToNat,Int.reduceLT,Int.reduceLE,Int.reduceEq,Int.reduceAdd,Int.reduceSub,Int.reduceNeg,↓reduceIte,reduceCtorEq,K9,Hf,Kc,Hi,hll,c1,c2,c3,c4,c5,c6,c7,w1,w2,w3,hr1,hr2,hp0,if_true,if_false,Nat.sub_zero,List.length_replicate,e1,e2,e3,e4,e5,hT,hD,hF,hB,hC]
  (refine Ae hm _ _ _ ?_;simp only [go_sem,Nat.reduceLT,Nat.reduceEqDiff,↓reduceIte,reduceCtorEq,K9,Hf,Kc,Hi,hll,c1,c3,c4,w1,w3,Nat.sub_zero,e3])
  (repeat' (first | (refine And.intro (by first | omega | (simp;done)|(simp;omega)|(intro q hq;exact h1 q (List.mem_of_mem_drop hq))|(intro q hq;exact h1 q hq)|(intro q hq;simp at hq;subst hq;rfl)) ?_)))
  refine Ad.use (l:=.p (.bool false)) ?_ ?_
  ·exact Jod rfl rfl (by decide) (by simp) (by omega)
  simp only [go_sem,Nat.reduceLT,↓reduceIte]
  refine SWP.of_le (B1 [(1000,40)] _ (by simp)) ?_
  simp only [go_sem,Nat.reduceEqDiff,↓reduceIte,hF]
  (refine Gi 8 hm (by kernel_rfl) (by kernel_rfl) ?_;simp only [go_sem,Nat.reduceLT,Nat.reduceLeDiff,Nat.reduceEqDiff,Nat.reduceAdd,↓reduceIte,reduceCtorEq,hll,c5,c6,c7,w3,hr2,e2,e3,e4,e5,hB,hC])
  (repeat' (first | (refine And.intro (by first | omega | (simp;done)|(simp;omega)|(intro q hq;exact h1 q (List.mem_of_mem_drop hq))|(intro q hq;exact h1 q hq)|(intro q hq;simp at hq;subst hq;rfl)) ?_)))
  rw [Kj (fun _=>rfl) rfl]
  exact .inr ⟨_,_,rfl,by rw [Gd (by simp;omega),List.take_of_length_le (by simp;omega)]⟩
end Go.LX
namespace Go.LX
open Go
theorem E0:∀ a:List UInt8,Op.bytesLess a a=false
 | []=>rfl
 | x :: a=>by simp [Op.bytesLess,E0 a]
theorem H8:∀ {a b c:List UInt8},Op.bytesLess a b=true→Op.bytesLess b c=true→Op.bytesLess a c=true
 | _,[],_,h,_=>by simp [Op.bytesLess] at h
 | _,_ :: _,[],_,h=>by simp [Op.bytesLess] at h
 | [],_ :: _,_ :: _,_,_=>rfl
 | x :: a,y :: b,z :: c,h1,h2=>by
  simp only [Op.bytesLess,Bool.or_eq_true,decide_eq_true_eq,Bool.and_eq_true,beq_iff_eq] at h1 h2 ⊢
  rcases h1 with h1 | ⟨rfl,h1⟩
  ·rcases h2 with h2 | ⟨rfl,h2⟩
   ·exact .inl (UInt8.lt_trans h1 h2)
   ·exact .inl h1
  ·rcases h2 with h2 | ⟨rfl,h2⟩
   ·exact .inl h2
   ·exact .inr ⟨rfl,H8 h1 h2⟩
theorem L3 {a b:List UInt8} (h:Op.bytesLess a b=true):Op.bytesLess b a=false:=by
 cases h':Op.bytesLess b a with
 | false=>rfl
 | true=>have:=H8 h h';rw [E0] at this;cases this
theorem bl_ne {a b:List UInt8} (h:Op.bytesLess a b=true):a≠b:=by
 rintro rfl;rw [E0] at h;cases h
theorem Qf:∀ {a b:List UInt8},Op.bytesLess a b=false→a≠b→Op.bytesLess b a=true
 | [],[],_,h=>absurd rfl h
 | [],_ :: _,h,_=>by simp [Op.bytesLess] at h
 | _ :: _,[],_,_=>rfl
 | x :: a,y :: b,h1,h2=>by
  simp only [Op.bytesLess,Bool.or_eq_false_iff,decide_eq_false_iff_not,Bool.and_eq_false_imp,beq_iff_eq] at h1
  simp only [Op.bytesLess,Bool.or_eq_true,decide_eq_true_eq,Bool.and_eq_true,beq_iff_eq]
  obtain ⟨h3,h4⟩:=h1
  by_cases hxy:x=y
  ·subst hxy
   exact .inr ⟨rfl,Qf (h4 rfl) (by rintro rfl;exact h2 rfl)⟩
  ·left
   rcases UInt8.lt_or_lt_of_ne hxy with h | h
   ·exact absurd h h3
   ·exact h
def nle (a b:List UInt8):Prop:=Op.bytesLess b a=false
theorem Jg7 {a b c:List UInt8} (h1:nle a b) (h2:nle b c):nle a c:=by
 unfold nle at *
 cases h:Op.bytesLess c a with
 | false=>rfl
 | true =>
  by_cases e:b=c
  ·subst e;rw [h1] at h;cases h
  ·have h3:=Qf h2 (Ne.symm e)
   have:=H8 h3 h
   rw [h1] at this;cases this
abbrev KT:=List UInt8×Tree
def Rise (l:List KT):Prop:=l.Pairwise fun a b=>Op.bytesLess a.1 b.1=true
theorem Rise.tail {p:KT} {l:List KT} (h:Rise (p :: l)):Rise l:=(List.pairwise_cons.1 h).2
theorem Rise.nodup {l:List KT} (h:Rise l):(l.map (·.1)).Nodup:=by
 unfold List.Nodup
 rw [List.pairwise_map]
 exact List.Pairwise.imp (fun h=>bl_ne h) h
def putL (name:List UInt8) (t:Tree):List KT→List KT
 | []=>[(name,t)]
 | p :: l=>if Op.bytesLess p.1 name=true then p :: putL name t l else (name,t) :: p :: l
theorem Hv (name:List UInt8) (t:Tree):∀ l,(putL name t l).Perm ((name,t) :: l)
 | []=>.refl _
 | p :: l=>by
  unfold putL
  split
  ·exact ((Hv name t l).cons p).trans (.swap _ _ _)
  ·exact .refl _
theorem Jjz {name:List UInt8} {t:Tree} {l:List KT} {q:KT}:q∈putL name t l ↔ q=(name,t)∨q∈l:=by
 rw [(Hv name t l).mem_iff,List.mem_cons]
theorem Lz (name:List UInt8) (t:Tree) (l:List KT):(putL name t l).length=l.length+1:=by
 rw [(Hv name t l).length_eq];rfl
theorem Kh {name:List UInt8} {t:Tree}:∀ {l:List KT},Rise l→(∀ p∈l,p.1≠name)→Rise (putL name t l)
 | [],_,_=>List.pairwise_singleton _ _
 | p :: l,h,hn=>by
  unfold putL
  obtain ⟨h1,h2⟩:=List.pairwise_cons.1 h
  split
  ·rename_i hlt
   refine List.pairwise_cons.2 ⟨fun q hq=>?_,Kh h2 fun q hq=>hn q (List.mem_cons_of_mem _ hq)⟩
   rcases Jjz.1 hq with rfl | hq
   ·exact hlt
   ·exact h1 q hq
  ·rename_i hlt
   have h3:=Qf (a:=p.1) (b:=name) (by simpa using hlt) (hn p List.mem_cons_self)
   refine List.pairwise_cons.2 ⟨fun q hq=>?_,h⟩
   rcases List.mem_cons.1 hq with rfl | hq
   ·exact h3
   ·exact H8 h3 (h1 q hq)
theorem Jy:∀ {a b:List KT},Rise a→Rise b→a.Perm b→a=b
 | [],b,_,_,h=>(List.nil_perm.1 h).symm
 | p :: a,[],_,_,h=>by simp at h
 | p :: a,q :: b,h1,h2,h=>by
  obtain ⟨g1,g2⟩:=List.pairwise_cons.1 h1
  obtain ⟨k1,k2⟩:=List.pairwise_cons.1 h2
  have e:p=q:=by
   have m1:p∈q :: b:=h.mem_iff.1 List.mem_cons_self
   have m2:q∈p :: a:=h.mem_iff.2 List.mem_cons_self
   rcases List.mem_cons.1 m1 with e | m1
   ·exact e
   ·rcases List.mem_cons.1 m2 with e | m2
    ·exact e.symm
    ·have:=L3 (g1 q m2);rw [k1 p m1] at this;cases this
  subst e
  rw [Jy g2 k2 (List.Perm.cons_inv h)]
def Lp:List KT→List KT
 | []=>[]
 | p :: l=>putL p.1 p.2 (Lp l)
theorem E3:∀ l,(Lp l).Perm l
 | []=>.refl _
 | p :: l=>(Hv _ _ _).trans ((E3 l).cons p)
theorem Jj:∀ {l:List KT},(l.map (·.1)).Nodup→Rise (Lp l)
 | [],_=>.nil
 | p :: l,h=>by
  rw [List.map_cons,List.nodup_cons] at h
  refine Kh (Jj h.2) fun q hq e=>h.1 ?_
  rw [← e]
  exact List.mem_map_of_mem ((E3 l).mem_iff.1 hq)
theorem Jay {l:List KT} {name:List UInt8} {t:Tree} (h:Rise l) (hn:∀ p∈l,p.1≠name):Lp (l ++ [(name,t)])=putL name t l:=by
 refine Jy (Jj ?_) (Kh h hn) ((E3 _).trans ?_)
 ·rw [List.map_append,List.nodup_append]
  refine ⟨h.nodup,by simp,fun a ha b hb=>?_⟩
  obtain ⟨p,hp,rfl⟩:=List.mem_map.1 ha
  simp at hb;subst hb
  exact hn p hp
 ·exact (List.perm_append_comm (l₁:=l) (l₂:=[(name,t)])).trans (Hv name t l).symm
def E1:List Bool→List KT→List KT
 | b :: D,p :: l=>if b=true then E1 D l else p :: E1 D l
 | _,_=>[]
def cntT:List Bool→Nat
 | []=>0
 | b :: D=>if b=true then cntT D+1 else cntT D
theorem Jdj:∀ D,cntT D≤D.length
 | []=>Nat.le_refl _
 | b :: D=>by have:=Jdj D;simp only [cntT,List.length_cons];split <;> omega
theorem Ya:∀ {D:List Bool} {b:Nat},D[b]? = some false→cntT (D.set b true)=cntT D+1
 | [],b,h=>by simp at h
 | x :: D,0,h=>by simp at h;subst h;simp [cntT]
 | x :: D,b+1,h=>by
  simp only [List.set_cons_succ,cntT,Ya (D:=D) (b:=b) (by simpa using h)]
  split <;> rfl
theorem Y8:∀ {D:List Bool},(∀ j,j<D.length→D[j]? = some true)→cntT D=D.length
 | [],_=>rfl
 | x :: D,h=>by
  have h0:=h 0 (by simp)
  simp at h0;subst h0
  simp only [cntT,if_true,List.length_cons]
  rw [Y8 fun j hj=>by simpa using h (j+1) (by simp;omega)]
theorem Rn:∀ {D:List Bool} {l:List KT},cntT D=D.length→E1 D l=[]
 | [],_,_=>rfl
 | x :: D,[],_=>rfl
 | x :: D,p :: l,h=>by
  have:=Jdj D
  cases x
  ·simp [cntT] at h;omega
  ·simp [cntT] at h
   simp only [E1,if_true]
   exact Rn h
theorem R1:∀ l:List KT,E1 (List.replicate l.length false) l=l
 | []=>rfl
 | p :: l=>by simp only [List.length_cons,List.replicate_succ,E1,Bool.false_eq_true,if_false,R1 l]
theorem Tn:∀ n,cntT (List.replicate n false)=0
 | 0=>rfl
 | n+1=>by simp [List.replicate_succ,cntT,Tn n]
theorem Nf:∀ {D:List Bool} {l:List KT} {p:KT},p∈E1 D l→∃ j:Nat,l[j]? = some p∧D[j]? = some false
 | [],_,p,h=>by simp [E1] at h
 | x :: D,[],p,h=>by simp [E1] at h
 | x :: D,q :: l,p,h=>by
  unfold E1 at h
  split at h
  ·obtain ⟨j,h1,h2⟩:=Nf h
   exact ⟨j+1,by simpa using h1,by simpa using h2⟩
  ·rename_i hx
   rcases List.mem_cons.1 h with rfl | h
   ·exact ⟨0,rfl,by simpa using hx⟩
   ·obtain ⟨j,h1,h2⟩:=Nf h
    exact ⟨j+1,by simpa using h1,by simpa using h2⟩
theorem Ol:∀ {D:List Bool} {l:List KT} {p:KT} {j:Nat},l[j]? = some p→D[j]? = some false→p∈E1 D l
 | [],_,_,_,_,h=>by simp at h
 | _ :: _,[],_,_,h,_=>by simp at h
 | x :: D,q :: l,p,0,h,h'=>by
  simp at h h';subst h;subst h'
  simp [E1]
 | x :: D,q :: l,p,j+1,h,h'=>by
  have:=Ol (D:=D) (l:=l) (j:=j) (by simpa using h) (by simpa using h')
  unfold E1
  split
  ·exact this
  ·exact List.mem_cons_of_mem _ this
theorem Qi:∀ {D:List Bool} {l:List KT} {p:KT} {j:Nat},l[j]? = some p→D[j]? = some false→(E1 D l).Perm (p :: E1 (D.set j true) l)
 | [],_,_,_,_,h=>by simp at h
 | _ :: _,[],_,_,h,_=>by simp at h
 | x :: D,q :: l,p,0,h,h'=>by
  simp at h h';subst h;subst h'
  simp [E1]
 | x :: D,q :: l,p,j+1,h,h'=>by
  have:=Qi (D:=D) (l:=l) (j:=j) (by simpa using h) (by simpa using h')
  simp only [List.set_cons_succ,E1]
  split
  ·exact this
  ·exact (this.cons q).trans (.swap _ _ _)
structure Picks (l S:List KT) (D:List Bool):Prop where
 len:D.length=l.length
 cnt:cntT D=S.length
 perm:(S ++ E1 D l).Perm l
 rise:Rise S
 low:∀ s∈S,∀ p∈E1 D l,nle s.1 p.1
theorem Picks.start (l:List KT):Picks l [] (List.replicate l.length false) :=
 ⟨by simp,Tn _,by rw [List.nil_append,R1],.nil,by simp⟩
theorem Picks.done {l S:List KT} {D:List Bool} (h:Picks l S D) (hn:S.length=l.length):S.Perm l:=by
 have:=h.perm
 rw [Rn (by rw [h.cnt,hn,h.len]),List.append_nil] at this
 exact this
theorem Picks.next {l S:List KT} {D:List Bool} (h:Picks l S D) {b:Nat} {p:KT} (hp:l[b]? = some p) (hb:D[b]? = some false) (hm:∀ (j:Nat) (q:KT),l[j]? = some q→D[j]? = some false→nle p.1 q.1) (hl:∀ q,S.getLast? = some q→q.1≠p.1):Picks l (S ++ [p]) (D.set b true):=by
 have hpr:=Ol hp hb
 have ht:=Qi hp hb
 refine ⟨by simp [h.len],by rw [Ya hb,h.cnt];simp,?_,?_,?_⟩
 ·rw [List.append_assoc]
  exact ((List.Perm.append_left S ht.symm)).trans h.perm
 ·refine List.pairwise_append.2 ⟨h.rise,List.pairwise_singleton _ _,fun s hs q hq=>?_⟩
  rw [List.mem_singleton] at hq;subst hq
  have h1:=h.low s hs q hpr
  by_cases e:s.1=q.1
  ·exfalso
   obtain ⟨S',z,rfl⟩:∃ S' z,S=S' ++ [z]:=by
    rcases List.eq_nil_or_concat S with rfl | ⟨S',z,rfl⟩
    ·cases hs
    ·exact ⟨S',z,by simp⟩
   have hz:=hl z (by simp)
   have h2:=h.low z (by simp) q hpr
   have h3:=Qf (a:=q.1) (b:=z.1) h2 (Ne.symm hz)
   rcases List.mem_append.1 hs with hs | hs
   ·have h4:=(List.pairwise_append.1 h.rise).2.2 s hs z (by simp)
    rw [e] at h4
    have:=L3 h4;rw [h3] at this;cases this
   ·rw [List.mem_singleton] at hs;subst hs;exact hz e
  ·exact Qf (a:=q.1) (b:=s.1) h1 (Ne.symm e)
 ·intro s hs q hq
  have hq':q∈E1 D l:=ht.mem_iff.2 (List.mem_cons_of_mem _ hq)
  rcases List.mem_append.1 hs with hs | hs
  ·exact h.low s hs q hq'
  ·rw [List.mem_singleton] at hs;subst hs
   obtain ⟨j,h1,h2⟩:=Nf hq'
   exact hm j q h1 h2
theorem Picks.twice {l S:List KT} {D:List Bool} (h:Picks l S D) {b:Nat} {p q:KT} (hp:l[b]? = some p) (hb:D[b]? = some false) (hl:S.getLast? = some q) (he:q.1=p.1):¬ (l.map (·.1)).Nodup:=by
 intro hn
 have h1:=(h.perm.map (·.1)).nodup_iff.2 hn
 rw [List.map_append,List.nodup_append] at h1
 exact h1.2.2 q.1 (List.mem_map_of_mem (List.mem_of_getLast? hl)) p.1 (List.mem_map_of_mem (Ol hp hb)) he
end Go.LX
set_option maxRecDepth 100000
set_option maxHeartbeats 2000000
namespace Go.LX
open Go Go.RowKit Go.Proofs
attribute [local irreducible] Al SWP Bi
theorem Se (es:List (List PV)) (n i:Nat) (x:List UInt8) (h:es.length=n) (hi:i≤n) (hn:n≤1000000) (h1:∀ q∈es,q.length=1):Det cx 127 [.own 1000 0 n,.p (.int .i64 i),.own 1001 0 1] [(1001,.row 9 1 [[.str x]]),(1000,.row 9 1 es)] (.own 900 0 (n+1)) [(900,.row 9 1 (es.take i ++ [[.str x]] ++ es.drop i)),(1001,.row 9 1 [[.str x]])]:=by
 by_cases h2:i<n
 ·exact Yh es n i x h h2 hn h1
 ·obtain rfl:i=n:=by omega
  have:=Qn es i x h hn
  rw [List.take_of_length_le (by omega),List.drop_eq_nil_of_le (by omega),List.append_nil]
  exact this
theorem Ss (es:List (List PV)) (n i:Nat) (x:PV) (hx:x.scalar=true) (h:es.length=n) (hi:i≤n) (hn:n≤1000000) (h1:∀ q∈es,q.length=1):Det cx 128 [.own 1000 0 n,.p (.int .i64 i),.own 1001 0 1] [(1001,.row 34 1 [[x]]),(1000,.row 34 1 es)] (.own 900 0 (n+1)) [(900,.row 34 1 (es.take i ++ [[x]] ++ es.drop i)),(1001,.row 34 1 [[x]])]:=by
 by_cases h2:i<n
 ·exact Jba es n i x hx h h2 hn h1
 ·obtain rfl:i=n:=by omega
  have:=S0 es i x hx h hn
  rw [List.take_of_length_le (by omega),List.drop_eq_nil_of_le (by omega),List.append_nil]
  exact this
theorem Vn (name:List UInt8) (t:Tree):∀ l:List KT,putL name t l=l.take (Cq name (l.map (·.1))) ++ [(name,t)] ++ l.drop (Cq name (l.map (·.1)))
 | []=>rfl
 | p :: l=>by
  simp only [putL,List.map_cons,Cq]
  split
  ·rw [Vn name t l];rfl
  ·rfl
theorem U8 {name:List UInt8} {l:List KT} (h:Rise l):Mono name (l.map (·.1)):=by
 intro i j s t hij hi hj hlt
 rw [List.getElem?_map] at hi hj
 obtain ⟨p,hp,rfl⟩:=Option.map_eq_some_iff.1 hi
 obtain ⟨q,hq,rfl⟩:=Option.map_eq_some_iff.1 hj
 rcases Nat.lt_or_eq_of_le hij with h2 | rfl
 ·obtain ⟨hp1,rfl⟩:=List.getElem?_eq_some_iff.1 hp
  obtain ⟨hq1,rfl⟩:=List.getElem?_eq_some_iff.1 hq
  exact H8 (List.pairwise_iff_getElem.1 h i j hp1 hq1 h2) hlt
 ·rw [hp] at hq;cases hq;exact hlt
theorem Jco (l:List KT):Bd l=strL (l.map (·.1)):=by simp [Bd,strL]
theorem Om {name:List UInt8}:∀ {l:List KT} {p:KT},p∈A8 name l ↔ p∈l∧p.1≠name
 | [],p=>by simp [A8]
 | q :: l,p=>by
  simp only [A8]
  split
  ·rename_i h
   rw [Om]
   constructor
   ·exact fun ⟨h1,h2⟩=>⟨List.mem_cons_of_mem _ h1,h2⟩
   ·rintro ⟨h1,h2⟩
    rcases List.mem_cons.1 h1 with rfl | h1
    ·exact absurd h h2
    ·exact ⟨h1,h2⟩
  ·rename_i h
   rw [List.mem_cons,Om,List.mem_cons]
   constructor
   ·rintro (rfl | ⟨h1,h2⟩)
    ·exact ⟨.inl rfl,h⟩
    ·exact ⟨.inr h1,h2⟩
   ·rintro ⟨rfl | h1,h2⟩
    ·exact .inl rfl
    ·exact .inr ⟨h1,h2⟩
theorem N8 (name:List UInt8):∀ l:List KT,(A8 name l).Sublist l
 | []=>.slnil
 | p :: l=>by
  simp only [A8]
  split
  ·exact (N8 name l).cons _
  ·exact (N8 name l).cons_cons _
theorem Rise.kept {l:List KT} (h:Rise l) (name:List UInt8):Rise (A8 name l):=List.Pairwise.sublist (N8 name l) h
theorem Iv (name:List UInt8) (t:Tree):∀ l:List KT,(A1 (putL name t l)).enc.length=(A1 l).enc.length+(t.enc []).length
 | []=>by simp only [putL,A1,A0,Bl,List.length_append,List.length_nil,G7 t name];omega
 | p :: l=>by
  unfold putL
  split
  ·simp only [A1,A0,List.length_append,Iv name t l];omega
  ·simp only [A1,A0,List.length_append,G7 t name];omega
theorem d_With (nm:List UInt8) (s:List UInt8) (g:Bool) (e:Int) (kids:Forest) (name:List UInt8) (t:Tree) (hv:kids.enc.length≤400000) (ht:(t.enc []).length≤400000) (hr:Rise (A8 name kids.list)):Det cx 61 [.p (.sl (valL ((Tree.mk 6 s g e kids).enc nm))),.p (.str name),.p (.sl (valL (t.enc [])))] [] (.p (.sl (valL ((Tree.mk 6 [] false 0 (A1 (putL name t (A8 name kids.list)))).enc [])))) []:=by
 have hw:=Jfw nm s g e kids name (by omega)
 have hkl:=El name kids
 have hfl:=Forest.len_le (A1 (A8 name kids.list))
 rw [Ca] at hfl
 generalize hK:A8 name kids.list=K at *
 have hp:=Jc9 [] 6 [] false 0 (A1 K) (by omega)
 have hnm:=Jnc [] [] false 0 (A1 K) (by omega)
 rw [Hd,Ca] at hp hnm
 have hb:=Jmd name (K.map (·.1)) (U8 hr) (by simp;omega)
 rw [← Jco,List.length_map] at hb
 have hbl:=Qt name (K.map (·.1))
 rw [List.length_map] at hbl
 have i1:=Se (Bd K) K.length (Cq name (K.map (·.1))) name (A9 K) hbl (by omega) (by intro q hq;obtain ⟨p,_,rfl⟩:=List.mem_map.1 hq;rfl)
 have i2:=Ss (A4 K) K.length (Cq name (K.map (·.1))) (.sl (valL (t.enc []))) rfl (A5 K) hbl (by omega) (by intro q hq;obtain ⟨p,_,rfl⟩:=List.mem_map.1 hq;rfl)
 have e1:(Bd K).take (Cq name (K.map (·.1))) ++ [[PV.str name]] ++ (Bd K).drop (Cq name (K.map (·.1)))=Bd (putL name t K):=by
  rw [Vn];simp [Bd,List.map_take,List.map_drop]
 have e2:(A4 K).take (Cq name (K.map (·.1))) ++ [[PV.sl (valL (t.enc []))]] ++ (A4 K).drop (Cq name (K.map (·.1)))=A4 (putL name t K):=by
  rw [Vn];simp [A4,List.map_take,List.map_drop]
 rw [e1] at i1
 rw [e2] at i2
 have hla:=Jkg (putL name t K) (by rw [Iv];omega)
 have l1:(K.length+1≤(Bd (putL name t K)).length)=True:=eq_true (by rw [A9,Lz];omega)
 have l2:(K.length+1≤(A4 (putL name t K)).length)=True:=eq_true (by rw [A5,Lz];omega)
 have t1:(Bd (putL name t K)).take (K.length+1)=Bd (putL name t K):=List.take_of_length_le (by rw [A9,Lz];omega)
 have t2:(A4 (putL name t K)).take (K.length+1)=A4 (putL name t K):=List.take_of_length_le (by rw [A5,Lz];omega)
 skip
 (refine Al.of_code (X:=cx) false [] (by simp) Tryz.func61 (by kernel_rfl) rfl (by simp only [List.length_cons,List.length_nil,Tryz.ntmps61];decide) (by simp) ?_;refine Ae hm _ _ _ ?_;simp only [Tryz.ntmps61,Tryz.results61,go_sem,Nat.reduceLT,Nat.reduceLeDiff,Nat.reduceEqDiff,Nat.reduceAdd,Nat.reduceSub,Nat.reduceMul,Nat.reduceBEq,Int.reduceToNat,Int.reduceLT,Int.reduceLE,Int.reduceEq,Int.reduceAdd,Int.reduceSub,Int.reduceNeg,↓reduceIte,reduceCtorEq,l1,l2,t1,t2,if_true])
 (repeat' (first | (refine iteI (fun h=>?_) (fun h=>?_))|(refine Ak (by first | omega | (simp (disch:=omega) only [Aa,Ab,Ac] at *;omega)) ?_;intro b hb)|(refine And.intro (by first | omega | (simp (disch:=omega) only [Aa,Ab,Ac] at *;omega)) ?_)|((first | (refine Ah hm (by rfl) (by kernel_rfl) ?_)|(refine Det.use (hw) ?_)|(refine Det.useQ (hw) ?_)|(refine Ag.use (hw) ?_)|(refine Ad.use (hw) ?_)|(refine Det.use (hp) ?_)|(refine Det.useQ (hp) ?_)|(refine Ag.use (hp) ?_)|(refine Ad.use (hp) ?_)|(refine Det.use (hnm) ?_)|(refine Det.useQ (hnm) ?_)|(refine Ag.use (hnm) ?_)|(refine Ad.use (hnm) ?_)|(refine Det.use (hb) ?_)|(refine Det.useQ (hb) ?_)|(refine Ag.use (hb) ?_)|(refine Ad.use (hb) ?_)|(refine Det.use (i1) ?_)|(refine Det.useQ (i1) ?_)|(refine Ag.use (i1) ?_)|(refine Ad.use (i1) ?_)|(refine Det.use (i2) ?_)|(refine Det.useQ (i2) ?_)|(refine Ag.use (i2) ?_)|(refine Ad.use (i2) ?_)|(refine Det.use (hla) ?_)|(refine Det.useQ (hla) ?_)|(refine Ag.use (hla) ?_)|(refine Ad.use (hla) ?_));simp only [go_sem,Nat.reduceLT,Nat.reduceLeDiff,Nat.reduceEqDiff,Nat.reduceAdd,Nat.reduceMul,Nat.reduceBEq,↓reduceIte,reduceCtorEq,l1,l2,t1,t2])|(exact True.intro)|(exfalso;omega)))
end Go.LX
set_option maxRecDepth 100000
set_option maxHeartbeats 2000000
namespace Go.LX
open Go Go.RowKit Go.Proofs
attribute [local irreducible] Al SWP Bi
open Classical in
noncomputable def M3 (l:List KT):Bool:=decide ((∀ p∈l,valid p.1=true)∧(l.map (·.1)).Nodup)
noncomputable def objR (l:List KT):L:=if M3 l=true then .tup [.sl (valL ((Tree.mk 6 [] false 0 (A1 (Lp l))).enc [])),.int .i64 0] else .tup [.snil,.int .i64 4]
def J7 (D:List Bool):List (List PV):=D.map fun b=>[.bool b]
theorem Hm {a b:List KT} (h:a.Perm b):(A1 a).enc.length=(A1 b).enc.length:=by
 induction h with
 | nil=>rfl
 | cons x _ ih=>simp only [A1,A0,List.length_append,ih]
 | swap x y l=>simp only [A1,A0,List.length_append];omega
 | trans _ _ h1 h2=>exact h1.trans h2
theorem Zc (l:List KT) (hv:(A1 l).enc.length≤900000) (hs:∀ p∈l,p.1.length≤1000000):Det cx 105 [.p (.sl (Bd l)),.p (.sl (A4 l))] [] (objR l) []:=by
 have hll:=Forest.len_le (A1 l)
 rw [Ca] at hll
 have rep:List.replicate l.length [PV.bool false]=J7 (List.replicate l.length false):=by simp [J7]
 have cz:((0:Int)≤(l.length:Int))=True:=eq_true (by omega)
 skip
 (refine Al.of_code (X:=cx) false [] (by simp) Tryz.func105 (by kernel_rfl) rfl (by simp only [List.length_cons,List.length_nil,Tryz.ntmps105];decide) (by simp) ?_;refine Ae hm _ _ _ ?_;simp only [Tryz.ntmps105,Tryz.results105,go_sem,Nat.reduceLT,Nat.reduceLeDiff,Nat.reduceEqDiff,Nat.reduceAdd,Nat.reduceSub,Nat.reduceMul,Nat.reduceBEq,Int.reduceToNat,Int.reduceLT,Int.reduceLE,Int.reduceEq,Int.reduceAdd,Int.reduceSub,Int.reduceNeg,↓reduceIte,reduceCtorEq,A9,A5,rep,cz])
 (repeat' (first | (refine iteI (fun h=>?_) (fun h=>?_))|(refine Ak (by first | omega | (simp (disch:=omega) only [Aa,Ab,Ac] at *;omega)) ?_;intro b hb)|(refine And.intro (by first | omega | (simp (disch:=omega) only [Aa,Ab,Ac] at *;omega)) ?_)|((first | (refine Ah hm (by rfl) (by kernel_rfl) ?_));simp only [go_sem])|(exact True.intro)|(exfalso;omega)))
 refine SWP.of_le (B1 [(16,86),(17,93)] _ (by simp)) ?_
 simp only [go_sem,Nat.reduceEqDiff,Int.reduceNeg,↓reduceIte]
 refine SWP.loop (fun x:List KT×List Bool=>⟨Ba 97 [(0,.p (.sl (Bd l))),(1,.p (.sl (A4 l))),(6,.own 86 0 x.1.length),(7,.own 93 0 x.1.length),(8,.own 20 0 l.length)],[(20,.row 4 1 (J7 x.2)),(93,.row 34 1 (A4 x.1)),(86,.row 9 1 (Bd x.1))]⟩) (fun x=>Picks l x.1 x.2∧(∀ p∈x.1,valid p.1=true)∧x.1.length≤l.length) (fun x=>l.length - x.1.length) ([],List.replicate l.length false) (St.le_slots (by simp only [Ap,Ar,Ao,Aj,Af,Nat.reduceEqDiff,reduceIte,Nat.reduceLT,Nat.reduceLeDiff];simp (disch:=omega) [Af,Ai,Au,Aa] <;> (repeat' apply And.intro) <;> omega) (by simp (disch:=omega) [Az,A3,Aw,Am,Af,Ai,Au,Aa]) (by simp [Ay])) ⟨Picks.start l,by simp,Nat.zero_le _⟩ ?_
 rintro ⟨S,D⟩ ⟨hP,hV,hS⟩
 simp only at hP hV hS
 have hDl:=hP.len
 by_cases hlt:¬ S.length<l.length
 ·have c1:((S.length:Int)<(l.length:Int))=False:=eq_false (by omega)
  have hSl:S.length=l.length:=by omega
  have hPm:=hP.done hSl
  have hOK:M3 l=true:=by
   unfold M3
   rw [decide_eq_true_eq]
   exact ⟨fun p hp=>hV p (hPm.mem_iff.2 hp),(hPm.map (·.1)).nodup_iff.1 hP.rise.nodup⟩
  have hso:Lp l=S:=Jy (Jj ((hPm.map (·.1)).nodup_iff.1 hP.rise.nodup)) hP.rise ((E3 l).trans hPm.symm)
  have tn:(Bd S).take S.length=Bd S:=List.take_of_length_le (by rw [A9];omega)
  have tp:(A4 S).take S.length=A4 S:=List.take_of_length_le (by rw [A5];omega)
  have ln:(S.length≤S.length)=True:=eq_true (Nat.le_refl _)
  have lp:=ln
  skip
  (refine Ae hm _ _ _ ?_;simp only [go_sem,Nat.reduceLT,Nat.reduceEqDiff,Int.reduceNeg,↓reduceIte,reduceCtorEq,A9,A5,c1,tn,tp,ln])
  (repeat' (first | (refine iteI (fun h=>?_) (fun h=>?_))|(refine Ak (by first | omega | (simp (disch:=omega) only [Aa,Ab,Ac] at *;omega)) ?_;intro b hb)|(refine And.intro (by first | omega | (simp (disch:=omega) only [Aa,Ab,Ac] at *;omega)) ?_)|((first | (refine Ah hm (by rfl) (by kernel_rfl) ?_)|(refine Det.use (Iy S (by rw [Hm hPm];omega)) ?_)|(refine Det.useQ (Iy S (by rw [Hm hPm];omega)) ?_));simp only [go_sem,Nat.reduceLT,Nat.reduceEqDiff,↓reduceIte])|(exact True.intro)|(exfalso;omega)))
  unfold objR
  rw [if_pos hOK,hso]
 ·have hlt:=Decidable.not_not.1 hlt
  have c1:((S.length:Int)<(l.length:Int))=True:=eq_true (by omega)
  have tn:=c1
  have tp:=c1
  have ln:=c1
  have lp:=c1
  (refine Ae hm _ _ _ ?_;simp only [go_sem,Nat.reduceLT,Nat.reduceEqDiff,Int.reduceNeg,↓reduceIte,reduceCtorEq,A9,c1])
  refine SWP.loop (fun x:Nat×Int=>⟨Ba 97 [(0,.p (.sl (Bd l))),(1,.p (.sl (A4 l))),(6,.own 86 0 S.length),(7,.own 93 0 S.length),(8,.own 20 0 l.length),(9,.p (.int .i64 x.2)),(10,.p (.int .i64 x.1))],[(20,.row 4 1 (J7 D)),(93,.row 34 1 (A4 S)),(86,.row 9 1 (Bd S))]⟩) (fun x=>x.1≤l.length∧((x.2 = -1∧∀ j,j<x.1→D[j]? = some true)∨∃ b:Nat,x.2=b∧b<x.1∧D[b]? = some false∧∃ p,l[b]? = some p∧∀ (j:Nat) (q:KT),j<x.1→l[j]? = some q→D[j]? = some false→nle p.1 q.1)) (fun x=>l.length - x.1) (0,-1) (St.le_slots (by simp only [Ap,Ar,Ao,Aj,Af,Nat.reduceEqDiff,reduceIte,Nat.reduceLT,Nat.reduceLeDiff];simp (disch:=omega) [Af,Ai,Au,Aa] <;> (repeat' apply And.intro) <;> omega) (by simp (disch:=omega) [Az,A3,Aw,Am,Af,Ai,Au,Aa]) (by simp [Ay])) ⟨Nat.zero_le _,.inl ⟨rfl,fun j h=>by omega⟩⟩ ?_
  rintro ⟨i,z⟩ ⟨hi,hz⟩
  simp only at hi hz
  by_cases hin:¬ i<l.length
  ·have c2:((i:Int)<(l.length:Int))=False:=eq_false (by omega)
   obtain rfl:i=l.length:=by omega
   rcases hz with ⟨_,hz⟩ | ⟨b,rfl,hb,hDb,p,hp,hm'⟩
   ·have:=Y8 (D:=D) (fun j hj=>hz j (by omega))
    have:=hP.cnt
    omega
   ·have hgn:(Bd l)[b]? = some [.str p.1]:=by simp [Bd,hp]
    have hgp:(A4 l)[b]? = some [.sl (valL (p.2.enc []))]:=by simp [A4,hp]
    have hgD:(J7 D)[b]? = some [.bool false]:=by simp [J7,hDb]
    have hmm:∀ (j:Nat) (q:KT),l[j]? = some q→D[j]? = some false→nle p.1 q.1:=fun j q h1 h2=>hm' j q (List.getElem?_eq_some_iff.1 h1).1 h1 h2
    have hpm:=List.mem_of_getElem? hp
    have hbs:(J7 D).set b [.bool true]=J7 (D.set b true):=by simp [J7,List.map_set]
    have hpn:∀ (S:List KT),Bd S ++ [[.str p.1]]=Bd (S ++ [p]):=fun S=>by simp [Bd]
    have hpp:∀ (S:List KT),A4 S ++ [[.sl (valL (p.2.enc []))]]=A4 (S ++ [p]):=fun S=>by simp [A4]
    have w1:IntKind.i64.wrap ((S.length:Int) - 1)=(S.length:Int) - 1:=Aa (by omega) (by omega)
    cases hvp:valid p.1 with
    | false =>
     have hOK:M3 l=false:=by
      unfold M3
      rw [decide_eq_false_iff_not]
      rintro ⟨h,_⟩
      rw [h p hpm] at hvp;cases hvp
     have hgl:=c2
     have hgl2:=c2
     have c8:=c2
     have hbq:=c2
     skip
     (refine Ae hm _ _ _ ?_;simp only [go_sem,Nat.reduceLT,Nat.reduceEqDiff,Int.reduceNeg,↓reduceIte,reduceCtorEq,A9,c2])
     (repeat' (first | (refine And.intro (by first | omega | (simp;done)|(simp;omega)) ?_)))
     refine Ah hm (by rfl) (by kernel_rfl) ?_
     simp only [go_sem,Nat.reduceLT,Nat.reduceEqDiff,↓reduceIte,reduceCtorEq,hgn]
     refine Det.useQ (Cn p.1 (hs p hpm)) ?_
     simp only [go_sem,Nat.reduceLT,Nat.reduceEqDiff,↓reduceIte,hvp]
     (repeat' (first | (refine And.intro (by first | omega | (simp;done)|(simp;omega)) ?_)))
     unfold objR
     rw [hOK];simp
    | true =>
     cases hg:S.getLast? with
     | none =>
      have hS0:S=[]:=List.getLast?_eq_none_iff.1 hg
      subst hS0
      have hgl:=c2
      have hgl2:=c2
      have c8:((0:Int)<((0:Nat):Int))=False:=by simp
      have hbq:=c2
      have hN:=hP.next hp hDb hmm (fun q hq=>by simp at hq)
      (refine Ae hm _ _ _ ?_;simp only [go_sem,Nat.reduceLT,Nat.reduceEqDiff,Int.reduceNeg,↓reduceIte,reduceCtorEq,A9,c2])
      (repeat' (first | (refine And.intro (by first | omega | (simp;done)|(simp;omega)) ?_)))
      refine Ah hm (by rfl) (by kernel_rfl) ?_
      simp only [go_sem,Nat.reduceLT,Nat.reduceEqDiff,↓reduceIte,reduceCtorEq,hgn]
      refine Det.useQ (Cn p.1 (hs p hpm)) ?_
      simp only [go_sem,Nat.reduceLT,Nat.reduceLeDiff,Nat.reduceEqDiff,Nat.reduceMul,↓reduceIte,reduceCtorEq,A9,A5,hgn,hgp,hgD,hbs,hpn,hpp,hvp,c8]
      (repeat' (first | (refine And.intro (by first | omega | (simp;done)|(simp;omega)) ?_)))
      exact ⟨([p],D.set b true),⟨hN,by simp [hvp],by simp;omega⟩,by simp;omega,(St.le_slots (by simp only [Ap,Ar,Ao,Aj,Af,Nat.reduceEqDiff,reduceIte,Nat.reduceLT,Nat.reduceLeDiff];simp (disch:=omega) [Af,Ai,Au,Aa] <;> (repeat' apply And.intro) <;> omega) (by simp (disch:=omega) [Az,A3,Aw,Am,Af,Ai,Au,Aa]) (by simp [Ay]))⟩
     | some q =>
      have hgl:(Bd S)[S.length - 1]? = some [.str q.1]:=by
       rw [List.getLast?_eq_getElem?] at hg
       simp [Bd,hg]
      have hgl2:((S.length:Int) - 1).toNat=S.length - 1:=by omega
      have hSp:0<S.length:=by cases S with
       | nil=>simp at hg
       | cons a S=>simp
      have c8:((0:Int)<(S.length:Int))=True:=eq_true (by omega)
      by_cases hqp:q.1=p.1
      ·have hbq:(q.1 == p.1)=true:=by rw [hqp];simp
       have hOK:M3 l=false:=by
        unfold M3
        rw [decide_eq_false_iff_not]
        exact fun h=>hP.twice hp hDb hg hqp h.2
       (refine Ae hm _ _ _ ?_;simp only [go_sem,Nat.reduceLT,Nat.reduceEqDiff,Int.reduceNeg,↓reduceIte,reduceCtorEq,A9,c2])
       (repeat' (first | (refine And.intro (by first | omega | (simp;done)|(simp;omega)) ?_)))
       refine Ah hm (by rfl) (by kernel_rfl) ?_
       simp only [go_sem,Nat.reduceLT,Nat.reduceEqDiff,↓reduceIte,reduceCtorEq,hgn]
       refine Det.useQ (Cn p.1 (hs p hpm)) ?_
       simp only [go_sem,Nat.reduceLT,Nat.reduceEqDiff,↓reduceIte,reduceCtorEq,hgn,w1,hgl,hgl2,hvp,c8,hbq]
       (repeat' (first | (refine And.intro (by first | omega | (simp;done)|(simp;omega)) ?_)))
       unfold objR
       rw [hOK];simp
      ·have hbq:(q.1 == p.1)=false:=by simpa using hqp
       have hN:=hP.next hp hDb hmm (fun q' hq=>by rw [hg] at hq;cases hq;exact hqp)
       (refine Ae hm _ _ _ ?_;simp only [go_sem,Nat.reduceLT,Nat.reduceEqDiff,Int.reduceNeg,↓reduceIte,reduceCtorEq,A9,c2])
       (repeat' (first | (refine And.intro (by first | omega | (simp;done)|(simp;omega)) ?_)))
       refine Ah hm (by rfl) (by kernel_rfl) ?_
       simp only [go_sem,Nat.reduceLT,Nat.reduceEqDiff,↓reduceIte,reduceCtorEq,hgn]
       refine Det.useQ (Cn p.1 (hs p hpm)) ?_
       simp only [go_sem,Nat.reduceLT,Nat.reduceLeDiff,Nat.reduceEqDiff,Nat.reduceMul,↓reduceIte,reduceCtorEq,A9,A5,hgn,hgp,hgD,hbs,hpn,hpp,w1,hgl,hgl2,hvp,c8,hbq]
       (repeat' (first | (refine And.intro (by first | omega | (simp;done)|(simp;omega)) ?_)))
       refine ⟨(S ++ [p],D.set b true),⟨hN,fun x hx=>?_,by simp;omega⟩,by simp;omega,(St.le_slots (by simp only [Ap,Ar,Ao,Aj,Af,Nat.reduceEqDiff,reduceIte,Nat.reduceLT,Nat.reduceLeDiff];simp (disch:=omega) [Af,Ai,Au,Aa] <;> (repeat' apply And.intro) <;> omega) (by simp (disch:=omega) [Az,A3,Aw,Am,Af,Ai,Au,Aa]) (by simp [Ay]))⟩
       rcases List.mem_append.1 hx with hx | hx
       ·exact hV x hx
       ·rw [List.mem_singleton] at hx;subst hx;exact hvp
  ·have hin:=Decidable.not_not.1 hin
   have c2:((i:Int)<(l.length:Int))=True:=eq_true (by omega)
   obtain ⟨q,hq⟩:∃ q,l[i]? = some q:=⟨_,List.getElem?_eq_getElem hin⟩
   obtain ⟨f,hf⟩:∃ f,D[i]? = some f:=⟨_,List.getElem?_eq_getElem (by omega)⟩
   have hgn:(Bd l)[i]? = some [.str q.1]:=by simp [Bd,hq]
   have hgD:(J7 D)[i]? = some [.bool f]:=by simp [J7,hf]
   have w1:IntKind.i64.wrap ((i:Int)+((1:Nat):Int))=((i+1:Nat):Int):=by rw [Aa (by omega) (by omega)];omega
   have w1':IntKind.i64.wrap ((i:Int)+1)=((i+1:Nat):Int):=by rw [Aa (by omega) (by omega)];omega
   have hgp:=w1
   have hbs:=w1
   have hpn:=w1
   have hpp:=w1
   have hgl2:=w1'
   have hvp:=w1
   cases f with
   | true =>
    have hgl:=w1
    have c8:=w1
    have hbq:=w1
    (refine Ae hm _ _ _ ?_;simp only [go_sem,Nat.reduceLT,Nat.reduceEqDiff,Int.reduceNeg,↓reduceIte,reduceCtorEq,A9,c2])
    (repeat' (first | (refine And.intro (by first | omega | (simp;done)|(simp;omega)) ?_)))
    refine Ah hm (by rfl) (by kernel_rfl) ?_
    simp only [go_sem,Nat.reduceLT,Nat.reduceEqDiff,Int.reduceNeg,↓reduceIte,reduceCtorEq,c2,hgD,hgl2]
    (repeat' (first | (refine And.intro (by first | omega | (simp;done)|(simp;omega)) ?_)))
    refine ⟨(i+1,z),⟨by simp only;omega,?_⟩,by simp only;omega,(St.le_slots (by simp only [Ap,Ar,Ao,Aj,Af,Nat.reduceEqDiff,reduceIte,Nat.reduceLT,Nat.reduceLeDiff];simp (disch:=omega) [Af,Ai,Au,Aa] <;> (repeat' apply And.intro) <;> omega) (by simp (disch:=omega) [Az,A3,Aw,Am,Af,Ai,Au,Aa]) (by simp [Ay]))⟩
    simp only
    rcases hz with ⟨h1,h2⟩ | ⟨b,h1,h2,h3,p,h4,h5⟩
    ·refine .inl ⟨h1,fun j hj=>?_⟩
     by_cases hji:j=i
     ·subst hji;exact hf
     ·exact h2 j (by omega)
    ·refine .inr ⟨b,h1,by omega,h3,p,h4,fun j r hj hr hd=>?_⟩
     by_cases hji:j=i
     ·subst hji;rw [hf] at hd;cases hd
     ·exact h5 j r (by omega) hr hd
   | false =>
    rcases hz with ⟨rfl,h2⟩ | ⟨b,rfl,h2,h3,p,h4,h5⟩
    ·have hgl:=w1
     have c8:((-1:Int)<0)=True:=by simp
     have hbq:=w1
     (refine Ae hm _ _ _ ?_;simp only [go_sem,Nat.reduceLT,Nat.reduceEqDiff,Int.reduceNeg,↓reduceIte,reduceCtorEq,A9,c2])
     (repeat' (first | (refine And.intro (by first | omega | (simp;done)|(simp;omega)) ?_)))
     refine Ah hm (by rfl) (by kernel_rfl) ?_
     simp only [go_sem,Nat.reduceLT,Nat.reduceEqDiff,Int.reduceNeg,↓reduceIte,reduceCtorEq,c2,hgD,hgl2,c8]
     (repeat' (first | (refine And.intro (by first | omega | (simp;done)|(simp;omega)) ?_)))
     refine ⟨(i+1,i),⟨by simp only;omega,.inr ⟨i,rfl,by simp only;omega,hf,q,hq,fun j r hj hr hd=>?_⟩⟩,by simp only;omega,(St.le_slots (by simp only [Ap,Ar,Ao,Aj,Af,Nat.reduceEqDiff,reduceIte,Nat.reduceLT,Nat.reduceLeDiff];simp (disch:=omega) [Af,Ai,Au,Aa] <;> (repeat' apply And.intro) <;> omega) (by simp (disch:=omega) [Az,A3,Aw,Am,Af,Ai,Au,Aa]) (by simp [Ay]))⟩
     simp only at hj
     by_cases hji:j=i
     ·subst hji;rw [hq] at hr;cases hr;exact E0 _
     ·rw [h2 j (by omega)] at hd;cases hd
    ·have hgl:(Bd l)[b]? = some [.str p.1]:=by simp [Bd,h4]
     have c8:((b:Int)<0)=False:=eq_false (by omega)
     cases hlt2:Op.bytesLess q.1 p.1 with
     | true =>
      have hbq:=hlt2
      (refine Ae hm _ _ _ ?_;simp only [go_sem,Nat.reduceLT,Nat.reduceEqDiff,Int.reduceNeg,↓reduceIte,reduceCtorEq,A9,c2])
      (repeat' (first | (refine And.intro (by first | omega | (simp;done)|(simp;omega)) ?_)))
      refine Ah hm (by rfl) (by kernel_rfl) ?_
      simp only [go_sem,Nat.reduceLT,Nat.reduceEqDiff,Int.reduceNeg,↓reduceIte,reduceCtorEq,c2,hgn,hgD,hgl,hgl2,c8,hbq]
      (repeat' (first | (refine And.intro (by first | omega | (simp;done)|(simp;omega)) ?_)))
      refine ⟨(i+1,i),⟨by simp only;omega,.inr ⟨i,rfl,by simp only;omega,hf,q,hq,fun j r hj hr hd=>?_⟩⟩,by simp only;omega,(St.le_slots (by simp only [Ap,Ar,Ao,Aj,Af,Nat.reduceEqDiff,reduceIte,Nat.reduceLT,Nat.reduceLeDiff];simp (disch:=omega) [Af,Ai,Au,Aa] <;> (repeat' apply And.intro) <;> omega) (by simp (disch:=omega) [Az,A3,Aw,Am,Af,Ai,Au,Aa]) (by simp [Ay]))⟩
      simp only at hj
      by_cases hji:j=i
      ·subst hji;rw [hq] at hr;cases hr;exact E0 _
      ·exact Jg7 (L3 hlt2) (h5 j r (by omega) hr hd)
     | false =>
      have hbq:=hlt2
      (refine Ae hm _ _ _ ?_;simp only [go_sem,Nat.reduceLT,Nat.reduceEqDiff,Int.reduceNeg,↓reduceIte,reduceCtorEq,A9,c2])
      (repeat' (first | (refine And.intro (by first | omega | (simp;done)|(simp;omega)) ?_)))
      refine Ah hm (by rfl) (by kernel_rfl) ?_
      simp only [go_sem,Nat.reduceLT,Nat.reduceEqDiff,Int.reduceNeg,↓reduceIte,reduceCtorEq,c2,hgn,hgD,hgl,hgl2,c8,hbq]
      (repeat' (first | (refine And.intro (by first | omega | (simp;done)|(simp;omega)) ?_)))
      refine ⟨(i+1,b),⟨by simp only;omega,.inr ⟨b,rfl,by simp only;omega,h3,p,h4,fun j r hj hr hd=>?_⟩⟩,by simp only;omega,(St.le_slots (by simp only [Ap,Ar,Ao,Aj,Af,Nat.reduceEqDiff,reduceIte,Nat.reduceLT,Nat.reduceLeDiff];simp (disch:=omega) [Af,Ai,Au,Aa] <;> (repeat' apply And.intro) <;> omega) (by simp (disch:=omega) [Az,A3,Aw,Am,Af,Ai,Au,Aa]) (by simp [Ay]))⟩
      simp only at hj
      by_cases hji:j=i
      ·subst hji;rw [hq] at hr;cases hr;exact hlt2
      ·exact h5 j r (by omega) hr hd
end Go.LX
