/- Alignment, the laws: AlignOnce. -/
import Derived.Test.YtpdaccjebbbbaaaDoorLxU
set_option linter.unusedSimpArgs false
set_option linter.unusedVariables false
set_option linter.unusedSectionVars false
set_option linter.unnecessarySimpa false
set_option maxRecDepth 100000
set_option maxHeartbeats 2000000
namespace Go.LX
open Go Go.RowKit Go.Proofs
attribute [local irreducible] Al SWP Bi
attribute [go_sem] Tryd.ntmps4 Tryd.results4
structure OnceOK (m n:Nat) (l:List Int):Prop where
 len:l.length=n
 rng:∀ e∈l,-1≤e∧e<(m:Int)
 once:∀ (i j:Nat) (k:Nat),l[i]? = some (k:Int)→l[j]? = some (k:Int)→i=j
theorem J4a (old now:List (List Node)):OnceOK old.length now.length (keyP old now):=by
 refine ⟨Jrc old now,fun e he=>?_,fun i j k hi hj=>?_⟩
 ·obtain ⟨i,_,rfl⟩:=List.mem_map.1 he;rcases Juk (old:=old) (now:=now) i with h | ⟨k,h,h2⟩
  ·rw [h];omega
  ·rw [h];omega
 ·have a1:=(List.getElem?_eq_some_iff.1 hi).1;have a2:=(List.getElem?_eq_some_iff.1 hj).1;rw [Jrc] at a1 a2;rw [Jr9 a1] at hi;rw [Jr9 a2] at hj;exact J35 a1 a2 (Option.some.inj hi) (Option.some.inj hj)
theorem Jzj {l:List Int} (h:(l.filter fun e=>decide (0≤e)).Pairwise (· < ·)) {i j:Nat} {x y:Int} (hij:i<j) (hx:l[i]? = some x) (hy:l[j]? = some y) (h0:0≤x) (h1:0≤y):x<y:=by
 have e:l=l.take j ++ l.drop j:=(List.take_append_drop j l).symm;rw [e,List.filter_append,List.pairwise_append] at h;refine h.2.2 x (List.mem_filter.2 ⟨?_,by simpa using h0⟩) y (List.mem_filter.2 ⟨?_,by simpa using h1⟩)
 ·exact List.mem_of_getElem? (i:=i) (by rw [List.getElem?_take,if_pos hij,hx])
 ·exact List.mem_of_getElem? (i:=0) (by rw [List.getElem?_drop,Nat.add_zero,hy])
theorem J2k (old now:List (List Node)):OnceOK old.length now.length (Jqn old now):=by
 have h:=Jqw old now;refine ⟨h.len,h.rng,fun i j k hi hj=>?_⟩;rcases Nat.lt_trichotomy i j with q | q | q
 ·have:=Jzj h.rise q hi hj omg omg;omega
 ·exact q
 ·have:=Jzj h.rise q hj hi omg omg;omega
theorem Jt5 (m:Nat) (l:List Int) (k:Nat):(Jsy m l k).length=m:=by simp [Jsy]
theorem Js3 {m:Nat} {l:List Int} {k j:Nat} (h:j<m):(Jsy m l k)[j]? = some [.bool (decide ((j:Int)∈l.take k))]:=by simp [Jsy,h]
theorem J2g (m:Nat) (l:List Int):Jsy m l 0=List.replicate m [.bool false]:=by
 refine List.ext_getElem? fun j=>?_
 by_cases hj:j<m
 ·rw [Js3 hj,List.getElem?_replicate,if_pos hj];simp
 ·rw [List.getElem?_eq_none (by rw [Jt5];omega),List.getElem?_eq_none (by simp;omega)]
theorem J1s {m:Nat} {l:List Int} {k:Nat} {x:Int} (h:l[k]? = some x) (hx:x<0):Jsy m l (k+1)=Jsy m l k:=by
 unfold Jsy;refine List.map_congr_left fun j _=>?_
 rw [List.take_add_one,h];have:¬ (j:Int)=x:=by omega
 simp [this]
theorem J3l {m:Nat} {l:List Int} {k j:Nat} (h:l[k]? = some (j:Int)) (hj:j<m):(Jsy m l k).set j [.bool true]=Jsy m l (k+1):=by
 refine List.ext_getElem? fun i=>?_
 rw [List.getElem?_set];by_cases hi:i<m
 ·by_cases e:j=i
  ·subst e;rw [if_pos rfl,if_pos (by rw [Jt5];exact hj),Js3 hi,List.take_add_one,h];simp
  ·rw [if_neg e,Js3 hi,Js3 hi,List.take_add_one,h];have:¬ (i:Int)=(j:Int):=by omega
   simp [this]
 ·rw [if_neg omg,List.getElem?_eq_none (by rw [Jt5];omega),List.getElem?_eq_none (by rw [Jt5];omega)]
theorem J4s {m n:Nat} {l:List Int} (ho:OnceOK m n l) {k j:Nat} (h:l[k]? = some (j:Int)):decide ((j:Int)∈l.take k)=false:=by
 refine decide_eq_false fun q=>?_
 obtain ⟨i,hi⟩:=List.getElem?_of_mem q;rw [List.getElem?_take] at hi;split at hi
 ·have:=ho.once i k j hi h;omega
 ·cases hi
theorem J47 (l:List Int) (old now:List (List Node)) (ho:old.length≤100000) (hn:now.length≤100000) (h:OnceOK old.length now.length l):Det cx 18 [.p (.sl (Jqb l)),.p (.sl (Jqe old)),.p (.sl (Jqe now))] [] (.p (.bool true)) []:=by
 have hl:=h.len;have hr0:List.replicate old.length [PV.bool false]=Jsy old.length l 0:=(J2g _ _).symm;(refine bgo Tryd.func18 ?_;simp only [go_sem,simprocAttr,Jqc,Ht,hl,hr0]);(repeat' (first | (refine Jqs ?_) | fail));refine SWP.loop (fun k:Nat=>⟨Ba 64 [(0,.p (.sl (Jqb l))),(1,.p (.sl (Jqe old))),(2,.p (.sl (Jqe now))),(7,.own 16 0 old.length),(8,.p (.int .i64 k))],[(16,.row 4 1 (Jsy old.length l k))]⟩) (fun k=>k≤now.length) (fun k=>now.length - k) 0 Jqd (Nat.zero_le _) ?_;rintro k hk;by_cases hlt:k<now.length
 ·have c1:((k:Int)<(now.length:Int))=True:=eq_true omg;obtain ⟨x,hx⟩:∃ x,l[k]? = some x:=⟨_,List.getElem?_eq_getElem omg⟩
  have g1:=Jqg hx;obtain ⟨r1,r2⟩:=h.rng x (List.mem_of_getElem? hx);have c2:(x < -1)=False:=eq_false omg;have c3:((old.length:Int)≤x)=False:=eq_false omg;have w1:IntKind.i64.wrap ((k:Int)+1)=((k+1:Nat):Int):=wj1 omg;by_cases h0:0≤x
  ·obtain ⟨j,rfl⟩:∃ j:Nat,x=(j:Int):=⟨x.toNat,by omega⟩
   have g2:(Jsy old.length l k)[j]? = some [.bool false]:=by rw [Js3 omg,J4s h hx]
   have hs:=J3l (m:=old.length) hx omg;(refine lws ?_;simp only [go_sem,simprocAttr,Jqc,Ht,hl,c1,g1,c2,c3,w1,g2,hs]);(repeat' (first | (refine Jqs ?_) | fail));exact ⟨k+1,hlt,by omega,Jqd⟩
  ·have c4:(0≤x)=False:=eq_false h0;have hs:=J1s (m:=old.length) hx omg;(refine lws ?_;simp only [go_sem,simprocAttr,Jqc,Ht,hl,c1,g1,c2,c3,w1,c4]);exact ⟨k+1,hlt,by omega,by rw [hs];exact Jqd⟩
 ·have c1:((k:Int)<(now.length:Int))=False:=eq_false omg;(refine lws ?_;simp only [go_sem,simprocAttr,Jqc,hl,c1])
  skip
theorem J45 {α:Type} [DecidableEq α] (old now:List α) (y:α):metK old now y now.length=min (cntD y old) (cntD y now):=by
 have:=J1f (old:=old) (now:=now) (y:=y) now.length (Nat.le_refl _);rw [List.take_length] at this;exact this
theorem J2q {α:Type} [DecidableEq α] (old now:List α) (y:α) (k:Nat):metK old now y k≤k:=by
 unfold metK;have:=List.length_filter_le (fun i=>decide (0≤keyE old now i∧now[i]? = some y)) (List.range k);rw [List.length_range] at this;exact this
theorem J05 (old now:List (List Node)) (ho:ValsFit old) (hn:ValsFit now):Det cx 4 [.p (.sl (Jqe old)),.p (.sl (Jqe now))] [] (.p (.bool true)) []:=by
 have hG:=Jt4 old now ho hn;cases hb:(allB old 60 && allB now 60) with
 | false =>
  rw [hb] at hG;(refine bgo Tryd.func4 ?_;simp only [go_sem,simprocAttr]);(repeat' (first | ((first | (refine Jqa (hG) ?_)|(refine Jqa (Jqr) ?_));simp only [go_sem,simprocAttr]) | fail))
 | true =>
  rw [hb] at hG;rw [Bool.and_eq_true] at hb;obtain ⟨ts,a⟩:=Jq6 ho hb.1;obtain ⟨us,b⟩:=Jq6 hn hb.2;have hvo:∀ v∈old,v.length≤1000000:=fun v h=>by have:=a.each v h;omega
  have hvn:∀ v∈now,v.length≤1000000:=fun v h=>by have:=b.each v h;omega
  have l1:=a.n;have l2:=b.n;have hK:=Jt2 ts us (by have:=a.m;omega) (by have:=b.m;omega) a.ok b.ok;rw [← a.eq,← b.eq] at hK;have hO:=Jr1 old now omg omg hvo hvn;have e1:=Jrc old now;have e2:=(Jqw old now).len;have o1:=J47 (keyP old now) old now omg omg (J4a old now);have o2:=J47 (Jqn old now) old now omg omg (J2k old now);(refine bgo Tryd.func4 ?_;simp only [go_sem,simprocAttr]);(repeat' (first | ((first | (refine Jqa (hG) ?_)|(refine Jqa (hK) ?_)|(refine Jqa (hO) ?_)|(refine Jqa (o1) ?_)|(refine Jqa (o2) ?_));simp only [go_sem,simprocAttr]) | fail));refine SWP.loop (fun x:Nat×Int=>⟨Ba 130 [(0,.p (.sl (Jqe old))),(1,.p (.sl (Jqe now))),(5,.p (.sl (Jqb (keyP old now)))),(6,.p (.sl (Jqb (Jqn old now)))),(7,.p (.int .i64 x.2)),(8,.p (.int .i64 x.1))],[]⟩) (fun x=>x.1≤now.length∧-1≤x.2∧(x.2 = -1∨∃ j,j<x.1∧(Jqn old now)[j]? = some x.2)) (fun x=>now.length - x.1) (0,-1) Jqd ⟨Nat.zero_le _,by simp only;omega,.inl rfl⟩ ?_;rintro ⟨i,m⟩ ⟨i1,i2,i3⟩;simp only at i1 i2 i3;by_cases hi:i<now.length
  ·have c1:((i:Int)<(now.length:Int))=True:=eq_true omg;obtain ⟨e,he⟩:∃ e,(Jqn old now)[i]? = some e:=⟨_,List.getElem?_eq_getElem omg⟩
   have g1:=Jqg he;have w1:IntKind.i64.wrap ((i:Int)+1)=((i+1:Nat):Int):=wj1 omg;have hnx:-1≤max m e∧(max m e = -1∨∃ j,j<i+1∧(Jqn old now)[j]? = some (max m e)):=by
    refine ⟨by omega,?_⟩;by_cases hme:m≤e
    ·rw [show max m e=e by omega];exact .inr ⟨i,by omega,he⟩
    ·rw [show max m e=m by omega];rcases i3 with h | ⟨j,h1,h2⟩
     ·exact .inl h
     ·exact .inr ⟨j,by omega,h2⟩
   by_cases h0:0≤e
   ·have c2:(0≤e)=True:=eq_true h0;have c3:(e≤m)=False:=eq_false (by
     rcases i3 with h | ⟨j,h1,h2⟩
     ·omega
     ·by_cases hm0:0≤m
      ·have:=Jzj (Jqw old now).rise h1 h2 he hm0 h0;omega
      ·omega)
    (refine lws ?_;simp only [go_sem,simprocAttr,Jqc,e2,c1,g1,w1,c2,c3]);exact ⟨(i+1,max m e),⟨hi,hnx.1,hnx.2⟩,by simp only;omega,Jqd⟩
   ·have c2:(0≤e)=False:=eq_false h0;(refine lws ?_;simp only [go_sem,simprocAttr,Jqc,e2,c1,g1,w1,c2]);exact ⟨(i+1,max m e),⟨hi,hnx.1,hnx.2⟩,by simp only;omega,Jqd⟩
  ·have c1:((i:Int)<(now.length:Int))=False:=eq_false omg;(refine lws ?_;simp only [go_sem,simprocAttr,Jqc,e2,c1]);refine SWP.loop (fun i:Nat=>⟨Ba 130 [(0,.p (.sl (Jqe old))),(1,.p (.sl (Jqe now))),(5,.p (.sl (Jqb (keyP old now)))),(9,.p (.int .i64 i))],[]⟩) (fun i=>i≤now.length) (fun i=>now.length - i) 0 Jqd (Nat.zero_le _) ?_;clear i1 i2 i3 hi c1;rintro i i1;by_cases hi:i<now.length
   ·have c1:((i:Int)<(now.length:Int))=True:=eq_true omg;obtain ⟨y,hy⟩:∃ y,now[i]? = some y:=⟨_,List.getElem?_eq_getElem hi⟩
    have hyl:=hvn y (List.mem_of_getElem? hy);have g1:=Jqj hy;have g2:=Jqg (Jr9 (old:=old) hi);have w1:IntKind.i64.wrap ((i:Int)+1)=((i+1:Nat):Int):=wj1 omg;have hm1:=J2i old y omg hvo hyl;have hm2:=J2i now y omg hvn hyl;have hall:=J45 old now y;have hmin:min ((cntD y old:Nat):Int) ((cntD y now:Nat):Int)=((metK old now y now.length:Nat):Int):=by rw [hall];omega
    have hS0:=E2 y y hyl hyl;rw [decide_eq_true rfl] at hS0;rcases Juk (old:=old) (now:=now) i with hk | ⟨k,hk,hk2⟩
    ·rw [hk] at g2;(refine lws ?_;simp only [go_sem,simprocAttr,Jqc,e1,c1,c1]);(repeat' (first | ((first | (refine Jqy ?_)|(refine Jqh (hm1) ?_)|(refine Jqh (hm2) ?_));simp only [go_sem,simprocAttr,g1,g2]) | fail));refine SWP.loop (fun j:Nat=>⟨Ba 130 [(0,.p (.sl (Jqe old))),(1,.p (.sl (Jqe now))),(5,.p (.sl (Jqb (keyP old now)))),(9,.p (.int .i64 i)),(10,.p (.int .i64 (cntD y old:Nat))),(11,.p (.int .i64 (cntD y now:Nat))),(12,.p (.int .i64 (metK old now y j:Nat))),(13,.p (.int .i64 j))],[]⟩) (fun j=>j≤now.length) (fun j=>now.length - j) 0 (by rw [show metK old now y 0=0 from rfl];exact Jqd) (Nat.zero_le _) ?_;rintro j j1;by_cases hj:j<now.length
     ·have d1:((j:Int)<(now.length:Int))=True:=eq_true omg;obtain ⟨z,hz⟩:∃ z,now[j]? = some z:=⟨_,List.getElem?_eq_getElem hj⟩
      have q1:=Jqj hz;have q2:=Jqg (Jr9 (old:=old) hj);have w2:IntKind.i64.wrap ((j:Int)+1)=((j+1:Nat):Int):=wj1 omg;have hml:=J2q old now y j;have w3:IntKind.i64.wrap (((metK old now y j:Nat):Int)+1)=((metK old now y j+1:Nat):Int):=wj1 omg;have hms:=Jvr old now y j;have hSz:=E2 z y (hvn z (List.mem_of_getElem? hz)) hyl;by_cases hk0:0≤keyE old now j
      ·have d2:(0≤keyE old now j)=True:=eq_true hk0;(refine lws ?_;simp only [go_sem,simprocAttr,Jqc,e1,d1]);(repeat' (first | (apply iteI <;> intro h)|((first | (refine Jqy ?_)|(refine Jqh (hSz) ?_));simp only [go_sem,simprocAttr,g1,q1,q2,w2,w3,d2,g1]) | fail))
       ·rw [if_pos ⟨hk0,by rw [hz,show z=y by assumption]⟩] at hms;exact ⟨j+1,hj,by omega,by rw [hms];exact Jqd⟩
       ·rw [if_neg (fun q=>(show ¬ z=y by assumption) (by rw [hz] at q;exact Option.some.inj q.2))] at hms;exact ⟨j+1,hj,by omega,by rw [hms];exact Jqd⟩
      ·have d2:(0≤keyE old now j)=False:=eq_false hk0;(refine lws ?_;simp only [go_sem,simprocAttr,Jqc,e1,d1]);(repeat' (first | ((refine Jqy ?_);simp only [go_sem,simprocAttr,q2,w2,d2]) | fail));rw [if_neg (fun q=>hk0 q.1)] at hms;exact ⟨j+1,hj,by omega,by rw [hms];exact Jqd⟩
     ·have d1:((j:Int)<(now.length:Int))=False:=eq_false omg;have hjn:j=now.length:=by omega
      subst hjn;(refine lws ?_;simp only [go_sem,simprocAttr,Jqc,e1,w1,d1,hmin]);exact ⟨i+1,hi,by omega,Jqd⟩
    ·rw [hk] at g2;have g3:=Jqj ((Jtv hy).1 hk).1;(refine lws ?_;simp only [go_sem,simprocAttr,Jqc,e1,c1,c1]);(repeat' (first | ((first | (refine Jqy ?_)|(refine Jqh (hm1) ?_)|(refine Jqh (hm2) ?_)|(refine Jqh (hS0) ?_));simp only [go_sem,simprocAttr,g1,g2,g3]) | fail));refine SWP.loop (fun j:Nat=>⟨Ba 130 [(0,.p (.sl (Jqe old))),(1,.p (.sl (Jqe now))),(5,.p (.sl (Jqb (keyP old now)))),(9,.p (.int .i64 i)),(10,.p (.int .i64 (cntD y old:Nat))),(11,.p (.int .i64 (cntD y now:Nat))),(12,.p (.int .i64 (metK old now y j:Nat))),(13,.p (.int .i64 j))],[]⟩) (fun j=>j≤now.length) (fun j=>now.length - j) 0 (by rw [show metK old now y 0=0 from rfl];exact Jqd) (Nat.zero_le _) ?_;rintro j j1;by_cases hj:j<now.length
     ·have d1:((j:Int)<(now.length:Int))=True:=eq_true omg;obtain ⟨z,hz⟩:∃ z,now[j]? = some z:=⟨_,List.getElem?_eq_getElem hj⟩
      have q1:=Jqj hz;have q2:=Jqg (Jr9 (old:=old) hj);have w2:IntKind.i64.wrap ((j:Int)+1)=((j+1:Nat):Int):=wj1 omg;have hml:=J2q old now y j;have w3:IntKind.i64.wrap (((metK old now y j:Nat):Int)+1)=((metK old now y j+1:Nat):Int):=wj1 omg;have hms:=Jvr old now y j;have hSz:=E2 z y (hvn z (List.mem_of_getElem? hz)) hyl;by_cases hk0:0≤keyE old now j
      ·have d2:(0≤keyE old now j)=True:=eq_true hk0;(refine lws ?_;simp only [go_sem,simprocAttr,Jqc,e1,d1]);(repeat' (first | (apply iteI <;> intro h)|((first | (refine Jqy ?_)|(refine Jqh (hSz) ?_));simp only [go_sem,simprocAttr,g1,q1,q2,w2,w3,d2,g1]) | fail))
       ·rw [if_pos ⟨hk0,by rw [hz,show z=y by assumption]⟩] at hms;exact ⟨j+1,hj,by omega,by rw [hms];exact Jqd⟩
       ·rw [if_neg (fun q=>(show ¬ z=y by assumption) (by rw [hz] at q;exact Option.some.inj q.2))] at hms;exact ⟨j+1,hj,by omega,by rw [hms];exact Jqd⟩
      ·have d2:(0≤keyE old now j)=False:=eq_false hk0;(refine lws ?_;simp only [go_sem,simprocAttr,Jqc,e1,d1]);(repeat' (first | ((refine Jqy ?_);simp only [go_sem,simprocAttr,q2,w2,d2]) | fail));rw [if_neg (fun q=>hk0 q.1)] at hms;exact ⟨j+1,hj,by omega,by rw [hms];exact Jqd⟩
     ·have d1:((j:Int)<(now.length:Int))=False:=eq_false omg;have hjn:j=now.length:=by omega
      subst hjn;(refine lws ?_;simp only [go_sem,simprocAttr,Jqc,e1,w1,d1,hmin]);exact ⟨i+1,hi,by omega,Jqd⟩
   ·have c1:((i:Int)<(now.length:Int))=False:=eq_false omg;(refine lws ?_;simp only [go_sem,simprocAttr,Jqc,e1,c1,c1]);(repeat' (first | ((refine Jqa (Jqr) ?_);simp only [go_sem,simprocAttr]) | fail))
end Go.LX
