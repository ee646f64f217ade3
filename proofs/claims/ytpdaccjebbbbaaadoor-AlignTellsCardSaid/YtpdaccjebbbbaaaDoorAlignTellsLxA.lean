/- Alignment, the document: by keys. -/
import Derived.Test.YtpdaccjebbbbaaaDoorLxS
import Derived.Test.YtpdaccjebbbbaaaDoorLxU
set_option linter.unusedSimpArgs false
set_option linter.unusedVariables false
set_option linter.unusedSectionVars false
set_option linter.unnecessarySimpa false
set_option maxRecDepth 100000
set_option maxHeartbeats 2000000
namespace Go.LX
open Go Go.RowKit Go.Proofs
attribute [local irreducible] Al SWP Bi
attribute [go_sem] Tryd.ntmps13 Tryd.results13
section
variable {α:Type} [DecidableEq α]
theorem Jxr (y x:α):∀ (l:List α) (r o:Nat),occ y (l ++ [x]) r o=if x=y∧cntD y l=r then some (o+l.length) else occ y l r o
 | [],r,o=>by
  rw [List.nil_append,Jr7,Jtr];simp only [Jws];by_cases h:x=y
  ·by_cases hr:r=0
   ·subst hr;simp [h]
   ·rw [if_pos h,if_neg hr,if_neg (fun q=>hr q.2.symm)]
  ·rw [if_neg h,if_neg (fun q=>h q.1)]
 | z :: l,r,o=>by
  rw [List.cons_append,Jr7,Jr7,Jsk,Jxr y x l,Jxr y x l,List.length_cons];by_cases h:z=y
  ·rw [if_pos h,if_pos h,if_pos h];by_cases hr:r=0
   ·subst hr;rw [if_pos rfl,if_pos rfl,if_neg (fun q=>by omega)]
   ·rw [if_neg hr,if_neg hr];by_cases hx:x=y
    ·by_cases hc:cntD y l=r - 1
     ·rw [if_pos ⟨hx,hc⟩,if_pos ⟨hx,by omega⟩];congr 1;omega
     ·rw [if_neg (fun q=>hc q.2),if_neg (fun q=>hc omg)]
    ·rw [if_neg (fun q=>hx q.1),if_neg (fun q=>hx q.1)]
  ·rw [if_neg h,if_neg h,if_neg h];simp only [Nat.add_zero];by_cases hx:x=y∧cntD y l=r
   ·rw [if_pos hx,if_pos hx];congr 1;omega
   ·rw [if_neg hx,if_neg hx]
def upE (y:α) (l:List α) (r:Nat):Int:=match occ y l r 0 with
 | some k=>(k:Int)
 | none=>-1
theorem J6n (y:α) (r:Nat):upE y [] r = -1:=rfl
theorem J4n {y x:α} {l:List α} {i r:Nat} (h:l[i]? = some x):upE y (l.take (i+1)) r=if x=y∧cntD y (l.take i)=r then (i:Int) else upE y (l.take i) r:=by
 have hi:=(List.getElem?_eq_some_iff.1 h).1;unfold upE;rw [List.take_add_one,h,Option.toList_some,Jxr];by_cases hc:x=y∧cntD y (l.take i)=r
 ·rw [if_pos hc,if_pos hc,List.length_take,Nat.min_eq_left omg];simp
 ·rw [if_neg hc,if_neg hc]
theorem J51 {old now:List α} {i:Nat} {y:α} (h:now[i]? = some y):upE y old (cntD y (now.take i))=keyE old now i:=by
 unfold upE keyE cntD;rw [h];rfl
end
theorem J19 (old now:List (List Node)) (ho:old.length≤100000) (hn:now.length≤100000) (hvo:∀ v∈old,v.length≤1000000) (hvn:∀ v∈now,v.length≤1000000):Det cx 13 [.p (.sl (Jqe old)),.p (.sl (Jqe now))] [] (.p (.sl (Jqb (keyP old now)))) []:=by
 (refine bgo Tryd.func13 ?_;simp only [go_sem,simprocAttr]);refine Jq8 (B1 [(9,44)] _ sm) ?_;simp only [go_sem,simprocAttr];refine SWP.loop (fun i:Nat=>⟨Ba 46 [(0,.p (.sl (Jqe old))),(1,.p (.sl (Jqe now))),(5,.own 44 0 i),(6,.p (.int .i64 i))],[(44,.row 3 1 (Jqb ((keyP old now).take i)))]⟩) (fun i=>i≤now.length) (fun i=>now.length - i) 0 (by rw [List.take_zero,show Jqb []=[] from rfl];exact Jqd) (Nat.zero_le _) ?_;rintro i h1;have hkl:=Jrc old now;by_cases hi:¬ i<now.length
 ·have c1:((i:Int)<(now.length:Int))=False:=eq_false omg;obtain rfl:i=now.length:=by omega
  have ht:(keyP old now).take now.length=keyP old now:=List.take_of_length_le omg;have hle:(now.length≤(Jqb (keyP old now)).length)=True:=eq_true (by rw [Jqc,hkl];exact Nat.le_refl _);have ht2:(Jqb (keyP old now)).take now.length=Jqb (keyP old now):=List.take_of_length_le (by rw [Jqc,hkl];exact Nat.le_refl _);(refine lws ?_;simp only [go_sem,simprocAttr,Ht,c1,ht,hle,ht2])
  skip
 ·have hi:=Decidable.not_not.1 hi;have c1:((i:Int)<(now.length:Int))=True:=eq_true omg;obtain ⟨y,hy⟩:∃ y,now[i]? = some y:=⟨_,List.getElem?_eq_getElem hi⟩
  have g1:=Jqj hy;have hyl:=hvn y (List.mem_of_getElem? hy);have hA:=J2v now i y hy hn hvn;have w1:IntKind.i64.wrap ((i:Int)+1)=((i+1:Nat):Int):=wj1 omg;(refine lws ?_;simp only [go_sem,simprocAttr,Ht,c1]);refine SWP.loop (fun k:Nat=>⟨Ba 46 [(0,.p (.sl (Jqe old))),(1,.p (.sl (Jqe now))),(5,.own 44 0 i),(6,.p (.int .i64 i)),(7,.p (.int .i64 (upE y (old.take k) (cntD y (now.take i))))),(8,.p (.int .i64 k))],[(44,.row 3 1 (Jqb ((keyP old now).take i)))]⟩) (fun k=>k≤old.length) (fun k=>old.length - k) 0 (by simp only [List.take_zero,J6n];exact Jqd) (Nat.zero_le _) ?_;rintro k h2;by_cases hk:¬ k<old.length
  ·have c2:((k:Int)<(old.length:Int))=False:=eq_false omg;have ht:old.take k=old:=List.take_of_length_le omg;have hE:=J51 (old:=old) hy;have hil:(Jqb ((keyP old now).take i)).length=i:=by rw [Jqc,List.length_take];omega
   have hst:Jqb ((keyP old now).take i) ++ [[.int .i64 (keyE old now i)]]=Jqb ((keyP old now).take (i+1)):=by rw [Jyb hi,Jrf];rfl
   (refine lws ?_;simp only [go_sem,simprocAttr,Ht,w1,c2,ht,hE,hil]);(repeat' (first | (refine And.intro (by first | (simp;done)|(simp;omega)) ?_)|(refine Jqs ?_) | fail));exact ⟨i+1,hi,by omega,by rw [← hst];exact Jqd⟩
  ·have hk:=Decidable.not_not.1 hk;have c2:((k:Int)<(old.length:Int))=True:=eq_true omg;obtain ⟨x,hx⟩:∃ x,old[k]? = some x:=⟨_,List.getElem?_eq_getElem hk⟩
   have g2:=Jqj hx;have hS:=E2 x y (hvo x (List.mem_of_getElem? hx)) hyl;have hB:=J2v old k x hx ho hvo;have hu:=J4n (y:=y) (r:=cntD y (now.take i)) hx;have w2:IntKind.i64.wrap ((k:Int)+1)=((k+1:Nat):Int):=wj1 omg;(refine lws ?_;simp only [go_sem,simprocAttr,Ht,c2]);(repeat' (first | (apply iteI <;> intro h)|((first | (refine Jqy ?_)|(refine Jqh (hS) ?_)|(refine Jqh (hA) ?_)|(refine Jqh (hB) ?_));simp only [go_sem,simprocAttr,g1,g2,w2]) | fail))
   ·have hxy:=(show x=y by assumption)
    subst hxy;have hc:=(show ((cntD x (old.take k):Nat):Int)=((cntD x (now.take i):Nat):Int) by assumption)
    rw [if_pos ⟨rfl,by omega⟩] at hu;exact ⟨k+1,hk,by omega,by rw [hu];exact Jqd⟩
   ·have hxy:=(show x=y by assumption)
    subst hxy;have hc:=(show ¬ ((cntD x (old.take k):Nat):Int)=((cntD x (now.take i):Nat):Int) by assumption)
    rw [if_neg (fun q=>hc omg)] at hu;exact ⟨k+1,hk,by omega,by rw [hu];exact Jqd⟩
   ·rw [if_neg (fun q=>(show ¬ x=y by assumption) q.1)] at hu;exact ⟨k+1,hk,by omega,by rw [hu];exact Jqd⟩
attribute [go_sem] Tryd.ntmps3 Tryd.results3
theorem Jzo (old now:List (List Node)) (ho:old.length≤100000) (hn:now.length≤100000) (hvo:∀ v∈old,v.length≤1000000) (hvn:∀ v∈now,v.length≤1000000):Det cx 17 [.p (.sl (Jqe old)),.p (.sl (Jqe now))] [] (.p (.int .i64 (lcsP old now))) []:=by
 have hT:=Jxm old now ho hn hvo hvn;have g1:(tabL old now)[0]? = some [.sl (Jqb (rowK old now 0 0))]:=Jsn (Nat.zero_le _);have g2:(Jqb (rowK old now 0 0))[0]? = some [.int .i64 (Jqk old now 0 0)]:=Jqg (Jq2 (Nat.le_refl _) (Nat.zero_le _));have e0:Jqk old now 0 0=lcsP old now:=by unfold Jqk;rw [List.drop_zero,List.drop_zero]
 rw [e0] at g2;(refine bgo Tryd.func17 ?_;simp only [go_sem,simprocAttr]);(repeat' (first | ((refine Jqa (hT) ?_);simp only [go_sem,simprocAttr,g1,g2]) | fail))
theorem Jy4 {l:List Int} {n:Nat} (hn:n≤l.length) (h1:∀ e∈l.drop n,e<0) (h2:n=0∨∃ a,l[n - 1]? = some a∧0≤a):Jv2 l=n:=by
 have e:l.reverse=(l.drop n).reverse ++ (l.take n).reverse:=by rw [← List.reverse_append,List.take_append_drop]
 unfold Jv2;rw [e,List.takeWhile_append_of_pos (by intro x hx;have:=h1 x (List.mem_reverse.1 hx);simpa using this)];have e2:((l.take n).reverse.takeWhile fun e=>decide (e<0))=[]:=by
  rcases h2 with rfl | ⟨a,ha,h0⟩
  ·simp
  ·by_cases hz:n=0
   ·subst hz;simp
   ·have e3:l.take n=l.take (n - 1) ++ [a]:=by
     have:n=n - 1+1:=by omega
     rw [this,List.take_add_one,Nat.add_sub_cancel,ha];rfl
    rw [e3,List.reverse_append,List.reverse_singleton,List.singleton_append,List.takeWhile_cons_of_neg (by simp;omega)]
 rw [e2,List.append_nil,List.length_reverse,List.length_drop];omega
theorem Jy0 (l:List Int) (n left:Nat):parR l n left 0=l:=by simp [parR]
theorem J0v {l:List Int} {n left j:Nat} (h:n+j≤l.length):(parR l n left j).length=l.length:=by simp [parR];omega
theorem J0e {l:List Int} {n left j:Nat} (h:n+j<l.length):(parR l n left j).set (n+j) ((left+j:Nat):Int)=parR l n left (j+1):=by
 have hl:(l.take n ++ ((List.range j).map fun i=>((left+i:Nat):Int))).length=n+j:=by simp;omega
 unfold parR;rw [List.set_append_right _ _ (by rw [hl];exact Nat.le_refl _),hl,Nat.sub_self,List.drop_eq_getElem_cons h,List.set_cons_zero,List.range_succ,List.map_append,← Nat.add_assoc];simp
theorem J1i {l:List Int} {n left en j:Nat} (hm:∀ e∈l,-1≤e) (hneg:∀ e∈l.drop n,e<0) (h:n+j≤l.length) (hj:j=0∨left+j≤en) (he:n+j=l.length∨en≤left+j):parR l n left j=l.take n ++ Jqo (l.length - n) left en:=by
 unfold parR;rw [List.append_assoc];congr 1;refine List.ext_getElem? fun i=>?_
 by_cases hi:i<l.length - n
 ·rw [Jy6 hi];by_cases hij:i<j
  ·rw [List.getElem?_append_left (by simp;omega),List.getElem?_map,List.getElem?_range hij,if_pos omg];rfl
  ·rw [List.getElem?_append_right (by simp;omega),if_neg omg];simp only [List.length_map,List.length_range,List.getElem?_drop];have hx:n+j+(i - j)=n+i:=by omega
   rw [hx];obtain ⟨x,hx⟩:∃ x,l[n+i]? = some x:=⟨_,List.getElem?_eq_getElem omg⟩
   have m1:=hm x (List.mem_of_getElem? hx);have m2:x<0:=hneg x (List.mem_of_getElem? (i:=i) (by rw [List.getElem?_drop,hx]));rw [hx];congr 1;omega
 ·rw [List.getElem?_eq_none (by simp;omega),List.getElem?_eq_none (by rw [Jq3];omega)]
theorem J0z (l:List Int) (left en:Nat) (hl:l.length≤100000) (hm:∀ e∈l,-1≤e) (h1:left≤1000000) (h2:en≤1000000):Det cx 30 [.p (.sl (Jqb l)),.p (.int .i64 left),.p (.int .i64 en)] [] (.own 900 0 l.length) [(900,.row 3 1 (Jqb (Jsq l left en)))]:=by
 (refine bgoR true [(12,900)] Tryd.func30 ?_;simp only [go_sem,simprocAttr,Jqc]);(repeat' (first | (refine And.intro (by first | exact Jrh _ | (simp;done)|(simp;omega)) ?_)|(refine Jqs ?_) | fail));refine SWP.loop (fun n:Nat=>⟨Ba 51 [(1,.p (.int .i64 left)),(2,.p (.int .i64 en)),(7,.own 12 0 l.length),(8,.p (.int .i64 n))],[(12,.row 3 1 (Jqb l))]⟩) (fun n=>n≤l.length∧∀ e∈l.drop n,e<0) (fun n=>n) l.length Jqd ⟨Nat.le_refl _,by simp⟩ ?_;rintro n ⟨n1,n2⟩;by_cases hz:n=0
 ·have hend:=Jy4 n1 n2 (.inl hz);have c1:((0:Int)<(n:Int))=False:=eq_false omg;(refine lws ?_;simp only [go_sem,simprocAttr,c1]);refine SWP.loop (fun j:Nat=>⟨Ba 51 [(1,.p (.int .i64 left)),(2,.p (.int .i64 en)),(7,.own 12 0 l.length),(8,.p (.int .i64 n)),(9,.p (.int .i64 j))],[(12,.row 3 1 (Jqb (parR l n left j)))]⟩) (fun j=>n+j≤l.length∧(j=0∨left+j≤en)) (fun j=>l.length - j) 0 (by rw [Jy0];exact Jqd) ⟨n1,.inl rfl⟩ ?_;rintro j ⟨j1,j2⟩;have w3:IntKind.i64.wrap (((n:Nat):Int)+(j:Int))=((n+j:Nat):Int):=Aa omg omg;have w4:IntKind.i64.wrap ((left:Int)+(j:Int))=((left+j:Nat):Int):=Aa omg omg;have w5:IntKind.i64.wrap ((j:Int)+1)=((j+1:Nat):Int):=wj1 omg;have hpl:=J0v (left:=left) j1;by_cases hgo:n+j<l.length∧left+j<en
  ·have c3:(((n+j:Nat):Int)<(l.length:Int))=True:=eq_true omg;have c4:(((left+j:Nat):Int)<(en:Int))=True:=eq_true omg;have hset:(Jqb (parR l n left j)).set (n+j) [.int .i64 ((left+j:Nat):Int)]=Jqb (parR l n left (j+1)):=by rw [Jrg,J0e hgo.1]
   obtain ⟨q,hq⟩:∃ q,(parR l n left j)[n+j]? = some q:=⟨_,List.getElem?_eq_getElem (by rw [hpl];exact hgo.1)⟩
   have gq:=Jqg hq;(refine lws ?_;simp only [go_sem,simprocAttr,w3,w4,w5,c3,c4,hset,gq]);exact ⟨j+1,⟨by omega,.inr omg⟩,by omega,Jqd⟩
  ·have hpe:parR l n left j=Jsq l left en:=by
    rw [J1i hm n2 j1 j2 omg];unfold Jsq;rw [hend]
   by_cases hlt:n+j<l.length
   ·have c3:(((n+j:Nat):Int)<(l.length:Int))=True:=eq_true omg;have c4:(((left+j:Nat):Int)<(en:Int))=False:=eq_false omg;(refine lws ?_;simp only [go_sem,simprocAttr,w3,w4,c3,c4,hpe])
    skip
   ·have c3:(((n+j:Nat):Int)<(l.length:Int))=False:=eq_false omg;(refine lws ?_;simp only [go_sem,simprocAttr,w3,c3,hpe])
    skip
 ·have c1:((0:Int)<(n:Int))=True:=eq_true omg;obtain ⟨a,ha⟩:∃ a,l[n - 1]? = some a:=⟨_,List.getElem?_eq_getElem omg⟩
  have w1:IntKind.i64.wrap ((n:Int) - 1)=((n - 1:Nat):Int):=by rw [Aa omg omg];omega
  have g1:=Jqg ha;by_cases h0:a<0
  ·have c2:(a<0)=True:=eq_true h0;(refine lws ?_;simp only [go_sem,simprocAttr,c1,w1,g1,c2]);(repeat' (first | (refine Jqs ?_) | fail));refine ⟨n - 1,⟨by omega,fun e he=>?_⟩,by omega,Jqd⟩;rw [List.drop_eq_getElem_cons omg,List.mem_cons,show n - 1+1=n by omega] at he;rcases he with rfl | he
   ·have h9:=List.getElem?_eq_some_iff.1 ha;obtain ⟨_,h9⟩:=h9;rw [h9];exact h0
   ·exact n2 e he
  ·have c2:(a<0)=False:=eq_false h0;have hend:=Jy4 n1 n2 (.inr ⟨a,ha,by omega⟩);(refine lws ?_;simp only [go_sem,simprocAttr,c1,w1,g1,c2]);(repeat' (first | (refine Jqs ?_) | fail));refine SWP.loop (fun j:Nat=>⟨Ba 51 [(1,.p (.int .i64 left)),(2,.p (.int .i64 en)),(7,.own 12 0 l.length),(8,.p (.int .i64 n)),(9,.p (.int .i64 j))],[(12,.row 3 1 (Jqb (parR l n left j)))]⟩) (fun j=>n+j≤l.length∧(j=0∨left+j≤en)) (fun j=>l.length - j) 0 (by rw [Jy0];exact Jqd) ⟨n1,.inl rfl⟩ ?_;rintro j ⟨j1,j2⟩;have w3:IntKind.i64.wrap (((n:Nat):Int)+(j:Int))=((n+j:Nat):Int):=Aa omg omg;have w4:IntKind.i64.wrap ((left:Int)+(j:Int))=((left+j:Nat):Int):=Aa omg omg;have w5:IntKind.i64.wrap ((j:Int)+1)=((j+1:Nat):Int):=wj1 omg;have hpl:=J0v (left:=left) j1;by_cases hgo:n+j<l.length∧left+j<en
   ·have c3:(((n+j:Nat):Int)<(l.length:Int))=True:=eq_true omg;have c4:(((left+j:Nat):Int)<(en:Int))=True:=eq_true omg;have hset:(Jqb (parR l n left j)).set (n+j) [.int .i64 ((left+j:Nat):Int)]=Jqb (parR l n left (j+1)):=by rw [Jrg,J0e hgo.1]
    obtain ⟨q,hq⟩:∃ q,(parR l n left j)[n+j]? = some q:=⟨_,List.getElem?_eq_getElem (by rw [hpl];exact hgo.1)⟩
    have gq:=Jqg hq;(refine lws ?_;simp only [go_sem,simprocAttr,w3,w4,w5,c3,c4,hset,gq]);exact ⟨j+1,⟨by omega,.inr omg⟩,by omega,Jqd⟩
   ·have hpe:parR l n left j=Jsq l left en:=by
     rw [J1i hm n2 j1 j2 omg];unfold Jsq;rw [hend]
    by_cases hlt:n+j<l.length
    ·have c3:(((n+j:Nat):Int)<(l.length:Int))=True:=eq_true omg;have c4:(((left+j:Nat):Int)<(en:Int))=False:=eq_false omg;(refine lws ?_;simp only [go_sem,simprocAttr,w3,w4,c3,c4,hpe])
     skip
    ·have c3:(((n+j:Nat):Int)<(l.length:Int))=False:=eq_false omg;(refine lws ?_;simp only [go_sem,simprocAttr,w3,c3,hpe])
     skip
structure ByRI (old now:List (List Node)) (a b left:Nat) (done:List Int):Prop where
 io:ByOI old now (a,b,left,done)
 rng:∀ e∈done,-1≤e
 last:done=[]∨∃ p a,done=p ++ [a]∧0≤a
theorem Jrr {b:Nat} {done:List Int} (h:done.length≤b):(outR b done).length=b:=by simp [outR];omega
theorem J36 {b:Nat} {done:List Int} (h:done.length≤b):outR b done ++ [-1]=outR (b+1) done:=by
 unfold outR;rw [show b+1 - done.length=(b - done.length)+1 by omega,List.replicate_succ',List.append_assoc]
theorem J23 (done:List Int):outR done.length done=done:=by simp [outR]
theorem J0g {b:Nat} {done:List Int} (h:∀ e∈done,-1≤e):∀ e∈outR b done,-1≤e:=by
 intro e he;rcases List.mem_append.1 he with he | he
 ·exact h e he
 ·rw [List.eq_of_mem_replicate he];omega
theorem Jyn {b left en:Nat} {done:List Int} (h:done=[]∨∃ p a,done=p ++ [a]∧0≤a):Jsq (outR b done) left en=done ++ Jqo (b - done.length) left en:=J06 h
theorem Jzx (old now:List (List Node)) (ho:old.length≤100000) (hn:now.length≤100000) (hvo:∀ v∈old,v.length≤1000000) (hvn:∀ v∈now,v.length≤1000000):Det cx 15 [.p (.sl (Jqe old)),.p (.sl (Jqe now))] [] (.p (.sl (Jqb (Jqn old now)))) []:=by
 have hT:=Jxm old now ho hn hvo hvn;have hoo:=(Jqw old now).len;(refine bgo Tryd.func15 ?_;simp only [go_sem,simprocAttr]);(repeat' (first | ((refine Jqa (hT) ?_);simp only [go_sem,simprocAttr]) | fail));refine Jq8 (B1 [(13,85)] _ sm) ?_;simp only [go_sem,simprocAttr];refine SWP.loop (fun x:Nat×Nat×Nat×List Int=>⟨Ba 91 [(0,.p (.sl (Jqe old))),(1,.p (.sl (Jqe now))),(5,.p (.sl (tabL old now))),(6,.own 85 0 x.2.1),(7,.p (.int .i64 x.1)),(8,.p (.int .i64 x.2.2.1)),(9,.p (.int .i64 x.2.1))],[(85,.row 3 1 (Jqb (outR x.2.1 x.2.2.2)))]⟩) (fun x=>ByRI old now x.1 x.2.1 x.2.2.1 x.2.2.2) (fun x=>now.length - x.2.1) (0,0,0,[]) (by rw [show Jqb (outR 0 [])=[] from rfl];exact Jqd) ⟨⟨Nat.le_refl _,Nat.zero_le _,Nat.le_refl _,Nat.zero_le _,old.length+now.length,by simp only;omega,rfl⟩,fun e he=>(by cases he),.inl rfl⟩ ?_;rintro ⟨a,b,left,done⟩ ⟨⟨h1,h2,h3,h4,f,hf,hsp⟩,hr,hla⟩;simp only at h1 h2 h3 h4 hf hsp hr hla;by_cases hb:b<now.length
 ·have c1:((b:Int)<(now.length:Int))=True:=eq_true omg;have w2:IntKind.i64.wrap ((b:Int)+1)=((b+1:Nat):Int):=wj1 omg;obtain ⟨y,hy⟩:∃ y,now[b]? = some y:=⟨_,List.getElem?_eq_getElem hb⟩
  have g2:=Jqj hy;have hle:(b≤(Jqb (outR b done)).length)=True:=eq_true (by rw [Jqc,Jrr h3];exact Nat.le_refl _);have hot:(Jqb (outR b done)).take b=Jqb (outR b done):=List.take_of_length_le (by rw [Jqc,Jrr h3];exact Nat.le_refl _);have hmo:Jqb (outR b done) ++ [[.int .i64 (-1)]]=Jqb (outR (b+1) done):=by rw [← J36 h3,Jrf];rfl
  have hlo:(Jqb (outR b done)).length=b:=by rw [Jqc,Jrr h3]
  (refine lws ?_;simp only [go_sem,simprocAttr,Ht,c1]);refine SWP.loop (fun a:Nat=>⟨Ba 91 [(0,.p (.sl (Jqe old))),(1,.p (.sl (Jqe now))),(5,.p (.sl (tabL old now))),(6,.own 85 0 b),(7,.p (.int .i64 a)),(8,.p (.int .i64 left)),(9,.p (.int .i64 b))],[(85,.row 3 1 (Jqb (outR b done)))]⟩) (fun a=>ByOI old now (a,b,left,done)) (fun a=>old.length - a) a Jqd ⟨h1,h2,h3,h4,f,hf,hsp⟩ ?_;clear h1 h2 hf hsp;rintro a ⟨h1,h2,h3,h4,f,hf,hsp⟩;simp only at h1 h2 h3 h4 hf hsp;by_cases ha:a<old.length
  ·have c2:((a:Int)<(old.length:Int))=True:=eq_true omg;obtain ⟨x,hx⟩:∃ x,old[a]? = some x:=⟨_,List.getElem?_eq_getElem ha⟩
   have hS:=E2 x y (hvo x (List.mem_of_getElem? hx)) (hvn y (List.mem_of_getElem? hy));obtain ⟨f,rfl⟩:∃ f',f=f'+1:=⟨f - 1,by omega⟩
   rw [Jyc hx hy] at hsp;have g1:=Jqj hx;have g3:(tabL old now)[a+1]? = some [.sl (Jqb (rowK old now (a+1) 0))]:=Jsn omg;have g4:(tabL old now)[a]? = some [.sl (Jqb (rowK old now a 0))]:=Jsn omg;have g5:(Jqb (rowK old now (a+1) 0))[b]? = some [.int .i64 (Jqk old now (a+1) b)]:=Jqg (Jq2 (Nat.zero_le _) omg);have g6:(Jqb (rowK old now a 0))[b+1]? = some [.int .i64 (Jqk old now a (b+1))]:=Jqg (Jq2 (Nat.zero_le _) omg);have w1:IntKind.i64.wrap ((a:Int)+1)=((a+1:Nat):Int):=wj1 omg;by_cases hxy:x=y
   ·subst hxy;rw [if_pos rfl] at hsp;have hP:=J0z (outR b done) left a (by rw [Jrr h3];omega) (J0g hr) omg omg;rw [Jrr h3,Jyn hla] at hP;have e3:(done ++ Jqo (b - done.length) left a ++ [(a:Int)]).length=b+1:=by simp [Jq3];omega
    have hst:Jqb (done ++ Jqo (b - done.length) left a) ++ [[.int .i64 (a:Int)]]=Jqb (outR (b+1) (done ++ Jqo (b - done.length) left a ++ [(a:Int)])):=by
     rw [← e3,J23,Jrf _ [(a:Int)]];rfl
    (refine lws ?_;simp only [go_sem,simprocAttr]);(repeat' (first | ((first | (refine Jqy ?_)|(refine Jqh (hS) ?_)|(refine Jqa (hP) ?_));simp only [go_sem,simprocAttr,Ht,w2,g2,hle,hot,c2,g1,w1,hst]) | fail));refine ⟨fun q hq=>by rw [List.mem_singleton.1 hq];rfl,by rw [Jqc,List.length_append,Jq3];omega,by omega,by omega,(a+1,b+1,a+1,done ++ Jqo (b - done.length) left a ++ [(a:Int)]),⟨⟨Nat.le_refl _,ha,by simp only;rw [e3];exact Nat.le_refl _,hb,f,by simp only;omega,by simp only;rw [e3];exact hsp⟩,fun e he=>?_,.inr ⟨_,_,rfl,by omega⟩⟩,by simp only;omega,(B1 [(79,85)] _ sm).trans ?_⟩
    ·rcases List.mem_append.1 he with he | he
     ·rcases List.mem_append.1 he with he | he
      ·exact hr e he
      ·exact (Js5 e he).1
     ·rw [List.mem_singleton.1 he];omega
    ·simp only [go_sem,simprocAttr];exact Jqd
   ·rw [if_neg hxy] at hsp;have hsn:decide (x=y)=false:=decide_eq_false hxy;rw [hsn] at hS;by_cases hge:Jqk old now a (b+1)≤Jqk old now (a+1) b
    ·rw [if_pos hge] at hsp;have c3:(((Jqk old now a (b+1):Nat):Int)≤((Jqk old now (a+1) b:Nat):Int))=True:=eq_true omg;(refine lws ?_;simp only [go_sem,simprocAttr]);(repeat' (first | ((first | (refine Jqy ?_)|(refine Jqh (hS) ?_));simp only [go_sem,simprocAttr,Ht,w2,g2,c2,g1,g3,g4,g5,g6,w1,c3]) | fail));exact ⟨a+1,⟨by simp only;omega,ha,h3,h4,f,by simp only;omega,hsp⟩,by omega,Jqd⟩
    ·rw [if_neg hge] at hsp;have c3:(((Jqk old now a (b+1):Nat):Int)≤((Jqk old now (a+1) b:Nat):Int))=False:=eq_false omg;(refine lws ?_;simp only [go_sem,simprocAttr]);(repeat' (first | ((first | (refine Jqy ?_)|(refine Jqh (hS) ?_));simp only [go_sem,simprocAttr,Ht,w2,g2,c2,g1,g3,g4,g5,g6,w1,c3]) | fail));refine ⟨fun q hq=>by rw [List.mem_singleton.1 hq];rfl,hlo,by omega,by omega,(a,b+1,left,done),⟨⟨h1,h2,by simp only;omega,hb,f,by simp only;omega,hsp⟩,hr,hla⟩,by simp only;omega,?_⟩;rw [hmo];exact Jqd
  ·have c2:((a:Int)<(old.length:Int))=False:=eq_false omg;rw [Jtn (.inl omg)] at hsp;(refine lws ?_;simp only [go_sem,simprocAttr]);(repeat' (first | ((refine Jqy ?_);simp only [go_sem,simprocAttr,Ht,w2,c2]) | fail));refine ⟨fun q hq=>by rw [List.mem_singleton.1 hq];rfl,hlo,by omega,by omega,(a,b+1,left,done),⟨⟨h1,h2,by simp only;omega,hb,old.length+now.length,by simp only;omega,?_⟩,hr,hla⟩,by simp only;omega,?_⟩
   ·simp only;rw [Jtn (.inl omg)];exact hsp
   ·rw [hmo];exact Jqd
 ·have c1:((b:Int)<(now.length:Int))=False:=eq_false omg;have hP:=J0z (outR b done) left old.length (by rw [Jrr h3];omega) (J0g hr) omg omg;rw [Jtn (.inr omg)] at hsp;have hbn:b=now.length:=by omega
  rw [Jrr h3,Jyn hla,hbn,hsp] at hP;have hle:(now.length≤(Jqb (Jqn old now)).length)=True:=eq_true (by rw [Jqc,hoo];exact Nat.le_refl _);have ht2:(Jqb (Jqn old now)).take now.length=Jqb (Jqn old now):=List.take_of_length_le (by rw [Jqc,hoo];exact Nat.le_refl _);have hor:(b≤(Jqb (outR b done)).length)=True:=eq_true (by rw [Jqc,Jrr h3];exact Nat.le_refl _);have hot:(Jqb (outR b done)).take b=Jqb (outR b done):=List.take_of_length_le (by rw [Jqc,Jrr h3];exact Nat.le_refl _);rw [← hbn] at hP hle ht2 c1 ⊢;(refine lws ?_;simp only [go_sem,simprocAttr,Ht,hor,hot]);(repeat' (first | (apply iteI <;> intro h)|((refine Jqa (hP) ?_);simp only [go_sem,simprocAttr,hle,ht2])|(exfalso;omega)))
theorem Jzw (old now:List (List Node)) (ho:ValsFit old) (hn:ValsFit now):Det cx 3 [.p (.sl (Jqe old)),.p (.sl (Jqe now))] [] (.p (.bool true)) []:=by
 have hG:=Jt4 old now ho hn;cases hb:(allB old 60 && allB now 60) with
 | false =>
  rw [hb] at hG;(refine bgo Tryd.func3 ?_;simp only [go_sem,simprocAttr]);(repeat' (first | ((first | (refine Jqa (hG) ?_)|(refine Jqa (Jqr) ?_));simp only [go_sem,simprocAttr]) | fail))
 | true =>
  rw [hb] at hG;rw [Bool.and_eq_true] at hb;obtain ⟨ts,a⟩:=Jq6 ho hb.1;obtain ⟨us,b⟩:=Jq6 hn hb.2;have hvo:∀ v∈old,v.length≤1000000:=fun v h=>by have:=a.each v h;omega
  have hvn:∀ v∈now,v.length≤1000000:=fun v h=>by have:=b.each v h;omega
  have l1:=a.n;have l2:=b.n;have hK:=Jt2 ts us (by have:=a.m;omega) (by have:=b.m;omega) a.ok b.ok;rw [← a.eq,← b.eq] at hK;have hK2:=J19 old now omg omg hvo hvn;have hO:=Jr1 old now omg omg hvo hvn;have hO2:=Jzx old now omg omg hvo hvn;have hL:=Jq4 old now omg omg hvo hvn;have hL2:=Jzo old now omg omg hvo hvn;have e1:=Jrc old now;have e2:=(Jqw old now).len;have hI:=Jv3 (keyP old now) (keyP old now) omg omg;have hJ:=Jv3 (Jqn old now) (Jqn old now) omg omg;rw [decide_eq_true rfl] at hI hJ;(refine bgo Tryd.func3 ?_;simp only [go_sem,simprocAttr]);(repeat' (first | ((first | (refine Jqa (hG) ?_)|(refine Jqa (Jqr) ?_)|(refine Jqa (hK) ?_)|(refine Jqa (hK2) ?_)|(refine Jqa (hO) ?_)|(refine Jqa (hO2) ?_)|(refine Jqa (hL) ?_)|(refine Jqa (hL2) ?_)|(refine Jqa (hI) ?_)|(refine Jqa (hJ) ?_));simp only [go_sem,simprocAttr]) | fail))
end Go.LX
