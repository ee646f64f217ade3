/- LxAmI, what one law alone needs. -/
import Derived.Test.YtpdaccjebbbbaaaDoorLxU
import Derived.OpenShut
set_option linter.unusedSimpArgs false
set_option linter.unusedVariables false
set_option linter.unusedSectionVars false
set_option linter.unnecessarySimpa false
set_option maxRecDepth 100000
set_option maxHeartbeats 2000000
namespace Go.LX
open Go Go.RowKit Go.Proofs
attribute [local irreducible] Al SWP Bi
theorem J2p {ps:List (Nat×Nat)} {i:Nat} {p:Nat×Nat} (h:ps[i]? = some p):(b2L ps)[i]? = some [.int .u8 p.1,.int .u8 p.2]:=by simp [b2L,h]
structure PairsFit (ps:List (Nat×Nat)):Prop where
 len:ps.length≤140737488355328
 each:∀ p∈ps,p.1≤255∧p.2≤255
def Js1 (old now:List (List Node)) (l:List Int) (k:Nat):Nat:=((List.range k).filter (sameAt old now l)).length
theorem J1n (old now:List (List Node)) (l:List Int) (k:Nat):Js1 old now l (k+1)=Js1 old now l k+if sameAt old now l k=true then 1 else 0:=by
 unfold Js1;rw [List.range_succ,List.filter_append,List.length_append];congr 1;by_cases h:sameAt old now l k=true
 ·rw [if_pos h,List.filter_cons_of_pos h];rfl
 ·rw [if_neg h,List.filter_cons_of_neg h];rfl
theorem J5i (old now:List (List Node)) (l:List Int) (k:Nat):Js1 old now l k≤k:=by
 unfold Js1;have:=List.length_filter_le (sameAt old now l) (List.range k);rw [List.length_range] at this;exact this
theorem J3j (old now:List (List Node)) (l:List Int):Js1 old now l l.length=Juh old now l:=rfl
theorem J0w {l zs:List (List Node)} {i k:Nat} {x:List Node} (h:zs.Sublist (l.take (i+1))) (hk:i<k) (hx:l[k]? = some x):(zs ++ [x]).Sublist (l.take (k+1)):=by
 rw [List.take_add_one,hx];refine List.Sublist.append (h.trans ?_) (List.Sublist.refl _);rw [show l.take (i+1)=(l.take k).take (i+1) by rw [List.take_take,Nat.min_eq_left omg]];exact List.take_sublist _ _
theorem Jy2 {l:List (List Node)} {k:Nat} {x:List Node} (hx:l[k]? = some x):[x].Sublist (l.take (k+1)):=by
 rw [List.take_add_one,hx];exact List.sublist_append_right _ _
def Jz3 (old now:List (List Node)) (ps:List (Nat×Nat)) (k:Nat):Prop :=
 ∃ zs:List (List Node),zs.length=k∧(k=0∨∃ p,ps[k - 1]? = some p∧zs.Sublist (old.take (p.1+1))∧zs.Sublist (now.take (p.2+1)))
theorem J3o {old now:List (List Node)} {ps:List (Nat×Nat)} {k:Nat} (h:Jz3 old now ps k):k≤lcsP old now:=by
 obtain ⟨zs,h1,h2⟩:=h;rcases h2 with h2 | ⟨p,_,h3,h4⟩
 ·omega
 ·rw [← h1];exact Jss (h3.trans (List.take_sublist _ _)) (h4.trans (List.take_sublist _ _))
theorem Jwe {old now:List (List Node)} {ps:List (Nat×Nat)} {k:Nat} {p:Nat×Nat} {x:List Node} (h:Jz3 old now ps k) (hp:ps[k]? = some p) (hx:old[p.1]? = some x) (hy:now[p.2]? = some x) (hr:k=0∨∃ q,ps[k - 1]? = some q∧q.1<p.1∧q.2<p.2):Jz3 old now ps (k+1):=by
 obtain ⟨zs,h1,h2⟩:=h;by_cases hk:k=0
 ·subst hk;exact ⟨[x],rfl,.inr ⟨p,hp,Jy2 hx,Jy2 hy⟩⟩
 ·rcases h2 with h2 | ⟨q,hq,h3,h4⟩
  ·exact absurd h2 hk
  ·rcases hr with hr | ⟨q',hq',r1,r2⟩
   ·exact absurd hr hk
   ·rw [hq] at hq';cases hq';exact ⟨zs ++ [x],by simp [h1],.inr ⟨p,hp,J0w h3 r1 hx,J0w h4 r2 hy⟩⟩
theorem Jwz (old now:List (List Node)) (ps:List (Nat×Nat)) (ho:ValsFit old) (hn:ValsFit now) (hp:PairsFit ps):Det cx 6 [.p (.sl (Jqe old)),.p (.sl (Jqe now)),.p (.sl (b2L ps))] [] (.p (.bool true)) []:=by
 have hG:=Jt4 old now ho hn;have hpl:=hp.len;cases hb:(allB old 60 && allB now 60) with
 | false =>
  rw [hb] at hG;(refine bgo Tryd.func6 ?_;simp only [go_sem,simprocAttr]);(repeat' (first | ((first | (refine Jqa (hG) ?_)|(refine Jqa (Jqr) ?_));simp only [go_sem,simprocAttr]) | fail))
 | true =>
  rw [hb] at hG;rw [Bool.and_eq_true] at hb;obtain ⟨ts,a⟩:=Jq6 ho hb.1;obtain ⟨us,b⟩:=Jq6 hn hb.2;have hvo:∀ v∈old,v.length≤1000000:=fun v h=>by have:=a.each v h;omega
  have hvn:∀ v∈now,v.length≤1000000:=fun v h=>by have:=b.each v h;omega
  have l1:=a.n;have l2:=b.n;have hO:=Jr1 old now omg omg hvo hvn;have hL:=Jq4 old now omg omg hvo hvn;have e2:=(Jqw old now).len;have hsl:=J0n old now;(refine bgo Tryd.func6 ?_;simp only [go_sem,simprocAttr]);(repeat' (first | ((first | (refine Jqa (hG) ?_)|(refine Jqa (hO) ?_)|(refine Jqa (hL) ?_));simp only [go_sem,simprocAttr]) | fail));refine SWP.loop (fun i:Nat=>⟨Ba 162 [(0,.p (.sl (Jqe old))),(1,.p (.sl (Jqe now))),(2,.p (.sl (b2L ps))),(7,.p (.int .i64 (lcsP old now:Nat))),(8,.p (.sl (Jqb (Jqn old now)))),(9,.p (.int .i64 (Js1 old now (Jqn old now) i:Nat))),(10,.p (.int .i64 i))],[]⟩) (fun i=>i≤now.length) (fun i=>now.length - i) 0 (by rw [show Js1 old now (Jqn old now) 0=0 from rfl];exact Jqd) (Nat.zero_le _) ?_;rintro i i1;by_cases hi:i<now.length
  ·have c1:((i:Int)<(now.length:Int))=True:=eq_true omg;have c1':((now.length:Int)≤(i:Int))=False:=eq_false omg;obtain ⟨e,he⟩:∃ e,(Jqn old now)[i]? = some e:=⟨_,List.getElem?_eq_getElem omg⟩
   obtain ⟨r1,r2⟩:=(Jqw old now).rng e (List.mem_of_getElem? he);have g1:=Jqg he;have c2:((old.length:Int)≤e)=False:=eq_false omg;have w1:IntKind.i64.wrap ((i:Int)+1)=((i+1:Nat):Int):=wj1 omg;have hsk:=J5i old now (Jqn old now) i;have w2:IntKind.i64.wrap (((Js1 old now (Jqn old now) i:Nat):Int)+1)=((Js1 old now (Jqn old now) i+1:Nat):Int):=wj1 omg;have hst:=J1n old now (Jqn old now) i;obtain ⟨y,hy⟩:∃ y,now[i]? = some y:=⟨_,List.getElem?_eq_getElem hi⟩
   have g2:=Jqj hy;by_cases h0:0≤e
   ·obtain ⟨k,rfl⟩:∃ k:Nat,e=(k:Int):=⟨e.toNat,by omega⟩
    obtain ⟨x,hx⟩:∃ x,old[k]? = some x:=⟨_,List.getElem?_eq_getElem omg⟩
    have g3:=Jqj hx;have hS:=E2 x y (hvo x (List.mem_of_getElem? hx)) (hvn y (List.mem_of_getElem? hy));have hsa:sameAt old now (Jqn old now) i=decide (x=y):=by
     unfold sameAt;rw [he];simp [hx,hy]
    (refine lws ?_;simp only [go_sem,simprocAttr,Ht,Jqc,e2,c1,c1',g1,c2]);(repeat' (first | (apply iteI <;> intro h)|((first | (refine Jqy ?_)|(refine Jqh (hS) ?_));simp only [go_sem,simprocAttr,g1,g2,g3,w1,w2]) | fail))
    ·rw [hsa,if_pos (by rw [decide_eq_true_eq];assumption)] at hst;exact ⟨i+1,hi,by omega,by rw [hst];exact Jqd⟩
    ·rw [hsa,if_neg (by rw [decide_eq_true_eq];assumption),Nat.add_zero] at hst;exact ⟨i+1,hi,by omega,by rw [hst];exact Jqd⟩
   ·have c3:(0≤e)=False:=eq_false h0;have hsa:sameAt old now (Jqn old now) i=false:=by
     unfold sameAt;rw [he];simp [h0]
    rw [hsa,if_neg de,Nat.add_zero] at hst;(refine lws ?_;simp only [go_sem,simprocAttr,Ht,Jqc,e2,c1,c1',g1,c2]);(repeat' (first | ((refine Jqy ?_);simp only [go_sem,simprocAttr,g1,c3,w1]) | fail));exact ⟨i+1,hi,by omega,by rw [hst];exact Jqd⟩
  ·have c1:((i:Int)<(now.length:Int))=False:=eq_false omg;have hin:i=now.length:=by omega
   have hss:lcsP old now≤Js1 old now (Jqn old now) i:=by rw [hin,← e2,J3j];exact hsl
   (refine lws ?_;simp only [go_sem,simprocAttr,Jqc,e2,c1]);refine SWP.loop (fun x:Nat×Bool=>⟨Ba 162 [(0,.p (.sl (Jqe old))),(1,.p (.sl (Jqe now))),(2,.p (.sl (b2L ps))),(7,.p (.int .i64 (lcsP old now:Nat))),(9,.p (.int .i64 (Js1 old now (Jqn old now) i:Nat))),(11,.p (.bool x.2)),(12,.p (.int .i64 x.1))],[]⟩) (fun x=>x.1≤ps.length∧(x.2=true→Jz3 old now ps x.1)) (fun x=>ps.length - x.1) (0,true) Jqd ⟨Nat.zero_le _,fun _=>⟨[],rfl,.inl rfl⟩⟩ ?_;rintro ⟨k,g⟩ ⟨k1,k2⟩;simp only at k1 k2;by_cases hk:k<ps.length
   ·have d1:((k:Int)<(ps.length:Int))=True:=eq_true omg;obtain ⟨p,hpk⟩:∃ p,ps[k]? = some p:=⟨_,List.getElem?_eq_getElem hk⟩
    obtain ⟨p1,p2⟩:=hp.each p (List.mem_of_getElem? hpk);have g1:=J2p hpk;have w1:IntKind.i64.wrap ((k:Int)+1)=((k+1:Nat):Int):=wj1 omg;have w2:IntKind.i64.wrap (p.1:Int)=(p.1:Int):=Aa omg omg;have w3:IntKind.i64.wrap (p.2:Int)=(p.2:Int):=Aa omg omg;cases g with
    | false =>
     (refine lws ?_;simp only [go_sem,simprocAttr,Jr6,d1]);(repeat' (first | ((refine Jqy ?_);simp only [go_sem,simprocAttr,g1,w1,w2,w3]) | fail));exact ⟨(k+1,false),⟨hk,fun h=>by cases h⟩,by simp only;omega,Jqd⟩
    | true =>
     by_cases hA:p.1<old.length
     ·have a1:((p.1:Int)<(old.length:Int))=True:=eq_true omg;by_cases hB:p.2<now.length
      ·have a2:((p.2:Int)<(now.length:Int))=True:=eq_true omg;obtain ⟨x,hx⟩:∃ x,old[p.1]? = some x:=⟨_,List.getElem?_eq_getElem hA⟩
       obtain ⟨y,hy⟩:∃ y,now[p.2]? = some y:=⟨_,List.getElem?_eq_getElem hB⟩
       have q1:=Jqj hx;have q2:=Jqj hy;have hS:=E2 x y (hvo x (List.mem_of_getElem? hx)) (hvn y (List.mem_of_getElem? hy));by_cases hk0:k=0
       ·have z:((k:Int)=0)=True:=eq_true omg;(refine lws ?_;simp only [go_sem,simprocAttr,Jr6,d1]);(repeat' (first | (apply iteI <;> intro h)|((first | (refine Jqy ?_)|(refine Jqh (hS) ?_));simp only [go_sem,simprocAttr,Ht,g1,w1,w2,w3,a1,a2,q1,q2,z]) | fail))
        ·exact ⟨(k+1,false),⟨hk,fun h=>by cases h⟩,by simp only;omega,Jqd⟩
        ·have hxy:x=y:=Decidable.not_not.1 (by assumption);exact ⟨(k+1,true),⟨hk,fun _=>Jwe (k2 rfl) hpk hx (by rw [hy,hxy]) (.inl hk0)⟩,by simp only;omega,Jqd⟩
       ·have z:((k:Int)=0)=False:=eq_false omg;obtain ⟨q,hq⟩:∃ q,ps[k - 1]? = some q:=⟨_,List.getElem?_eq_getElem omg⟩
        have g4:=J2p hq;have w4:IntKind.i64.wrap ((k:Int) - 1)=((k - 1:Nat):Int):=by rw [Aa omg omg];omega
        by_cases h1:q.1<p.1
        ·have z1:((q.1:Int)<(p.1:Int))=True:=eq_true omg;by_cases h2:q.2<p.2
         ·have z2:((q.2:Int)<(p.2:Int))=True:=eq_true omg;(refine lws ?_;simp only [go_sem,simprocAttr,Jr6,d1]);(repeat' (first | (apply iteI <;> intro h)|((first | (refine Jqy ?_)|(refine Jqh (hS) ?_));simp only [go_sem,simprocAttr,Ht,g1,w1,w2,w3,a1,a2,q1,q2,z,g4,w4,z1,z2]) | fail))
          ·exact ⟨(k+1,false),⟨hk,fun h=>by cases h⟩,by simp only;omega,Jqd⟩
          ·have hxy:x=y:=Decidable.not_not.1 (by assumption);exact ⟨(k+1,true),⟨hk,fun _=>Jwe (k2 rfl) hpk hx (by rw [hy,hxy]) (.inr ⟨q,hq,h1,h2⟩)⟩,by simp only;omega,Jqd⟩
         ·have z2:((q.2:Int)<(p.2:Int))=False:=eq_false omg;(refine lws ?_;simp only [go_sem,simprocAttr,Jr6,d1]);(repeat' (first | ((refine Jqy ?_);simp only [go_sem,simprocAttr,Ht,g1,w1,w2,w3,a1,a2,z,g4,w4,z1,z2]) | fail));exact ⟨(k+1,false),⟨hk,fun h=>by cases h⟩,by simp only;omega,Jqd⟩
        ·have z1:((q.1:Int)<(p.1:Int))=False:=eq_false omg;(refine lws ?_;simp only [go_sem,simprocAttr,Jr6,d1]);(repeat' (first | ((refine Jqy ?_);simp only [go_sem,simprocAttr,Ht,g1,w1,w2,w3,a1,a2,z,g4,w4,z1]) | fail));exact ⟨(k+1,false),⟨hk,fun h=>by cases h⟩,by simp only;omega,Jqd⟩
      ·have a2:((p.2:Int)<(now.length:Int))=False:=eq_false omg;(refine lws ?_;simp only [go_sem,simprocAttr,Jr6,d1]);(repeat' (first | ((refine Jqy ?_);simp only [go_sem,simprocAttr,Ht,g1,w1,w2,w3,a1,a2]) | fail));exact ⟨(k+1,false),⟨hk,fun h=>by cases h⟩,by simp only;omega,Jqd⟩
     ·have a1:((p.1:Int)<(old.length:Int))=False:=eq_false omg;(refine lws ?_;simp only [go_sem,simprocAttr,Jr6,d1]);(repeat' (first | ((refine Jqy ?_);simp only [go_sem,simprocAttr,Ht,g1,w1,w2,w3,a1]) | fail));exact ⟨(k+1,false),⟨hk,fun h=>by cases h⟩,by simp only;omega,Jqd⟩
   ·have d1:((k:Int)<(ps.length:Int))=False:=eq_false omg;have f1:(((lcsP old now:Nat):Int)≤((Js1 old now (Jqn old now) i:Nat):Int))=True:=eq_true omg;have f2:((0:Int)≤((lcsP old now:Nat):Int))=True:=eq_true omg;cases g with
    | false =>
     (refine lws ?_;simp only [go_sem,simprocAttr,Jr6,d1]);(repeat' (first | ((refine Jqa (Jqr) ?_);simp only [go_sem,simprocAttr,f1,f2]) | fail))
    | true =>
     have:=J3o (k2 rfl);have f3:((ps.length:Int)≤((lcsP old now:Nat):Int))=True:=eq_true omg;(refine lws ?_;simp only [go_sem,simprocAttr,Jr6,d1]);(repeat' (first | ((refine Jqa (Jqr) ?_);simp only [go_sem,simprocAttr,Jr6,f1,f2,f3]) | fail))
end Go.LX
namespace Go.LX
open Go Go.Proofs Go.RowKit Go.ChangeShapes Go.WideShapes Go.ChangeAt Go.Lib
open Go.Proofs.YtpdaccjebbbbaaaDoor
theorem cB2:Tryd.prog.cellsOf 37=2:=kr
theorem bB2:0<Tryd.prog.bytesOf 37:=by decide +kernel
theorem argB2s {H:Type} {enc:TypeId×Value→H} {w:World} {b:Nat} {v:Value} {d:DataW H} {q:List MemPlace} {ts:List TypeId} {ds:List (DataW H)} (hok:Value.okWide Tryd.prog w .any b 36 v) (h:DataW.Trod enc Tryd.prog w 0 (fun _=>true) true 36 v d q)
  (hz:(DataW.weightsEach Tryd.prog ts ds).all (· ≤ reachBytes)=true) {j:Nat} (h1:ts[j]? = some 36) (h2:ds[j]? = some d):∃ l:List (Nat×Nat),PairsFit l∧PRep w (Ja w) v (.sl (b2L l)):=by
 simp only [Value.okWide,Tryd.underlying36] at hok;obtain ⟨fuel,h⟩:=h;rw [Jkh Tryd.underlying36 hok] at h;obtain ⟨v',ls,e1,g1,g2,g3⟩:=Jw9 (α:=Nat×Nat) (fun p=>[.int .u8 p.1,.int .u8 p.2]) (fun p=>[.int .u8 p.1,.int .u8 p.2]) (fun p=>p.1≤255∧p.2≤255) Tryd.underlying36 cB2 de bB2 (fun _=>rfl) (fun _=>rfl) (fun x p hp=>by simp at hp;rcases hp with rfl | rfl <;> rfl) (fun x j p _ h=>by
   match j,h with
   | 0,h=>cases h;exact PRep.int _ _
   | 1,h=>cases h;exact PRep.int _ _
   | j+2,h=>simp at h) (fun fuel cs y h _=>by
   obtain ⟨xs,m,_,rfl,hl,hlen,hf⟩:=DataW.trod_array Tryd.underlying37 h;rw [cB2] at hl
   match cs,hl with
   | [a0,a1],_ =>
    have f0:=hf 0 omg;have f1:=hf 1 omg;simp only [cU8,List.drop_zero,List.drop_succ_cons,List.take_succ_cons,List.take_zero,Nat.zero_mul,Nat.one_mul] at f0 f1
    match xs,hlen with
    | [x0,x1],_ =>
     obtain ⟨y0,e0,_,z0⟩:=DataW.trod_int Tryd.underlying5 f0;obtain ⟨y1,e1,_,z1⟩:=DataW.trod_int Tryd.underlying5 f1;cases e0;cases e1;obtain ⟨k0,rfl,h0⟩:=J48 z0;obtain ⟨k1,rfl,h1⟩:=J48 z1;exact ⟨(k0,k1),⟨h0,h1⟩,rfl⟩) h (J0 hz h1 h2)
 cases e1;exact ⟨ls,⟨g1,g2⟩,g3⟩
end Go.LX
