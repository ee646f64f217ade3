/- LxPJn, what one law alone needs. -/
import Derived.Test.YtpdaccjebbbbaaaDoorCards
import Derived.Test.YtpdaccjebbbbaaaDoorTie
import Derived.Deep.DeepHandedRow
import Derived.Deep.DeepWitnessRowRef
import Derived.Deep.Slices
import Derived.Lib.LaidIn
import Derived.Lib.LaidU8T
import Derived.Lib.LaidTab
import Derived.SizedLaws
import Derived.Test.YtpdaccjebbbbaaaDoorLxP
import Derived.Test.YtpdaccjebbbbaaaDoorLxU
set_option linter.unusedSimpArgs false
set_option linter.unusedVariables false
set_option linter.unusedSectionVars false
set_option linter.unnecessarySimpa false
set_option maxRecDepth 100000
namespace Go.LX
open Go Go.Proofs Go.RowKit Go.ChangeShapes Go.WideShapes Go.ChangeAt Go.Lib
open Go.Proofs.YtpdaccjebbbbaaaDoor
theorem Vt {H:Type} {enc:TypeId×Value→H} {w:World} {b:Nat} {v:Value} (hok:Cell.okWide Tryd.prog w .any b 32 v) {fuel:Nat} {x:DataW H×List MemPlace} (h:DataW.trod enc Tryd.prog w 0 (fun _=>true) true fuel 32 [v]=some x) (hz:∀ n∈x.1.weights Tryd.prog 32,n≤reachBytes) :
  ∃ p:List Node,ValFit p∧PRep w (Ja w) v (.sl (valL p)):=by
 obtain ⟨p,h1,h2,h3⟩:=Xx Node.vals Node.cells EFit Tryd.underlying32 J49 bNode (fun _=>rfl) (fun _=>rfl) (fun x p hp=>by simp [Node.cells] at hp;rcases hp with rfl | rfl | rfl | rfl | rfl | rfl <;> rfl) (Ji6 w) Jly hok h hz;exact ⟨p,⟨h1,h2⟩,h3⟩
theorem N3 {H:Type} {enc:TypeId×Value→H} {w:World} {b:Nat} {v:Value} {d:DataW H} {q:List MemPlace} {ts:List TypeId} {ds:List (DataW H)} (hok:Value.okWide Tryd.prog w .any b 32 v) (h:DataW.Trod enc Tryd.prog w 0 (fun _=>true) true 32 v d q)
  (hz:(DataW.weightsEach Tryd.prog ts ds).all (· ≤ reachBytes)=true) {j:Nat} (h1:ts[j]? = some 32) (h2:ds[j]? = some d):∃ p:List Node,ValFit p∧PRep w (Ja w) v (.sl (valL p)):=by
 simp only [Value.okWide,Tryd.underlying32] at hok;obtain ⟨fuel,h⟩:=h;rw [Jkh Tryd.underlying32 hok] at h;exact Vt hok h (J0 hz h1 h2)
end Go.LX
set_option maxHeartbeats 2000000
namespace Go.LX
open Go Go.RowKit Go.Proofs
attribute [local irreducible] Al SWP Bi
theorem Jym {l:List (List Node)} {r:Nat}:(Js2 l r).length=l.length - r:=by simp [Js2]
theorem Jyh (l:List (List Node)):Js2 l 0=l.reverse:=by simp [Js2]
theorem Jxo (l:List (List Node)):Js2 l l.length=[]:=by simp [Js2]
theorem Jxa {l:List (List Node)} {r:Nat} {v:List Node} (h:l[r]? = some v):Jqe (Js2 l (r+1)) ++ [[.sl (valL v)]]=Jqe (Js2 l r):=by
 have hr:=(List.getElem?_eq_some_iff.1 h).1;have e1:l.drop r=v :: l.drop (r+1):=by rw [List.drop_eq_getElem_cons hr];congr 1;rw [List.getElem?_eq_getElem hr] at h;exact Option.some.inj h
 unfold Js2;rw [e1,List.reverse_cons,Jt6];rfl
theorem Jx2 (old now:List (List Node)) (v:List Node) (ho:ValsFit old) (hn:ValsFit now) (hv:ValFit v):Det cx 7 [.p (.sl (Jqe old)),.p (.sl (Jqe now)),.p (.sl (valL v))] [] (.p (.bool true)) []:=by
 have hG:=Jt4 old now ho hn;have hF:=Ln v 60 omg (by have:=hv.len;omega) hv.node;cases hb:(allB old 60 && allB now 60) with
 | false =>
  rw [hb] at hG;(refine bgo Tryd.func7 ?_;simp only [go_sem,simprocAttr]);(repeat' (first | ((first | (refine Jqa (hG) ?_)|(refine Jqa (Jqr) ?_));simp only [go_sem,simprocAttr]) | fail))
 | true =>
  cases hb2:fewB v 60 with
  | false =>
   rw [hb] at hG;rw [hb2] at hF;(refine bgo Tryd.func7 ?_;simp only [go_sem,simprocAttr]);(repeat' (first | ((first | (refine Jqa (hG) ?_)|(refine Jqa (hF) ?_)|(refine Jqa (Jqr) ?_));simp only [go_sem,simprocAttr]) | fail))
  | true =>
   rw [hb] at hG;rw [hb2] at hF;rw [Bool.and_eq_true] at hb;obtain ⟨ts,a⟩:=Jq6 ho hb.1;obtain ⟨us,b⟩:=Jq6 hn hb.2;have hvl:=(Jnl.1 hb2).1;have hvo:∀ v∈old,v.length≤1000000:=fun v h=>by have:=a.each v h;omega
   have hvn:∀ v∈now,v.length≤1000000:=fun v h=>by have:=b.each v h;omega
   have l1:=a.n;have l2:=b.n;have hvo2:∀ u∈old ++ [v],u.length≤1000000:=fun u h=>by
    rcases List.mem_append.1 h with h | h
    ·exact hvo u h
    ·rw [List.mem_singleton.1 h];omega
   have hvn2:∀ u∈now ++ [v],u.length≤1000000:=fun u h=>by
    rcases List.mem_append.1 h with h | h
    ·exact hvn u h
    ·rw [List.mem_singleton.1 h];omega
   have h1:=Jq4 old now omg omg hvo hvn;have h2:=Jq4 now old omg omg hvn hvo;rw [J4c] at h2;have h3:=Jq4 old.reverse now.reverse (by simp;omega) (by simp;omega) (fun u h=>hvo u (List.mem_reverse.1 h)) (fun u h=>hvn u (List.mem_reverse.1 h));rw [Jtl] at h3;have h4:=Jq4 (old ++ [v]) (now ++ [v]) (by simp;omega) (by simp;omega) hvo2 hvn2;rw [J4g] at h4;have h5:=Jq4 (old ++ [v]) now (by simp;omega) omg hvo2 hvn;have hmono:lcsP old now≤lcsP (old ++ [v]) now:=J5l (List.sublist_append_left _ _) (List.Sublist.refl _);have hll:=J0i old now;have w1:IntKind.i64.wrap ((old.length:Int) - 1)=(old.length:Int) - 1:=Aa omg omg;have w2:IntKind.i64.wrap ((now.length:Int) - 1)=(now.length:Int) - 1:=Aa omg omg;have w3:IntKind.i64.wrap (((lcsP old now:Nat):Int)+1)=((lcsP old now+1:Nat):Int):=wj1 omg;have hge:(((lcsP old now:Nat):Int)≤((lcsP (old ++ [v]) now:Nat):Int))=True:=eq_true omg;have ap1:Jqe old ++ [[.sl (valL v)]]=Jqe (old ++ [v]):=by rw [Jt6];rfl
   have ap2:Jqe now ++ [[.sl (valL v)]]=Jqe (now ++ [v]):=by rw [Jt6];rfl
   have al1:(old.length+1≤(old ++ [v]).length)=True:=eq_true sm;have al2:(now.length+1≤(now ++ [v]).length)=True:=eq_true sm;have at1:(Jqe (old ++ [v])).take (old.length+1)=Jqe (old ++ [v]):=List.take_of_length_le (by rw [Ht];simp);have at2:(Jqe (now ++ [v])).take (now.length+1)=Jqe (now ++ [v]):=List.take_of_length_le (by rw [Ht];simp);have tl1:(old.length≤old.reverse.length)=True:=eq_true sm;have tl2:(now.length≤now.reverse.length)=True:=eq_true sm;have tt1:(Jqe old.reverse).take old.length=Jqe old.reverse:=List.take_of_length_le (by rw [Ht];simp);have tt2:(Jqe now.reverse).take now.length=Jqe now.reverse:=List.take_of_length_le (by rw [Ht];simp);(refine bgo Tryd.func7 ?_;simp only [go_sem,simprocAttr]);(repeat' (first | ((first | (refine Jqa (hG) ?_)|(refine Jqa (hF) ?_));simp only [go_sem,simprocAttr,Ht,w1]) | fail));refine Jq8 (B1 [(24,39),(25,53)] _ sm) ?_;simp only [go_sem,simprocAttr];refine SWP.loop (fun r:Nat=>⟨Ba 99 [(0,.p (.sl (Jqe old))),(1,.p (.sl (Jqe now))),(2,.p (.sl (valL v))),(7,.own 39 0 (old.length - r)),(8,.own 53 0 0),(9,.p (.int .i64 ((r:Int) - 1)))],[(39,.row 32 1 (Jqe (Js2 old r))),(53,.row 32 1 [])]⟩) (fun r=>r≤old.length) (fun r=>r) old.length (by rw [Jxo,Nat.sub_self,show Jqe []=[] from rfl];exact Jqd) (Nat.le_refl _) ?_;rintro r hr;cases r with
   | succ r =>
    have c1:(0≤((r+1:Nat):Int) - 1)=True:=eq_true omg;have e1:((r+1:Nat):Int) - 1=(r:Int):=by omega
    obtain ⟨u,hu⟩:∃ u,old[r]? = some u:=⟨_,List.getElem?_eq_getElem omg⟩
    have g1:=Jqj hu;have hs:=Jxa hu;have hlen:(Js2 old (r+1)).length=old.length - (r+1):=Jym;have e2:old.length - (r+1)+1=old.length - r:=by omega
    have w4:IntKind.i64.wrap ((r:Int) - 1)=(r:Int) - 1:=Aa omg omg;(refine lws ?_;simp only [go_sem,simprocAttr,Ht,e1,g1,hs,hlen,e2,w4]);(repeat' (first | (refine And.intro (by first | (simp;done)|(simp;omega) | omega) ?_) | fail));exact ⟨r,by omega,by omega,Jqd⟩
   | zero =>
    have c1:(0≤((0:Nat):Int) - 1)=False:=eq_false omg;have e0:=Jyh old;(refine lws ?_;simp only [go_sem,simprocAttr,Ht,w2,e0,Nat.sub_zero]);refine SWP.loop (fun r:Nat=>⟨Ba 99 [(0,.p (.sl (Jqe old))),(1,.p (.sl (Jqe now))),(2,.p (.sl (valL v))),(7,.own 39 0 old.length),(8,.own 53 0 (now.length - r)),(10,.p (.int .i64 ((r:Int) - 1)))],[(39,.row 32 1 (Jqe old.reverse)),(53,.row 32 1 (Jqe (Js2 now r)))]⟩) (fun r=>r≤now.length) (fun r=>r) now.length (by rw [Jxo,Nat.sub_self,show Jqe []=[] from rfl];exact Jqd) (Nat.le_refl _) ?_;clear hr;rintro r hr;cases r with
    | succ r =>
     have c1:(0≤((r+1:Nat):Int) - 1)=True:=eq_true omg;have e1:((r+1:Nat):Int) - 1=(r:Int):=by omega
     obtain ⟨u,hu⟩:∃ u,now[r]? = some u:=⟨_,List.getElem?_eq_getElem omg⟩
     have g1:=Jqj hu;have hs:=Jxa hu;have hlen:(Js2 now (r+1)).length=now.length - (r+1):=Jym;have e2:now.length - (r+1)+1=now.length - r:=by omega
     have w4:IntKind.i64.wrap ((r:Int) - 1)=(r:Int) - 1:=Aa omg omg;(refine lws ?_;simp only [go_sem,simprocAttr,Ht,e1,g1,hs,hlen,e2,w4]);(repeat' (first | (refine And.intro (by first | (simp;done)|(simp;omega) | omega) ?_) | fail));exact ⟨r,by omega,by omega,Jqd⟩
    | zero =>
     have c1:(0≤((0:Nat):Int) - 1)=False:=eq_false omg;have e0':=Jyh now;(refine lws ?_;simp only [go_sem,simprocAttr,Nat.sub_zero,e0',Nat.sub_zero]);(repeat' (first | (refine And.intro (by first | exact Jvz _ | (simp;done)|(simp;omega) | omega) ?_)|((first | (refine Jqa (h1) ?_)|(refine Jqa (h2) ?_)|(refine Jqa (h3) ?_)|(refine Jqa (h4) ?_)|(refine Jqa (h5) ?_)|(refine Jqa (Jqr) ?_));simp only [go_sem,simprocAttr,Ht,w3,hge,ap1,ap2,al1,al2,at1,at2,tl1,tl2,tt1,tt2]) | fail))
end Go.LX
