/- Types, the laws: TyMade. -/
import Derived.Test.YtpdaccjebbbbaaaGreatDoorLxZA
import Derived.Test.YtpdaccjebbbbaaaGreatDoorLxW
import Derived.Test.YtpdaccjebbbbaaaGreatDoorLxX
set_option linter.unusedSimpArgs false
set_option linter.unusedVariables false
set_option linter.unusedSectionVars false
set_option linter.unnecessarySimpa false
set_option maxRecDepth 100000
set_option maxHeartbeats 2000000
namespace Go.LX
open Go Go.RowKit Go.Proofs
attribute [local irreducible] Al SWP Bi
def sumR:List (List YRow)→Nat
 | []=>0
 | v :: l=>v.length+sumR l
theorem J0g {ls:List (List YRow)}:∀ {i:Nat} {v:List YRow},ls[i]? = some v→sumR (ls.take (i+1))=sumR (ls.take i)+v.length:=by
 induction ls with
 | nil=>intro i v h;simp at h
 | cons a l ih =>
  intro i v h;cases i with
  | zero=>simp at h;subst h;simp [sumR]
  | succ i =>
   rw [List.take_succ_cons,List.take_succ_cons,sumR,sumR,ih (by simpa using h)];omega
theorem J08 (ns:List (List UInt8)) (ls:List (List YRow)):∀ i,i≤ls.length→(Jq1 ns ls i).length=sumR (ls.take i)
 | 0,_=>rfl
 | i+1,h=>by
  obtain ⟨v,hv⟩:∃ v,ls[i]? = some v:=⟨_,List.getElem?_eq_getElem omg⟩
  rw [Jq1,List.length_append,J08 ns ls i omg,J0g hv,J0j,List.getD_eq_getElem?_getD,hv];rfl
structure ListsFit (ls:List (List YRow)):Prop where
 len:ls.length≤140737488355328
 each:∀ v∈ls,FiFit v
theorem J97 {ls:List (List YRow)}:∀ {i:Nat},sumR (ls.take i)≤sumR ls:=by
 induction ls with
 | nil=>intro i;simp [sumR]
 | cons a l ih =>
  intro i;cases i with
  | zero=>simp [sumR]
  | succ i=>rw [List.take_succ_cons,sumR,sumR];have:=ih (i:=i);omega
theorem J8x (y:YRow) (ns:List (List UInt8)) (ls:List (List YRow)) (hn:ns.length≤140737488355328) (hf:ListsFit ls):Det cx 3 [.p (.agg y.cells),.p (.sl (Jqr ns)),.p (.sl (Jq3 ls))] [] (.p (.bool true)) []:=by
 have hl:=hf.len;have hnl:=Jrs ns;have htl:=Jrj ls;have w0:IntKind.i64.wrap ((ls.length:Int)+(ns.length:Int))=((ls.length+ns.length:Nat):Int):=by rw [Aa omg omg];omega
 rw [J5k];(refine bgo Tryz.func3 ?_;simp only [go_sem,simprocAttr,hnl,htl,w0]);refine SWP.loop (fun i:Nat=>⟨Ba 73 [(1,.p (.sl (Jqr ns))),(2,.p (.sl (Jq3 ls))),(3,.ptr 3 0 0),(7,.p (.int .i64 ((ls.length+ns.length+sumR (ls.take i):Nat):Int))),(8,.p (.int .i64 i))],[(3,.var 25 [.p (.int .i64 y.kind),.p (.int .i64 y.many),.p (.str y.name),.p (.str y.s),.p (.int .i64 y.n),.p (.int .i64 y.c.kind),.p (.int .i64 y.c.many),.p (.str y.c.name),.p (.str y.c.s),.p (.bool y.c.neg),.p (.int .i64 y.c.e)])]⟩) (fun i=>i≤ls.length∧∀ v∈ls.take i,Jsr v 40=true∧Jrp v=true) (fun i=>ls.length - i) 0 (by rw [show sumR (List.take 0 ls)=0 from rfl,Nat.add_zero];exact Jqc) ⟨Nat.zero_le _,by simp⟩ ?_;rintro i ⟨hi,hpre⟩;obtain ⟨S,hS⟩:∃ S,S=ls.length+ns.length+sumR (ls.take i):=⟨_,rfl⟩
 rw [← hS];by_cases hlt:i<ls.length∧S≤40
 ·obtain ⟨hlt,h40⟩:=hlt;have c1:((i:Int)<(ls.length:Int))=True:=eq_true omg;have c2:((S:Int)≤40)=True:=eq_true omg;obtain ⟨v,hq⟩:∃ v,ls[i]? = some v:=⟨_,List.getElem?_eq_getElem hlt⟩
  have hg:=Jtc hq;have hv:=hf.each v (List.mem_of_getElem? hq);have hvl:=hv.len;have hrl:=Jqb v;have w1:=wi1 (i:=i) omg;have w2:IntKind.i64.wrap ((S:Int)+(v.length:Int))=((S+v.length:Nat):Int):=by rw [Aa omg omg];omega
  have hSh:=Ka5 v 40 de omg hv.row;have hnx:S+v.length=ls.length+ns.length+sumR (ls.take (i+1)):=by rw [J0g hq];omega
  cases b1:Jsr v 40 with
  | false =>
   rw [b1] at hSh;(refine lws ?_;simp only [go_sem,simprocAttr,htl,c1,c2,hg,hrl,w2,htl]);(repeat' (first | ((first | (refine Jqa (hSh) ?_)|(refine Jqa (Jsx) ?_));simp only [go_sem,simprocAttr]) | fail))
  | true =>
   rw [b1] at hSh;obtain ⟨hl40,hrow⟩:=Jzl hv b1;have hR:=J1g v omg (Juc hrow);cases b2:Jrp v with
   | false =>
    rw [b2] at hR;(refine lws ?_;simp only [go_sem,simprocAttr,htl,c1,c2,hg,hrl,w2,htl]);(repeat' (first | ((first | (refine Jqa (hSh) ?_)|(refine Jqa (hR) ?_)|(refine Jqa (Jsx) ?_));simp only [go_sem,simprocAttr,hg]) | fail))
   | true =>
    rw [b2] at hR;(refine lws ?_;simp only [go_sem,simprocAttr,htl,c1,c2,hg,hrl,w2,htl]);(repeat' (first | ((first | (refine Jqa (hSh) ?_)|(refine Jqa (hR) ?_));simp only [go_sem,simprocAttr,hg,w1]) | fail));refine ⟨i+1,⟨by omega,fun u hu=>?_⟩,by omega,?_⟩
    ·rw [List.take_add_one,hq] at hu;rcases List.mem_append.1 hu with hu | hu
     ·exact hpre u hu
     ·simp at hu;subst hu;exact ⟨b1,b2⟩
    ·rw [← hnx];exact Jqc
 ·have c1:((40:Int)<(S:Int)) = ¬ ((S:Int)≤40):=by rw [Int.not_le]
  by_cases h40:S≤40
  ·have hil:i=ls.length:=by omega
   subst hil;rw [List.take_length] at hpre hS;have c2:((S:Int)≤40)=True:=eq_true omg;have c3:((ls.length:Int)<(ls.length:Int))=False:=eq_false omg;have c4:((40:Int)<(S:Int))=False:=eq_false omg;by_cases hns:ns.length=0∨ns.length=ls.length
   ·have hne:∀ v∈ls,v≠[]:=fun v hv e=>by
     obtain ⟨t,_,_,h⟩:=Jrz.1 (hpre v hv).2;have:=Jr1 t [];rw [← h,e] at this;simp at this
    have hle:∀ v∈ls,v.length≤900000:=fun v hv=>by
     have:=(Jzl (hf.each v hv) (hpre v hv).1).1;omega
    have hsum:∀ k,k≤ls.length→(Jq1 ns ls k).length≤900000:=fun k hk=>by
     rw [J08 ns ls k hk];have:=J97 (ls:=ls) (i:=k);omega
    have hM1:=J27 y ns ls omg omg hne hle (hsum _ (Nat.le_refl _));have hM2:=J92 y ns ls omg hsum hle;have hml:(Jvk y ns ls).length≤1000000:=by unfold Jvk;rw [List.length_cons];have:=hsum _ (Nat.le_refl _);omega
    have hSm:=Kaa (Jvk y ns ls) (Jvk y ns ls) hml hml;rw [decide_eq_true rfl] at hSm;generalize rowL (Jvk y ns ls)=rows at *
    refine Jqn (Jru _ 3 (T:=25) (ls:=[.p (.int .i64 y.kind),.p (.int .i64 y.many),.p (.str y.name),.p (.str y.s),.p (.int .i64 y.n),.p (.int .i64 y.c.kind),.p (.int .i64 y.c.many),.p (.str y.c.name),.p (.str y.c.s),.p (.bool y.c.neg),.p (.int .i64 y.c.e)]) (ps:=[.int .i64 y.kind,.int .i64 y.many,.str y.name,.str y.s,.int .i64 y.n,.int .i64 y.c.kind,.int .i64 y.c.many,.str y.c.name,.str y.c.s,.bool y.c.neg,.int .i64 y.c.e]) rfl rfl) ?_;simp only [go_sem,simprocAttr];rcases hns with hns | hns
    ·have c5:((ns.length:Int)=0)=True:=eq_true omg;(refine lws ?_;simp only [go_sem,simprocAttr,hnl,htl,c3,c4,c5,hnl,htl,not_true_eq_false,decide_false]);(repeat' (first | ((first | (refine Jql ?_)|(refine Jqe (hM1) ?_)|(refine Jqe (hM2) ?_)|(refine Jqe (hSm) ?_)|(refine Jqe (Jsx) ?_));simp only [go_sem,simprocAttr]) | fail))
    ·have c5:((ns.length:Int)=(ls.length:Int))=True:=eq_true omg;(refine lws ?_;simp only [go_sem,simprocAttr,hnl,htl,c3,c4,c5,hnl,htl,not_true_eq_false,decide_false]);(repeat' (first | (apply iteI <;> intro h)|((first | (refine Jql ?_)|(refine Jqe (hM1) ?_)|(refine Jqe (hM2) ?_)|(refine Jqe (hSm) ?_)|(refine Jqe (Jsx) ?_));simp only [go_sem,simprocAttr]) | fail))
   ·have c5:((ns.length:Int)=0)=False:=eq_false omg;have c6:((ns.length:Int)=(ls.length:Int))=False:=eq_false omg;(refine lws ?_;simp only [go_sem,simprocAttr,hnl,htl,c3,c4,c5,c6,hnl,htl,not_false_eq_true]);(repeat' (first | ((refine Jqa (Jsx) ?_);simp only [go_sem,simprocAttr]) | fail))
  ·have c2:((S:Int)≤40)=False:=eq_false omg;have c4:((40:Int)<(S:Int))=True:=eq_true omg;by_cases hlt2:i<ls.length
   ·have c3:((i:Int)<(ls.length:Int))=True:=eq_true omg;(refine lws ?_;simp only [go_sem,simprocAttr,htl,c2,c3,c4,htl]);(repeat' (first | ((refine Jqa (Jsx) ?_);simp only [go_sem,simprocAttr]) | fail))
   ·have c3:((i:Int)<(ls.length:Int))=False:=eq_false omg;(refine lws ?_;simp only [go_sem,simprocAttr,htl,c3,c4,htl]);(repeat' (first | ((refine Jqa (Jsx) ?_);simp only [go_sem,simprocAttr]) | fail))
end Go.LX
namespace Go.LX
open Go Go.Proofs Go.RowKit Go.ChangeShapes Go.WideShapes Go.ChangeAt Go.Lib
open Go.Proofs.YtpdaccjebbbbaaaGreatDoor
theorem Kax:Tryz.prog.cellTypes Tryz.prog.depth 25=some [3,3,9,9,3,3,3,9,9,4,3]:=krf
theorem argTyS {W:World} {b:Nat} {v:Value} (h:Value.okWide Tryz.prog W .any b 25 v):∃ n:YRow,v=.agg ⟨n.vals⟩∧True:=by
 simp only [Value.okWide,Tryz.underlying25] at h;obtain ⟨cs,rfl,hs,ts,hts,_,hc⟩:=h;rw [cTy] at hs;rw [Kax] at hts;cases hts;obtain ⟨l⟩:=cs
 match l,hs,hc with
 | [a0,a1,a2,a3,a4,a5,a6,a7,a8,a9,a10],_,hc =>
  obtain ⟨u0,g0,k0⟩:=hc 0 a0 rfl;obtain ⟨u1,g1,k1⟩:=hc 1 a1 rfl;obtain ⟨u2,g2,k2⟩:=hc 2 a2 rfl;obtain ⟨u3,g3,k3⟩:=hc 3 a3 rfl;obtain ⟨u4,g4,k4⟩:=hc 4 a4 rfl;obtain ⟨u5,g5,k5⟩:=hc 5 a5 rfl;obtain ⟨u6,g6,k6⟩:=hc 6 a6 rfl;obtain ⟨u7,g7,k7⟩:=hc 7 a7 rfl;obtain ⟨u8,g8,k8⟩:=hc 8 a8 rfl;obtain ⟨u9,g9,k9⟩:=hc 9 a9 rfl;obtain ⟨u10,g10,k10⟩:=hc 10 a10 rfl;cases g0;cases g1;cases g2;cases g3;cases g4;cases g5;cases g6;cases g7;cases g8;cases g9;cases g10;obtain ⟨x0,rfl,_⟩:=Jvc Tryz.underlying3 k0;obtain ⟨x1,rfl,_⟩:=Jvc Tryz.underlying3 k1;obtain ⟨x2,rfl,_⟩:=Jxr Tryz.underlying9 k2;obtain ⟨x3,rfl,_⟩:=Jxr Tryz.underlying9 k3;obtain ⟨x4,rfl,_⟩:=Jvc Tryz.underlying3 k4;obtain ⟨x5,rfl,_⟩:=Jvc Tryz.underlying3 k5;obtain ⟨x6,rfl,_⟩:=Jvc Tryz.underlying3 k6;obtain ⟨x7,rfl,_⟩:=Jxr Tryz.underlying9 k7;obtain ⟨x8,rfl,_⟩:=Jxr Tryz.underlying9 k8;obtain ⟨x9,rfl⟩:=J8d Tryz.underlying4 k9;obtain ⟨x10,rfl,_⟩:=Jvc Tryz.underlying3 k10;exact ⟨⟨x0,x1,x2,x3,x4,⟨x5,x6,x7,x8,x9,x10⟩⟩,rfl,trivial⟩
theorem J4e {β:Env} {w:World} {Im:Nat→Prop} (n:YRow):LRep β w Im (.agg ⟨n.vals⟩) (.p (.agg n.cells)):=by
 refine PRep.agg _ _ rfl (by simp [YRow.cells,PV.scalar]) fun i v p hv hp=>?_
 have h:=J8p w Im n i p hp
 rwa [List.getD_eq_getElem?_getD,hv] at h
theorem bType:0<Tryz.prog.bytesOf 29:=by decide +kernel
theorem cType:Tryz.prog.cellsOf 29=1:=krf
theorem Kab:0<Tryz.prog.bytesOf 9:=by decide +kernel
theorem argTypes {H:Type} {enc:TypeId×Value→H} {w:World} {b:Nat} {v:Value} {d:DataW H} {q:List MemPlace} {ts:List TypeId} {ds:List (DataW H)} (hok:Value.okWide Tryz.prog w .any b 27 v) (h:DataW.Trod enc Tryz.prog w 0 (fun _=>true) true 27 v d q)
  (hz:(DataW.weightsEach Tryz.prog ts ds).all (· ≤ reachBytes)=true) {j:Nat} (h1:ts[j]? = some 27) (h2:ds[j]? = some d):∃ ls:List (List YRow),ListsFit ls∧PRep w (Ja w) v (.sl (Jq3 ls)):=by
 simp only [Value.okWide,Tryz.underlying27] at hok;obtain ⟨fuel,h⟩:=h;rw [Jkh Tryz.underlying27 hok] at h;obtain ⟨v',ls,e1,g1,g2,g3⟩:=J67 YRow.vals YRow.cells ERow Tryz.underlying27 cType bType Tryz.underlying29 cTy de bTy (fun _=>rfl) (fun _=>rfl) (fun x p hp=>by simp [YRow.cells] at hp;rcases hp with rfl | rfl | rfl | rfl | rfl | rfl | rfl | rfl | rfl | rfl | rfl <;> rfl) (fun x j p _ h=>J8p w _ x j p h) eachTy h (J0 hz h1 h2);cases e1;exact ⟨ls,⟨g1,fun l hl=>⟨(g2 l hl).1,(g2 l hl).2⟩⟩,g3⟩
theorem Kaj {H:Type} {enc:TypeId×Value→H} {w:World} (fuel:Nat) (cs:List Value) (y:DataW H×List MemPlace) (h:DataW.trod enc Tryz.prog w 0 (fun _=>true) true fuel 9 cs=some y) (hz:∀ n∈y.1.weights Tryz.prog 9,n≤reachBytes) :
  ∃ x:List UInt8,True∧cs=[.string ⟨⟨x⟩⟩]:=by
 obtain ⟨x,rfl,_⟩:=DataW.trod_string Tryz.underlying9 h;exact ⟨x.data.toList,trivial,by rw [Jc3]⟩
theorem J9q {H:Type} {enc:TypeId×Value→H} {w:World} {b:Nat} {v:Value} {d:DataW H} {q:List MemPlace} {ts:List TypeId} {ds:List (DataW H)} (hok:Value.okWide Tryz.prog w .any b 26 v) (h:DataW.Trod enc Tryz.prog w 0 (fun _=>true) true 26 v d q)
  (hz:(DataW.weightsEach Tryz.prog ts ds).all (· ≤ reachBytes)=true) {j:Nat} (h1:ts[j]? = some 26) (h2:ds[j]? = some d):∃ ns:List (List UInt8),ns.length≤140737488355328∧PRep w (Ja w) v (.sl (Jqr ns)):=by
 simp only [Value.okWide,Tryz.underlying26] at hok;obtain ⟨fuel,h⟩:=h;rw [Jkh Tryz.underlying26 hok] at h;obtain ⟨p,g1,_,g3⟩:=Xx (fun x:List UInt8=>[.string ⟨⟨x⟩⟩]) (fun x=>[.str x]) (fun _=>True) Tryz.underlying26 cStr Kab (fun _=>rfl) (fun _=>rfl) (fun x p hp=>by simp at hp;subst hp;rfl) (fun Im x j p hp=>by
  cases j with
  | zero=>simp at hp;subst hp;exact PRep.str _
  | succ j=>simp at hp) Kaj hok h (J0 hz h1 h2)
 exact ⟨p,g1,g3⟩
end Go.LX
