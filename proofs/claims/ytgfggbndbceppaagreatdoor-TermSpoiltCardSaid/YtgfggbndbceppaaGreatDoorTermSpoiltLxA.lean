/- Filters: the law TermSpoilt. -/
import Derived.Test.YtgfggbndbceppaaGreatDoorLxY
set_option linter.unusedSimpArgs false
set_option linter.unusedVariables false
set_option linter.unusedSectionVars false
set_option linter.unnecessarySimpa false
set_option maxRecDepth 100000
set_option maxHeartbeats 2000000
namespace Go.LX
open Go Go.RowKit Go.Proofs
attribute [local irreducible] Al SWP Bi
theorem Jz0 (v:List YRow) (y:YRow) (op:Int) (hv:FiFit v) (hy:ERow y):Det cx 7 [.p (.sl (rowL v)),.p (.agg [.int .i64 y.kind,.int .i64 y.many,.str y.name,.str y.s,.int .i64 y.n,.int .i64 y.c.kind,.int .i64 y.c.many,.str y.c.name,.str y.c.s,.bool y.c.neg,.int .i64 y.c.e]),.p (.int .i64 op)] [] (.p (.bool true)) []:=by
 have hS1:=Jtz v 30 omg (by have:=hv.len;omega) hv.row;have hys:=hy.s;have hyn:=hy.name;cases b1:Jsx v 30 with
 | false =>
  rw [b1] at hS1;(refine bgo Tryz.func7 ?_;simp only [go_sem,simprocAttr]);(repeat' (first | ((first | (refine Jqa (hS1) ?_)|(refine Jqa (Jq1) ?_));simp only [go_sem,simprocAttr]) | fail))
 | true =>
 rw [b1] at hS1;by_cases hs:y.s.length≤100
 case neg =>
  have c1:((100:Int)<(y.s.length:Int))=True:=eq_true omg;(refine bgo Tryz.func7 ?_;simp only [go_sem,simprocAttr]);(repeat' (first | ((first | (refine Jqa (hS1) ?_)|(refine Jqa (Jq1) ?_));simp only [go_sem,simprocAttr,c1]) | fail))
 have c1:((100:Int)<(y.s.length:Int))=False:=eq_false omg;by_cases hn:y.name.length≤100
 case neg =>
  have c2:((100:Int)<(y.name.length:Int))=True:=eq_true omg;(refine bgo Tryz.func7 ?_;simp only [go_sem,simprocAttr]);(repeat' (first | ((first | (refine Jqa (hS1) ?_)|(refine Jqa (Jq1) ?_));simp only [go_sem,simprocAttr,c1,c2]) | fail))
 have c2:((100:Int)<(y.name.length:Int))=False:=eq_false omg;obtain ⟨⟨k,s,g,c,kids⟩,ho,hc,rfl,l1,f1,e1⟩:=Jsa hv b1;have hkn:kids.enc.length≤29:=by rw [Jqk,List.length_cons] at l1;omega
 have hrw:Js7 ((RT.mk k s g c kids).enc []):=Jr3.2 ⟨ho,hc⟩;have hRF:=Jtv _ [] sm f1;have hM:Det cx 16 [.p (.sl (rowL ((RT.mk k s g c kids).enc [] ++ [y])))] [] (.p (.bool false)) []:=by
  have hv0:Jzf ((RT.mk k s g c kids).enc [] ++ [y]) 0:=.inr ⟨((RT.mk k s g c kids).enc []).length,⟨[],_,[y],rfl,ho,by simp⟩,fun q x hq hx=>by
   rw [List.getElem?_append_left hq] at hx;exact hRF x (List.mem_of_getElem? hx)⟩
  have h:=Jy7 _ (by rw [List.length_append];simp;omega) hv0
  rwa [← Jq4 (J13 hrw)] at h
 have hC:Det cx 16 [.p (.sl (rowL (((RT.mk k s g c kids).enc []).take (((RT.mk k s g c kids).enc []).length - 1))))] [] (.p (.bool false)) []:=by
  have h:=Js8 (((RT.mk k s g c kids).enc []).take (((RT.mk k s g c kids).enc []).length - 1)) (by rw [List.length_take];omega) (fun n hn=>hRF n (List.mem_of_mem_take hn))
  rwa [← Jq4 (J7j hrw)] at h
 have hN:Det cx 16 [.p (.sl (rowL (⟨k,kids.len,[97],s,g,c⟩ :: kids.enc)))] [] (.p (.bool false)) []:=by
  have h:=Js8 (⟨k,kids.len,[97],s,g,c⟩ :: kids.enc) (by rw [List.length_cons];omega) (fun n hn=>by
   rcases List.mem_cons.1 hn with rfl | hn
   ·have:=hRF ⟨k,kids.len,[],s,g,c⟩ (by rw [Jqk];simp);exact ⟨this.s,by simp,this.c⟩
   ·exact hRF n (by rw [Jqk];exact List.mem_cons_of_mem _ hn))
  rwa [← Jq4 (J4q sm)] at h
 have hO:¬ (0≤op∧op≤15)→Det cx 16 [.p (.sl (rowL (⟨op,kids.len,[],s,g,c⟩ :: kids.enc)))] [] (.p (.bool false)) []:=fun hop=>by
  have h:=Js8 (⟨op,kids.len,[],s,g,c⟩ :: kids.enc) (by rw [List.length_cons];omega) (fun n hn=>by
   rcases List.mem_cons.1 hn with rfl | hn
   ·have:=hRF ⟨k,kids.len,[],s,g,c⟩ (by rw [Jqk];simp);exact ⟨this.s,by simp,this.c⟩
   ·exact hRF n (by rw [Jqk];exact List.mem_cons_of_mem _ hn))
  rwa [← Jq4 (J6t (by simp only;omega))] at h
 have hSm:Det cx 17 [.p (.sl (rowL ((RT.mk k s g c kids).enc []))),.p (.sl (rowL (⟨op,kids.len,[],s,g,c⟩ :: kids.enc)))] [] (.p (.bool (decide (op=k)))) []:=by
  have h:=Jxf ((RT.mk k s g c kids).enc []) (⟨op,kids.len,[],s,g,c⟩ :: kids.enc) omg (by rw [List.length_cons];omega);rw [show decide ((RT.mk k s g c kids).enc []=⟨op,kids.len,[],s,g,c⟩ :: kids.enc)=decide (op=k) by
   rw [decide_eq_decide,Jqk];constructor
   ·intro e;injection e with e _;injection e with e;exact e.symm
   ·rintro rfl;rfl] at h
  exact h
 have hcut:rowL (((RT.mk k s g c kids).enc []).take (((RT.mk k s g c kids).enc []).length - 1))=(rowL ((RT.mk k s g c kids).enc [])).take kids.enc.length:=by
  have:((RT.mk k s g c kids).enc []).length - 1=kids.enc.length:=by rw [Jqk];rfl
  rw [this];unfold rowL;rw [List.map_take]
 have e3:rowL ((RT.mk k s g c kids).enc [])=[.int .i64 k,.int .i64 kids.len,.str [],.str s,.int .i64 g,.int .i64 c.kind,.int .i64 c.many,.str c.name,.str c.s,.bool c.neg,.int .i64 c.e] :: rowL kids.enc:=by rw [Jqk,Jsq,Jrc]
 rw [hcut,e3] at hC;rw [Jvo,e3,show rowL [y]=[[.int .i64 y.kind,.int .i64 y.many,.str y.name,.str y.s,.int .i64 y.n,.int .i64 y.c.kind,.int .i64 y.c.many,.str y.c.name,.str y.c.s,.bool y.c.neg,.int .i64 y.c.e]] from rfl,List.cons_append] at hM;rw [e3] at hS1 hSm ⊢;rw [Jsq,Jrc] at hN hSm;have hO:=fun hop=>(by have h:=hO hop;rw [Jsq,Jrc] at h;exact h:Det cx 16 [.p (.sl ([.int .i64 op,.int .i64 kids.len,.str [],.str s,.int .i64 g,.int .i64 c.kind,.int .i64 c.many,.str c.name,.str c.s,.bool c.neg,.int .i64 c.e] :: rowL kids.enc))] [] (.p (.bool false)) [])
 have hrl:(rowL kids.enc).length=kids.enc.length:=Jqc _;have h6:∀ q∈[.int .i64 k,.int .i64 kids.len,.str [],.str s,.int .i64 g,.int .i64 c.kind,.int .i64 c.many,.str c.name,.str c.s,.bool c.neg,.int .i64 c.e] :: rowL kids.enc,q.length=11:=by rw [← e3];exact Jt5 _
 clear hcut e3 hRF hrw;generalize rowL kids.enc=rest at *
 (refine bgo Tryz.func7 ?_;simp only [go_sem,simprocAttr]);(repeat' (first | ((refine Jqa (hS1) ?_);simp only [go_sem,simprocAttr,c1,c2]) | fail));refine Je9 (.node 0 (.node 1 (.node 2 (.node 3 (.node 4 (.node 5 (.node 6 .leaf .nil) .nil) .nil) .nil) (.node 3 (.node 2 (.node 4 (.node 5 (.node 6 .leaf .nil) .nil) .nil) (.node 4 (.node 2 (.node 5 (.node 6 .leaf .nil) .nil) .nil) .nil)) .nil)) (.node 3 (.node 1 (.node 2 (.node 4 (.node 5 (.node 6 .leaf .nil) .nil) .nil) (.node 4 (.node 2 (.node 5 (.node 6 .leaf .nil) .nil) .nil) .nil)) (.node 4 (.node 1 (.node 2 (.node 5 (.node 6 .leaf .nil) .nil) .nil) .nil) .nil)) .nil)) (.node 1 (.node 0 (.node 2 (.node 3 (.node 4 (.node 5 (.node 6 .leaf .nil) .nil) .nil) .nil) (.node 3 (.node 2 (.node 4 (.node 5 (.node 6 .leaf .nil) .nil) .nil) (.node 4 (.node 2 (.node 5 (.node 6 .leaf .nil) .nil) .nil) .nil)) .nil)) (.node 3 (.node 0 (.node 2 (.node 4 (.node 5 (.node 6 .leaf .nil) .nil) .nil) (.node 4 (.node 2 (.node 5 (.node 6 .leaf .nil) .nil) .nil) .nil)) (.node 4 (.node 0 (.node 2 (.node 5 (.node 6 .leaf .nil) .nil) .nil) .nil) .nil)) .nil)) (.node 3 (.node 0 (.node 1 (.node 2 (.node 4 (.node 5 (.node 6 .leaf .nil) .nil) .nil) (.node 4 (.node 2 (.node 5 (.node 6 .leaf .nil) .nil) .nil) .nil)) (.node 4 (.node 1 (.node 2 (.node 5 (.node 6 .leaf .nil) .nil) .nil) .nil) .nil)) (.node 1 (.node 0 (.node 2 (.node 4 (.node 5 (.node 6 .leaf .nil) .nil) .nil) (.node 4 (.node 2 (.node 5 (.node 6 .leaf .nil) .nil) .nil) .nil)) (.node 4 (.node 0 (.node 2 (.node 5 (.node 6 .leaf .nil) .nil) .nil) .nil) .nil)) (.node 4 (.node 0 (.node 1 (.node 2 (.node 5 (.node 6 .leaf .nil) .nil) .nil) .nil) (.node 1 (.node 0 (.node 2 (.node 5 (.node 6 .leaf .nil) .nil) .nil) .nil) .nil)) .nil))) .nil))) ⟨Ba 100 [(0,.p (.sl ([.int .i64 k,.int .i64 kids.len,.str [],.str s,.int .i64 g,.int .i64 c.kind,.int .i64 c.many,.str c.name,.str c.s,.bool c.neg,.int .i64 c.e] :: rest))),(2,.p (.int .i64 op)),(4,.ptr 4 0 0),(7,.own 33 0 (kids.enc.length+1+1))],[(33,.row 37 11 ([.int .i64 k,.int .i64 kids.len,.str [],.str s,.int .i64 g,.int .i64 c.kind,.int .i64 c.many,.str c.name,.str c.s,.bool c.neg,.int .i64 c.e] :: (rest ++ [[.int .i64 y.kind,.int .i64 y.many,.str y.name,.str y.s,.int .i64 y.n,.int .i64 y.c.kind,.int .i64 y.c.many,.str y.c.name,.str y.c.s,.bool y.c.neg,.int .i64 y.c.e]]))),(4,.var 37 [.p (.int .i64 y.kind),.p (.int .i64 y.many),.p (.str y.name),.p (.str y.s),.p (.int .i64 y.n),.p (.int .i64 y.c.kind),.p (.int .i64 y.c.many),.p (.str y.c.name),.p (.str y.c.s),.p (.bool y.c.neg),.p (.int .i64 y.c.e)])]⟩ hm kr ?_ ?_
 ·simp (maxSteps:=100000000) only [go_sem,simprocAttr,c1,c2,hrl];(repeat' apply And.intro)
  all_goals first
   | exact h6
   | omega
   | (intro q hq;simp only [List.mem_cons,List.not_mem_nil,or_false] at hq;subst hq;rfl)
   | exact trivial
   | (show St.Le _ _;exact Jqe)
 ·simp only [go_sem,simprocAttr,hrl]
  (repeat (first | (refine And.intro (by first | exact h6 | omega) ?_)|(refine J0k ?_;intro b hb)))
  refine Jsr (((Jtn _ (d:=33)).trans (Jtn _ (d:=36))).trans (Jtn _ (d:=46))) ?_;have hp1:(kids.enc.length+1+1≤kids.enc.length+1+1)=True:=eq_true (Nat.le_refl _);have hp2:(kids.enc.length+1≤kids.enc.length+1)=True:=eq_true (Nat.le_refl _);have ht1:List.take (kids.enc.length+1) (rest ++ [[.int .i64 y.kind,.int .i64 y.many,.str y.name,.str y.s,.int .i64 y.n,.int .i64 y.c.kind,.int .i64 y.c.many,.str y.c.name,.str y.c.s,.bool y.c.neg,.int .i64 y.c.e]])=rest ++ [[.int .i64 y.kind,.int .i64 y.many,.str y.name,.str y.s,.int .i64 y.n,.int .i64 y.c.kind,.int .i64 y.c.many,.str y.c.name,.str y.c.s,.bool y.c.neg,.int .i64 y.c.e]]:=List.take_of_length_le (by simp;omega);have ht2:List.take kids.enc.length rest=rest:=List.take_of_length_le omg;have wq:IntKind.i64.wrap (((kids.enc.length+1:Nat):Int) - 1)=(kids.enc.length:Int):=by rw [Aa omg omg];omega
  by_cases ho1:0≤op
  ·have d1:=eq_true ho1;by_cases ho2:op≤15
   ·have d2:=eq_true ho2;simp only [go_sem,simprocAttr,hrl,hp1,hp2,List.length_append,ht1,ht2];(repeat' (first | (refine Jqd ?_)|((first | (refine Jqi ?_)|(refine Jqb (hM) ?_)|(refine Jqb (hC) ?_)|(refine Jqb (hN) ?_)|(refine Jqb (hSm) ?_)|(refine Jqb (Jq1) ?_));simp only [go_sem,simprocAttr,hrl,wq,d1,d2]) | fail))
    all_goals (rw [Bool.eq_iff_iff];simp)
   ·have d2:=eq_false ho2;have hO:=hO omg;simp only [go_sem,simprocAttr,hrl,hp1,hp2,List.length_append,ht1,ht2];(repeat' (first | (refine Jqd ?_)|((first | (refine Jqi ?_)|(refine Jqb (hM) ?_)|(refine Jqb (hC) ?_)|(refine Jqb (hN) ?_)|(refine Jqb (hSm) ?_)|(refine Jqb (Jq1) ?_)|(refine Jqb (hO) ?_));simp only [go_sem,simprocAttr,hrl,wq,d1,d2]) | fail))
    all_goals (rw [Bool.eq_iff_iff];simp)
  ·have d1:=eq_false ho1;have hO:=hO omg;simp only [go_sem,simprocAttr,hrl,hp1,hp2,List.length_append,ht1,ht2];(repeat' (first | (refine Jqd ?_)|((first | (refine Jqi ?_)|(refine Jqb (hM) ?_)|(refine Jqb (hC) ?_)|(refine Jqb (hN) ?_)|(refine Jqb (hSm) ?_)|(refine Jqb (Jq1) ?_)|(refine Jqb (hO) ?_));simp only [go_sem,simprocAttr,hrl,wq,d1]) | fail))
   all_goals (rw [Bool.eq_iff_iff];simp)
end Go.LX
