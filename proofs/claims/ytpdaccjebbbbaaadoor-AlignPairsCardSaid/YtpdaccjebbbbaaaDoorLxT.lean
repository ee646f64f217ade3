/- Values' texts: the program's printer. -/
import Derived.Test.YtpdaccjebbbbaaaDoorLxS
import Derived.Test.YtpdaccjebbbbaaaDoorLxO
import Derived.Test.YtpdaccjebbbbaaaDoorLxJ
import Derived.Test.YtpdaccjebbbbaaaDoorLxL
import Derived.Test.YtpdaccjebbbbaaaDoorLxR
import Derived.Maps.GroupsBeside
import Derived.StringKeys
import Derived.Test.YtpdaccjebbbbaaaDoorLxN
set_option linter.unusedSimpArgs false
set_option linter.unusedVariables false
set_option linter.unusedSectionVars false
set_option linter.unnecessarySimpa false
set_option maxRecDepth 100000
set_option maxHeartbeats 2000000
namespace Go.LX
open Go Go.RowKit Go.Proofs
attribute [local irreducible] Al SWP Bi
attribute [go_sem] Tryd.ntmps42 Tryd.results42
theorem J5r:liesAt Tryd.prog Tryd.prog.depth 59 1 0 57 1=true:=kr
theorem Juj {c:Node} (h:Jq9 c) (hk:c.kind=3):Yz c.s c.neg c.e:=by
 have h2:=h.2.2;unfold G3 at h2;rw [if_neg omg,if_pos hk] at h2;exact h2.2
theorem Jxv {c:Node} (h:Jq9 c) (hk:c.kind=4):valid c.s=true:=by
 have h2:=h.2.2;unfold G3 at h2;rw [if_neg omg,if_neg omg,if_pos hk] at h2;exact h2.1
theorem Jtb {c:Node} (h:Jq9 c):c.kind=0∨c.kind=1∨c.kind=2∨c.kind=3∨c.kind=4:=by
 have h2:=h.2.2;have h1:=h.1;unfold G3 at h2;by_cases a:c.kind=0∨c.kind=1∨c.kind=2
 ·omega
 rw [if_neg a] at h2;by_cases b:c.kind=3
 ·omega
 rw [if_neg b] at h2;by_cases d:c.kind=4
 ·omega
 rw [if_neg d,if_neg omg] at h2;exact h2.elim
theorem Jrv (s:List UInt8):(refQ s).length≤6 * s.length+2:=by
 have:=Jlg s;rw [R9];omega
theorem Jw6 {c:Node} (hp:Jq9 c) (hs:c.s.length≤200):(Jrw c).length≤1300:=by
 unfold Jrw;rcases Jtb hp with h | h | h | h | h
 ·rw [if_pos h];simp
 ·rw [if_neg omg,if_pos h];simp
 ·rw [if_neg omg,if_neg omg,if_pos h];simp
 ·rw [if_neg omg,if_neg omg,if_neg omg,if_pos h];obtain ⟨_,a1,a2,a3,_⟩:=Juj hp h;have:=J0x (c:=c) omg omg omg;omega
 ·rw [if_neg omg,if_neg omg,if_neg omg,if_neg omg];have:=Jrv c.s;omega
def Jqu (v:List Node):Prop:=∀ n∈v,n.s.length≤200∧n.name.length≤200
mutual
theorem Jsc:∀ (t:Tree) (nm:List UInt8),okT t→Jqu (t.enc nm)→(Jqf t).length+1300≤2600 * (t.enc nm).length
 | .mk k s g e kids,nm,ok,hs=>by
  rw [A6] at hs;rw [Jrk,A6,List.length_cons];have hF:=fun o first=>Jz9 kids o first (Lu.1 ok).2.2 (fun n hn=>hs n (List.mem_cons_of_mem _ hn))
  by_cases h5:k=5
  ·rw [if_pos h5];have:=hF false true;simp only [List.length_cons,List.length_append,List.length_nil];omega
  ·rw [if_neg h5];by_cases h6:k=6
   ·rw [if_pos h6];have:=hF true true;simp only [List.length_cons,List.length_append,List.length_nil];omega
   ·rw [if_neg h6];have:=Jw6 (Jsw ok h5 h6).1 (hs _ List.mem_cons_self).1;omega
theorem Jz9:∀ (f:Forest) (o first:Bool),okF f→Jqu f.enc→(Jro o first f).length≤2600 * f.enc.length
 | .nil,o,first,_,_=>by rw [Jsl,Bl];simp
 | .cons nm t r,o,first,ok,hs=>by
  rw [A0] at hs;obtain ⟨h1,h2⟩:=Fs.1 ok;have a:=Jsc t nm h1 (fun n hn=>hs n (List.mem_append_left _ hn));have b:=Jz9 r o false h2 (fun n hn=>hs n (List.mem_append_right _ hn));have c:=Jrv nm;have d:nm.length≤200:=by
   obtain ⟨k,s,g,e,kids⟩:=t;exact (hs ⟨k,kids.len,nm,s,g,e⟩ (List.mem_append_left _ (by rw [A6];exact List.mem_cons_self))).2
  rw [Jr3,A0];simp only [List.length_append];have e1:(if first=true then ([]:List UInt8) else [44]).length≤1:=by split <;> simp
  have e2:(if o=true then refQ nm ++ [58] else []).length≤1203:=by
   split
   ·simp only [List.length_append,List.length_cons,List.length_nil];omega
   ·simp
  omega
end
theorem Jxt:Det cx 50 [.ptr 1000 0 0] [(1000,.var 59 [.p .nptr,.p .snil,.p (.bool false)])] (.tup []) [(1000,.var 59 [.ptr 1000 0 0,.p .snil,.p (.bool false)])]:=by
 (refine bgo Tryd.func50 ?_;simp only [go_sem,simprocAttr]);(repeat' (first | ((refine Jwa (Jag _) ?_);simp only [go_sem,simprocAttr]) | fail));exact J5r
theorem Jx5 (out:List UInt8):Det cx 50 [.ptr 1000 0 0] [(500001,.row 5 1 (bstr out)),(1000,.var 59 [.ptr 1000 0 0,.own 500001 0 out.length,.p (.bool false)])] (.tup []) [(500001,.row 5 1 (bstr out)),(1000,.var 59 [.ptr 1000 0 0,.own 500001 0 out.length,.p (.bool false)])]:=by
 (refine bgo Tryd.func50 ?_;simp only [go_sem,simprocAttr])
theorem Jra (s:List UInt8) (hs:s.length≤1000000000):Det cx 41 [.ptr 1000 0 0,.p (.str s)] [(1000,.var 59 [.p .nptr,.p .snil,.p (.bool false)])] (.tup [.int .i64 s.length,.nifc]) [(900,.row 5 1 (bstr s)),(1000,.var 59 [.ptr 1000 0 0,.own 900 0 s.length,.p (.bool false)])]:=by
 (refine bgoR false [(14,900)] Tryd.func41 ?_;simp only [go_sem,simprocAttr]);(repeat' (first | ((refine Jqa (Jxt) ?_);simp only [go_sem,simprocAttr]) | fail));exact ⟨X6 s,by omega,by omega,rfl⟩
theorem Jqi (s out:List UInt8) (hn:out.length≤1000000000) (hs:s.length≤1000000000):Det cx 41 [.ptr 1000 0 0,.p (.str s)] [(500001,.row 5 1 (bstr out)),(1000,.var 59 [.ptr 1000 0 0,.own 500001 0 out.length,.p (.bool false)])] (.tup [.int .i64 s.length,.nifc]) [(500001,.row 5 1 (bstr (out ++ s))),(1000,.var 59 [.ptr 1000 0 0,.own 500001 0 (out ++ s).length,.p (.bool false)])]:=by
 rw [Gz,List.length_append];(refine bgoR false [(14,500001)] Tryd.func41 ?_;simp only [go_sem,simprocAttr]);(repeat' (first | ((refine Jqa (Jx5 out) ?_);simp only [go_sem,simprocAttr]) | fail));exact ⟨X6 s,Di out,by omega,by omega,rfl⟩
theorem J3z (s:List UInt8) (h1:s.length≤1000000000) (h0:s≠[]):Det cx 33 [.ptr 1000 0 0] [(500001,.row 5 1 (bstr s)),(1000,.var 59 [.ptr 1000 0 0,.own 500001 0 s.length,.p (.bool false)])] (.p (.str s)) [(1000,.var 59 [.ptr 1000 0 0,.junk,.p (.bool false)])]:=by
 (refine bgo Tryd.func33 ?_;simp only [go_sem,simprocAttr]);(refine Gi 10 hm kr kr ?_;simp only [go_sem,simprocAttr,Ox]);have:=List.length_pos_iff.2 h0;simp [h0];omega
theorem Jsf (out:List UInt8) (dp:Nat):Det cx 42 [.ptr 1000 0 0,.p (.int .i64 dp)] [(500001,.row 5 1 (bstr out)),(1000,.var 59 [.ptr 1000 0 0,.own 500001 0 out.length,.p (.bool false)])] (.tup []) [(500001,.row 5 1 (bstr out)),(1000,.var 59 [.ptr 1000 0 0,.own 500001 0 out.length,.p (.bool false)])]:=by
 (refine bgo Tryd.func42 ?_;simp only [go_sem,simprocAttr])
 skip
theorem Jwk (c:Node) (nm:List UInt8) (hp:Jq9 c) (hs:c.s.length≤200):Det cx 40 [.ptr 1000 0 0,.p (.agg [.int .i64 c.kind,.int .i64 c.many,.str nm,.str c.s,.bool c.neg,.int .i64 c.e])] [(1000,.var 59 [.p .nptr,.p .snil,.p (.bool false)])] (.tup []) [(900,.row 5 1 (bstr (Jrw c))),(1000,.var 59 [.ptr 1000 0 0,.own 900 0 (Jrw c).length,.p (.bool false)])]:=by
 have hN:c.kind=3→Det cx 49 [.p (.agg [.int .i64 c.kind,.int .i64 c.many,.str nm,.str c.s,.bool c.neg,.int .i64 c.e])] [] (.p (.str (Jqt c))) []:=fun hk=>by
  obtain ⟨_,a1,a2,a3,_⟩:=Juj hp hk;exact Jw3 ⟨c.kind,c.many,nm,c.s,c.neg,c.e⟩ ⟨by show c.s.length≤_;omega,by show _≤c.e;omega,by show c.e≤_;omega⟩
 have hQ:=fun hv=>Kt c.s omg hv
 have hl:=Jw6 hp hs;have hv4:=fun hk=>Jxv hp hk
 obtain ⟨k,m,nm0,s,g,e⟩:=c;rcases Jtb hp with h | h | h | h | h <;> simp only at h hN hQ hs hv4 <;> subst h
 ·have hW:=Jra [110,117,108,108]  sm;(refine bgoR false [(18,900)] Tryd.func40 ?_;simp only [go_sem,simprocAttr]);(repeat' (first | ((refine Jqa (hW) ?_);simp only [go_sem,simprocAttr]) | fail))
  all_goals exact ⟨rfl,rfl⟩
 ·have hW:=Jra [102,97,108,115,101]  sm;(refine bgoR false [(24,900)] Tryd.func40 ?_;simp only [go_sem,simprocAttr]);(repeat' (first | ((refine Jqa (hW) ?_);simp only [go_sem,simprocAttr]) | fail))
  all_goals exact ⟨rfl,rfl⟩
 ·have hW:=Jra [116,114,117,101]  sm;(refine bgoR false [(30,900)] Tryd.func40 ?_;simp only [go_sem,simprocAttr]);(repeat' (first | ((refine Jqa (hW) ?_);simp only [go_sem,simprocAttr]) | fail))
  all_goals exact ⟨rfl,rfl⟩
 ·have hN:=hN rfl;have hW:=Jra (Jqt ⟨3,m,nm0,s,g,e⟩)  (Nat.le_trans (show (Jqt ⟨3,m,nm0,s,g,e⟩).length≤1300 from hl) omg);(refine bgoR false [(38,900)] Tryd.func40 ?_;simp only [go_sem,simprocAttr]);(refine Gi 5 hm kr kr ?_;simp only [go_sem,simprocAttr]);(repeat' (first | ((first | (refine Jqh (hN) ?_)|(refine Jqa (hW) ?_));simp only [go_sem,simprocAttr]) | fail))
  all_goals exact ⟨rfl,rfl⟩
 ·have hQ:=hQ (hv4 rfl);have hq:=Jrv s;have hW:=Jra (refQ s)  omg;(refine bgoR false [(12,900)] Tryd.func40 ?_;simp only [go_sem,simprocAttr]);(refine Gi 6 hm kr kr ?_;simp only [go_sem,simprocAttr]);(repeat' (first | ((first | (refine Jqh (hQ) ?_)|(refine Jqa (hW) ?_));simp only [go_sem,simprocAttr]) | fail))
  all_goals exact ⟨rfl,rfl⟩
theorem Jxg (c:Node) (nm:List UInt8) (hp:Jq9 c) (hs:c.s.length≤200) (out:List UInt8) (ho:out.length≤1000000000):Det cx 40 [.ptr 1000 0 0,.p (.agg [.int .i64 c.kind,.int .i64 c.many,.str nm,.str c.s,.bool c.neg,.int .i64 c.e])] [(500001,.row 5 1 (bstr out)),(1000,.var 59 [.ptr 1000 0 0,.own 500001 0 out.length,.p (.bool false)])] (.tup []) [(500001,.row 5 1 (bstr (out ++ Jrw c))),(1000,.var 59 [.ptr 1000 0 0,.own 500001 0 (out ++ Jrw c).length,.p (.bool false)])]:=by
 have hN:c.kind=3→Det cx 49 [.p (.agg [.int .i64 c.kind,.int .i64 c.many,.str nm,.str c.s,.bool c.neg,.int .i64 c.e])] [] (.p (.str (Jqt c))) []:=fun hk=>by
  obtain ⟨_,a1,a2,a3,_⟩:=Juj hp hk;exact Jw3 ⟨c.kind,c.many,nm,c.s,c.neg,c.e⟩ ⟨by show c.s.length≤_;omega,by show _≤c.e;omega,by show c.e≤_;omega⟩
 have hQ:=fun hv=>Kt c.s omg hv
 have hl:=Jw6 hp hs;have hv4:=fun hk=>Jxv hp hk
 obtain ⟨k,m,nm0,s,g,e⟩:=c;rcases Jtb hp with h | h | h | h | h <;> simp only at h hN hQ hs hv4 <;> subst h
 ·have hW:=Jqi [110,117,108,108] out ho sm;(refine bgoR false [(18,500001)] Tryd.func40 ?_;simp only [go_sem,simprocAttr]);(repeat' (first | ((refine Jqa (hW) ?_);simp only [go_sem,simprocAttr]) | fail))
  all_goals exact ⟨rfl,rfl⟩
 ·have hW:=Jqi [102,97,108,115,101] out ho sm;(refine bgoR false [(24,500001)] Tryd.func40 ?_;simp only [go_sem,simprocAttr]);(repeat' (first | ((refine Jqa (hW) ?_);simp only [go_sem,simprocAttr]) | fail))
  all_goals exact ⟨rfl,rfl⟩
 ·have hW:=Jqi [116,114,117,101] out ho sm;(refine bgoR false [(30,500001)] Tryd.func40 ?_;simp only [go_sem,simprocAttr]);(repeat' (first | ((refine Jqa (hW) ?_);simp only [go_sem,simprocAttr]) | fail))
  all_goals exact ⟨rfl,rfl⟩
 ·have hN:=hN rfl;have hW:=Jqi (Jqt ⟨3,m,nm0,s,g,e⟩) out ho (Nat.le_trans (show (Jqt ⟨3,m,nm0,s,g,e⟩).length≤1300 from hl) omg);(refine bgoR false [(38,500001)] Tryd.func40 ?_;simp only [go_sem,simprocAttr]);(refine Gi 5 hm kr kr ?_;simp only [go_sem,simprocAttr]);(repeat' (first | ((first | (refine Jqh (hN) ?_)|(refine Jqa (hW) ?_));simp only [go_sem,simprocAttr]) | fail))
  all_goals exact ⟨rfl,rfl⟩
 ·have hQ:=hQ (hv4 rfl);have hq:=Jrv s;have hW:=Jqi (refQ s) out ho omg;(refine bgoR false [(12,500001)] Tryd.func40 ?_;simp only [go_sem,simprocAttr]);(refine Gi 6 hm kr kr ?_;simp only [go_sem,simprocAttr]);(repeat' (first | ((first | (refine Jqh (hQ) ?_)|(refine Jqa (hW) ?_));simp only [go_sem,simprocAttr]) | fail))
  all_goals exact ⟨rfl,rfl⟩
theorem Jxh {n:Node} {l:List Node} (h:Jqu (n :: l)):Jqu l:=fun x hx=>h x (List.mem_cons_of_mem _ hx)
theorem Jvb {a b:List Node} (h:Jqu (a ++ b)):Jqu a:=fun x hx=>h x (List.mem_append_left _ hx)
theorem J52 {a b:List Node} (h:Jqu (a ++ b)):Jqu b:=fun x hx=>h x (List.mem_append_right _ hx)
theorem Jvj {k:Int} {kids:Forest} (h:Eh k kids.list):∀ p∈kids.list,valid p.1=true:=h.2.1
structure PrGo (v:List Node) (kids:Forest) (i0:Nat) (o:Bool) (st:List UInt8) (rest:List Node) (x:Nat×Nat×Forest×List UInt8):Prop where
 h1:x.2.1+x.2.2.1.len=kids.len
 h2:v.drop x.1=x.2.2.1.enc ++ rest
 h3:x.1+x.2.2.1.enc.length=i0+kids.enc.length
 h4:x.2.2.2 ++ Jro o (decide (x.2.1=0)) x.2.2.1=st ++ Jro o true kids
 h5:x.2.2.2.length+2600 * x.2.2.1.enc.length≤st.length+2600 * kids.enc.length
 h6:i0≤x.1
 ok:okF x.2.2.1
 sh:Jqu x.2.2.1.enc
 nm:∀ p∈x.2.2.1.list,valid p.1=true
theorem Jrm {v:List Node} {kids:Forest} {i0:Nat} {o:Bool} {st:List UInt8} {rest:List Node} {j kk:Nat} {nm:List UInt8} {t:Tree} {r:Forest} {out:List UInt8} (h:PrGo v kids i0 o st rest (j,kk,.cons nm t r,out)) :
  PrGo v kids i0 o st rest (j+(t.enc nm).length,kk+1,r,out ++ ((if decide (kk=0) then [] else [44]) ++ ((if o then refQ nm ++ [58] else []) ++ Jqf t))) where
 h1:=by have:=h.h1;simp only [Forest.len] at this ⊢;omega
 h2:=by
  have:=h.h2;simp only [A0,List.append_assoc] at this ⊢;rw [← List.drop_drop,this,List.drop_left]
 h3:=by have:=h.h3;simp only [A0,List.length_append] at this ⊢;omega
 h4:=by
  rw [← h.h4,Jr3];have:decide (kk+1=0)=false:=by simp
  simp only [this,List.append_assoc,if_false,Bool.false_eq_true,List.append_cancel_left_eq,List.cons_append,List.nil_append]
 h5:=by
  have a:=h.h5;have b:=Jsc t nm (Fs.1 h.ok).1 (Jvb (by have:=h.sh;rwa [A0] at this));have c:=Jrv nm;have d:nm.length≤200:=by
   obtain ⟨k,s,g,e,kids⟩:=t;exact (h.sh ⟨k,kids.len,nm,s,g,e⟩ (by rw [A0,A6];exact List.mem_append_left _ List.mem_cons_self)).2
  have e1:(if decide (kk=0)=true then ([]:List UInt8) else [44]).length≤1:=by split <;> simp
  have e2:(if o=true then refQ nm ++ [58] else []).length≤1203:=by
   split
   ·simp only [List.length_append,List.length_cons,List.length_nil];omega
   ·simp
  simp only [A0,List.length_append] at a ⊢;omega
 h6:=by have:=h.h6;simp only at this ⊢;omega
 ok:=(Fs.1 h.ok).2
 sh:=J52 (by have:=h.sh;rwa [A0] at this)
 nm:=fun p hp=>h.nm p (by rw [Forest.list];exact List.mem_cons_of_mem _ hp)
theorem Ju9 {v:List Node} {kids:Forest} {i0:Nat} {o:Bool} {st:List UInt8} {rest:List Node} {j kk:Nat} {out:List UInt8} (h:PrGo v kids i0 o st rest (j,kk,.nil,out)):kk=kids.len∧j=i0+kids.enc.length∧out=st ++ Jro o true kids:=by
 have h1:=h.h1;have h3:=h.h3;have h4:=h.h4;simp only [Forest.len,Bl,List.length_nil,Nat.add_zero,Jsl,List.append_nil] at h1 h3 h4;exact ⟨h1,h3,h4⟩
theorem wadd {i:Nat} (h:i≤3000000000000):IntKind.i64.wrap ((i:Int)+1)=((i+1:Nat):Int):=by rw [Aa omg omg];omega
theorem Jve:∀ (N:Nat) (t:Tree) (nm:List UInt8) (v rest:List Node) (i dp:Nat) (out:List UInt8),(t.enc nm).length≤N→okT t→Jqu (t.enc nm)→v.length≤300000→v.drop i=t.enc nm ++ rest→dp+N≤3000000→out.length+2600 * (t.enc nm).length≤1000000000→Det cx 32 [.ptr 1000 0 0,.p (.sl (valL v)),.p (.int .i64 i),.p (.int .i64 dp)] [(500001,.row 5 1 (bstr out)),(1000,.var 59 [.ptr 1000 0 0,.own 500001 0 out.length,.p (.bool false)])] (.p (.int .i64 (i+(t.enc nm).length:Nat))) [(500001,.row 5 1 (bstr (out ++ Jqf t))),(1000,.var 59 [.ptr 1000 0 0,.own 500001 0 (out ++ Jqf t).length,.p (.bool false)])]:=by
 intro N
 induction N with
 | zero =>
  intro t nm v rest i dp out hN;have:=Et t nm;omega
 | succ N ih =>
 intro t nm v rest i dp out hN ok sh hv h hd ho;have hle:=L9 h (fun e=>by have e2:(t.enc nm ++ rest).length=0:=(by rw [e];rfl);have:=Et t nm;rw [List.length_append] at e2;omega);rw [List.length_append] at hle;have w1:=wadd (i:=i) omg;obtain ⟨k,s,g,e,kids⟩:=t;have hh:=h;rw [A6] at hh;have hg:=D5 hh;rw [C9] at hg;have h2:v.drop (i+1)=kids.enc ++ rest:=by rw [← List.drop_drop,hh];rfl
 obtain ⟨ok1,ok2,ok3⟩:=Lu.1 ok;rw [A6] at sh;have sh3:=Jxh sh;have shs:=(sh _ List.mem_cons_self).1;have helen:((Tree.mk k s g e kids).enc nm).length=kids.enc.length+1:=by rw [A6];rfl
 rw [helen] at hN ho hle ⊢;have hkl:=Jqz kids;by_cases h5:k=5
 ·subst h5;have hW0:=Jqi [91] out omg sm;(refine bgoR false [(33,500001)] Tryd.func32 ?_;simp only [go_sem,simprocAttr,hg,w1]);(refine Gi 5 hm kr kr ?_;simp only [go_sem,simprocAttr]);(repeat' (first | ((refine Jqa (hW0) ?_);simp only [go_sem,simprocAttr]) | fail));refine SWP.loop (fun x:Nat×Nat×Forest×List UInt8=>⟨Ba 94 [(0,.ptr 1000 0 0),(1,.p (.sl (valL v))),(2,.p (.int .i64 x.1)),(3,.p (.int .i64 dp)),(9,.ptr 9 0 0),(10,.p (.str [91,93])),(35,.p (.int .i64 kids.len)),(36,.p (.int .i64 x.2.1))],[(9,.var 45 [.p (.int .i64 5),.p (.int .i64 kids.len),.p (.str nm),.p (.str s),.p (.bool g),.p (.int .i64 e)]),(500001,.row 5 1 (bstr x.2.2.2)),(1000,.var 59 [.ptr 1000 0 0,.own 500001 0 x.2.2.2.length,.p (.bool false)])]⟩) (PrGo v kids (i+1) false (out ++ [91]) rest) (fun x=>x.2.2.1.enc.length) (i+1,0,kids,(out ++ [91])) Jqd ⟨by simp,h2,rfl,by simp,by simp,Nat.le_refl _,ok3,sh3,Jvj ok2⟩ ?_;rintro ⟨j,kk,F,o1⟩ hx;have hxl:=hx.h5;simp only [List.length_append,List.length_cons,List.length_nil] at hxl
  match F,hx,hxl with
  | .nil,hx,hxl =>
   obtain ⟨e1,e2,e3⟩:=Ju9 hx;subst e1 e2;have hL:=Jsf o1 dp;have hW:=Jqi [93] o1 (by simp only [Bl,List.length_nil] at hxl;omega) sm;have hend:o1 ++ [93]=out ++ Jqf (.mk 5 s g e kids):=by rw [e3,Jrk];simp
   have hj:i+1+kids.enc.length=i+(kids.enc.length+1):=by omega
   rw [← hend,← hj];(refine lws ?_;simp only [go_sem,simprocAttr]);(repeat' (first | (apply iteI <;> intro h)|((refine Jqa (hL) ?_);simp only [go_sem,simprocAttr])|(exfalso;omega)))
   all_goals (refine Gi 5 hm kr kr ?_;simp only [go_sem,simprocAttr])
   (repeat' (first | ((refine Jqa (hW) ?_);simp only [go_sem,simprocAttr]) | fail))
  | .cons nm' t' r,hx,hxl =>
   have hkk:=hx.h1;simp only [Forest.len] at hkk;have hdr:=hx.h2;simp only [A0,List.append_assoc] at hdr;have h3':=hx.h3;have h6':=hx.h6;simp only at h6';simp only [A0,List.length_append] at h3' hxl;have okt:=(Fs.1 hx.ok).1;have sht:Jqu (t'.enc nm'):=Jvb (by have:=hx.sh;rwa [A0] at this);have hval:valid nm'=true:=hx.nm (nm',t') (by rw [Forest.list];exact List.mem_cons_self);have hep:=Et t' nm';have hb:=Jsc t' nm' okt sht;have hnl:nm'.length≤200:=by
    obtain ⟨k',s',g',e',kids'⟩:=t';exact (sht ⟨k',kids'.len,nm',s',g',e'⟩ (by rw [A6];exact List.mem_cons_self)).2
   have hql:=Jrv nm';have c0:((kk:Int)<(kids.len:Int))=True:=eq_true omg;have w2:=wadd (i:=kk) omg;have w3:=wadd (i:=dp) omg;have hgj:∃ c:List PV,(valL v)[j]? = some c∧c[2]? = some (.str nm')∧∃ a0 a1 a3 a4 a5,c=[a0,a1,.str nm',a3,a4,a5]:=by
    obtain ⟨k',s',g',e',kids'⟩:=t';have:=D5 (by rw [hdr,A6];rfl:v.drop j=⟨k',kids'.len,nm',s',g',e'⟩ :: (kids'.enc ++ (r.enc ++ rest)));rw [C9] at this;exact ⟨_,this,rfl,_,_,_,_,_,rfl⟩
   obtain ⟨_,hgj,_,a0,a1,a3,a4,a5,rfl⟩:=hgj;have hIH:=fun (o4:List UInt8) (ho:o4.length+2600 * (t'.enc nm').length≤1000000000)=>ih t' nm' v (r.enc ++ rest) j (dp+1) o4 omg okt sht hv hdr omg ho
   by_cases h0:kk=0
   ·have c1:((0:Int)<(kk:Int))=False:=eq_false omg;have hL:=Jsf o1 (dp+1);have hP:=hIH o1 (by (try simp only [List.length_append,List.length_cons,List.length_nil]);omega);have hst:=Jrm hx;have e4:o1 ++ ((if decide (kk=0) then [] else [44]) ++ ((if false then refQ nm' ++ [58] else []) ++ Jqf t'))=o1 ++ Jqf t':=by simp [h0]
    rw [e4] at hst;(refine lws ?_;simp only [go_sem,simprocAttr,c0,w3,c1]);(repeat' (first | ((refine Jqa (hL) ?_);simp only [go_sem,simprocAttr,w3]) | fail));(repeat' (first | ((refine Jqa (hP) ?_);simp only [go_sem,simprocAttr,w2]) | fail));exact ⟨_,hst,by simp only [A0,List.length_append];have:=Et t' nm';omega,Jqd⟩
   ·have c1:((0:Int)<(kk:Int))=True:=eq_true omg;have hL:=Jsf (o1 ++ [44]) (dp+1);have hW1:=Jqi [44] o1 omg sm;have hP:=hIH (o1 ++ [44]) (by (try simp only [List.length_append,List.length_cons,List.length_nil]);omega);have hst:=Jrm hx;have e4:o1 ++ ((if decide (kk=0) then [] else [44]) ++ ((if false then refQ nm' ++ [58] else []) ++ Jqf t'))=(o1 ++ [44]) ++ Jqf t':=by simp [h0]
    rw [e4] at hst;(refine lws ?_;simp only [go_sem,simprocAttr,c0,c1]);(repeat' (first | ((first | (refine Jqa (hW1) ?_)|(refine Jqa (hL) ?_));simp only [go_sem,simprocAttr,w3]) | fail));(repeat' (first | ((refine Jqa (hP) ?_);simp only [go_sem,simprocAttr,w2]) | fail));exact ⟨_,hst,by simp only [A0,List.length_append];have:=Et t' nm';omega,Jqd⟩
 ·by_cases h6:k=6
  ·subst h6;have hW0:=Jqi [123] out omg sm;(refine bgoR false [(33,500001)] Tryd.func32 ?_;simp only [go_sem,simprocAttr,hg,w1]);(refine Gi 5 hm kr kr ?_;simp only [go_sem,simprocAttr]);(repeat' (first | ((refine Jqa (hW0) ?_);simp only [go_sem,simprocAttr]) | fail));refine SWP.loop (fun x:Nat×Nat×Forest×List UInt8=>⟨Ba 94 [(0,.ptr 1000 0 0),(1,.p (.sl (valL v))),(2,.p (.int .i64 x.1)),(3,.p (.int .i64 dp)),(9,.ptr 9 0 0),(10,.p (.str [123,125])),(35,.p (.int .i64 kids.len)),(36,.p (.int .i64 x.2.1))],[(9,.var 45 [.p (.int .i64 6),.p (.int .i64 kids.len),.p (.str nm),.p (.str s),.p (.bool g),.p (.int .i64 e)]),(500001,.row 5 1 (bstr x.2.2.2)),(1000,.var 59 [.ptr 1000 0 0,.own 500001 0 x.2.2.2.length,.p (.bool false)])]⟩) (PrGo v kids (i+1) true (out ++ [123]) rest) (fun x=>x.2.2.1.enc.length) (i+1,0,kids,(out ++ [123])) Jqd ⟨by simp,h2,rfl,by simp,by simp,Nat.le_refl _,ok3,sh3,Jvj ok2⟩ ?_;rintro ⟨j,kk,F,o1⟩ hx;have hxl:=hx.h5;simp only [List.length_append,List.length_cons,List.length_nil] at hxl
   match F,hx,hxl with
   | .nil,hx,hxl =>
    obtain ⟨e1,e2,e3⟩:=Ju9 hx;subst e1 e2;have hL:=Jsf o1 dp;have hW:=Jqi [125] o1 (by simp only [Bl,List.length_nil] at hxl;omega) sm;have hend:o1 ++ [125]=out ++ Jqf (.mk 6 s g e kids):=by rw [e3,Jrk];simp
    have hj:i+1+kids.enc.length=i+(kids.enc.length+1):=by omega
    rw [← hend,← hj];(refine lws ?_;simp only [go_sem,simprocAttr]);(repeat' (first | (apply iteI <;> intro h)|((refine Jqa (hL) ?_);simp only [go_sem,simprocAttr])|(exfalso;omega)))
    all_goals (refine Gi 5 hm kr kr ?_;simp only [go_sem,simprocAttr])
    (repeat' (first | ((refine Jqa (hW) ?_);simp only [go_sem,simprocAttr]) | fail))
   | .cons nm' t' r,hx,hxl =>
    have hkk:=hx.h1;simp only [Forest.len] at hkk;have hdr:=hx.h2;simp only [A0,List.append_assoc] at hdr;have h3':=hx.h3;have h6':=hx.h6;simp only at h6';simp only [A0,List.length_append] at h3' hxl;have okt:=(Fs.1 hx.ok).1;have sht:Jqu (t'.enc nm'):=Jvb (by have:=hx.sh;rwa [A0] at this);have hval:valid nm'=true:=hx.nm (nm',t') (by rw [Forest.list];exact List.mem_cons_self);have hep:=Et t' nm';have hb:=Jsc t' nm' okt sht;have hnl:nm'.length≤200:=by
     obtain ⟨k',s',g',e',kids'⟩:=t';exact (sht ⟨k',kids'.len,nm',s',g',e'⟩ (by rw [A6];exact List.mem_cons_self)).2
    have hql:=Jrv nm';have c0:((kk:Int)<(kids.len:Int))=True:=eq_true omg;have w2:=wadd (i:=kk) omg;have w3:=wadd (i:=dp) omg;have hgj:∃ c:List PV,(valL v)[j]? = some c∧c[2]? = some (.str nm')∧∃ a0 a1 a3 a4 a5,c=[a0,a1,.str nm',a3,a4,a5]:=by
     obtain ⟨k',s',g',e',kids'⟩:=t';have:=D5 (by rw [hdr,A6];rfl:v.drop j=⟨k',kids'.len,nm',s',g',e'⟩ :: (kids'.enc ++ (r.enc ++ rest)));rw [C9] at this;exact ⟨_,this,rfl,_,_,_,_,_,rfl⟩
    obtain ⟨_,hgj,_,a0,a1,a3,a4,a5,rfl⟩:=hgj;have hIH:=fun (o4:List UInt8) (ho:o4.length+2600 * (t'.enc nm').length≤1000000000)=>ih t' nm' v (r.enc ++ rest) j (dp+1) o4 omg okt sht hv hdr omg ho
    by_cases h0:kk=0
    ·have c1:((0:Int)<(kk:Int))=False:=eq_false omg;have hL:=Jsf o1 (dp+1);have hQ:=Kt nm' omg hval;have hW2:=Jqi (refQ nm') o1 (by (try simp only [List.length_append,List.length_cons,List.length_nil]);omega) omg;have hW3:=Jqi [58] (o1 ++ refQ nm') (by (try simp only [List.length_append,List.length_cons,List.length_nil]);omega) sm;have hP:=hIH (o1 ++ refQ nm' ++ [58]) (by (try simp only [List.length_append,List.length_cons,List.length_nil]);omega);have hst:=Jrm hx;have e4:o1 ++ ((if decide (kk=0) then [] else [44]) ++ ((if true then refQ nm' ++ [58] else []) ++ Jqf t'))=(o1 ++ refQ nm' ++ [58]) ++ Jqf t':=by simp [h0]
     rw [e4] at hst;(refine lws ?_;simp only [go_sem,simprocAttr,c0,w3,c1]);(repeat' (first | ((refine Jqa (hL) ?_);simp only [go_sem,simprocAttr]) | fail));(refine Gi 9 hm kr kr ?_;simp only [go_sem,simprocAttr,hgj]);(repeat' (first | ((first | (refine Jqh (hQ) ?_)|(refine Jqa (hW2) ?_)|(refine Jqa (hW3) ?_)|(refine Jqa (hP) ?_));simp only [go_sem,simprocAttr,w2,w3]) | fail));exact ⟨_,hst,by simp only [A0,List.length_append];have:=Et t' nm';omega,Jqd⟩
    ·have c1:((0:Int)<(kk:Int))=True:=eq_true omg;have hL:=Jsf (o1 ++ [44]) (dp+1);have hW1:=Jqi [44] o1 omg sm;have hQ:=Kt nm' omg hval;have hW2:=Jqi (refQ nm') (o1 ++ [44]) (by (try simp only [List.length_append,List.length_cons,List.length_nil]);omega) omg;have hW3:=Jqi [58] ((o1 ++ [44]) ++ refQ nm') (by (try simp only [List.length_append,List.length_cons,List.length_nil]);omega) sm;have hP:=hIH ((o1 ++ [44]) ++ refQ nm' ++ [58]) (by (try simp only [List.length_append,List.length_cons,List.length_nil]);omega);have hst:=Jrm hx;have e4:o1 ++ ((if decide (kk=0) then [] else [44]) ++ ((if true then refQ nm' ++ [58] else []) ++ Jqf t'))=((o1 ++ [44]) ++ refQ nm' ++ [58]) ++ Jqf t':=by simp [h0]
     rw [e4] at hst;(refine lws ?_;simp only [go_sem,simprocAttr,c0,c1]);(repeat' (first | ((first | (refine Jqa (hW1) ?_)|(refine Jqa (hL) ?_));simp only [go_sem,simprocAttr,w3]) | fail));(refine Gi 9 hm kr kr ?_;simp only [go_sem,simprocAttr,hgj]);(repeat' (first | ((first | (refine Jqh (hQ) ?_)|(refine Jqa (hW2) ?_)|(refine Jqa (hW3) ?_)|(refine Jqa (hP) ?_));simp only [go_sem,simprocAttr,w2,w3]) | fail));exact ⟨_,hst,by simp only [A0,List.length_append];have:=Et t' nm';omega,Jqd⟩
  ·obtain ⟨p1,p2,p3⟩:=Jsw ok h5 h6;subst p2;have c5:(k<5)=True:=eq_true p1.1;have hS:=Jxg ⟨k,0,[],s,g,e⟩ nm p1 shs out omg;have hct:Jqf (.mk k s g e .nil)=Jrw ⟨k,0,[],s,g,e⟩:=by rw [Jrk,if_neg h5,if_neg h6]
   have hl0:((Forest.nil.len:Nat):Int)=0:=rfl;rw [hl0] at hg;rw [hct,Bl,List.length_nil,Nat.zero_add];(refine bgoR false [(23,500001)] Tryd.func32 ?_;simp only [go_sem,simprocAttr,hg,w1,c5]);(repeat' (first | ((refine Jqa (hS) ?_);simp only [go_sem,simprocAttr]) | fail))
theorem Jxy (t:Tree) (nm:List UInt8) (v rest:List Node) (i dp:Nat) (ok:okT t) (sh:Jqu (t.enc nm)) (hv:v.length≤300000) (h:v.drop i=t.enc nm ++ rest) (hd:dp≤1000000):Det cx 32 [.ptr 1000 0 0,.p (.sl (valL v)),.p (.int .i64 i),.p (.int .i64 dp)] [(1000,.var 59 [.p .nptr,.p .snil,.p (.bool false)])] (.p (.int .i64 (i+(t.enc nm).length:Nat))) [(900,.row 5 1 (bstr (Jqf t))),(1000,.var 59 [.ptr 1000 0 0,.own 900 0 (Jqf t).length,.p (.bool false)])]:=by
 have hle:=L9 h (fun e=>by have e2:(t.enc nm ++ rest).length=0:=(by rw [e];rfl);have:=Et t nm;rw [List.length_append] at e2;omega);rw [List.length_append] at hle;have w1:=wadd (i:=i) omg;obtain ⟨k,s,g,e,kids⟩:=t;have hh:=h;rw [A6] at hh;have hg:=D5 hh;rw [C9] at hg;have h2:v.drop (i+1)=kids.enc ++ rest:=by rw [← List.drop_drop,hh];rfl
 obtain ⟨ok1,ok2,ok3⟩:=Lu.1 ok;rw [A6] at sh;have sh3:=Jxh sh;have shs:=(sh _ List.mem_cons_self).1;have helen:((Tree.mk k s g e kids).enc nm).length=kids.enc.length+1:=by rw [A6];rfl
 rw [helen] at hle ⊢;have hkl:=Jqz kids;by_cases h5:k=5
 ·subst h5;have hW0:=Jra [91] sm;(refine bgoR false [(33,900)] Tryd.func32 ?_;simp only [go_sem,simprocAttr,hg,w1]);(refine Gi 5 hm kr kr ?_;simp only [go_sem,simprocAttr]);(repeat' (first | ((refine Jqa (hW0) ?_);simp only [go_sem,simprocAttr]) | fail));refine SWP.loop (fun x:Nat×Nat×Forest×List UInt8=>⟨Ba 94 [(0,.ptr 1000 0 0),(1,.p (.sl (valL v))),(2,.p (.int .i64 x.1)),(3,.p (.int .i64 dp)),(9,.ptr 9 0 0),(10,.p (.str [91,93])),(35,.p (.int .i64 kids.len)),(36,.p (.int .i64 x.2.1))],[(9,.var 45 [.p (.int .i64 5),.p (.int .i64 kids.len),.p (.str nm),.p (.str s),.p (.bool g),.p (.int .i64 e)]),(33,.row 5 1 (bstr x.2.2.2)),(1000,.var 59 [.ptr 1000 0 0,.own 33 0 x.2.2.2.length,.p (.bool false)])]⟩) (PrGo v kids (i+1) false [91] rest) (fun x=>x.2.2.1.enc.length) (i+1,0,kids,[91]) Jqd ⟨by simp,h2,rfl,by simp,by simp,Nat.le_refl _,ok3,sh3,Jvj ok2⟩ ?_;rintro ⟨j,kk,F,o1⟩ hx;have hxl:=hx.h5;simp only [List.length_append,List.length_cons,List.length_nil] at hxl
  match F,hx,hxl with
  | .nil,hx,hxl =>
   obtain ⟨e1,e2,e3⟩:=Ju9 hx;subst e1 e2;have hL:=Jsf o1 dp;have hW:=Jqi [93] o1 (by simp only [Bl,List.length_nil] at hxl;omega) sm;have hend:o1 ++ [93]=Jqf (.mk 5 s g e kids):=by rw [e3,Jrk];simp
   have hj:i+1+kids.enc.length=i+(kids.enc.length+1):=by omega
   rw [← hend,← hj];(refine lws ?_;simp only [go_sem,simprocAttr]);(repeat' (first | (apply iteI <;> intro h)|((refine Jqa (hL) ?_);simp only [go_sem,simprocAttr])|(exfalso;omega)))
   all_goals (refine Gi 5 hm kr kr ?_;simp only [go_sem,simprocAttr])
   (repeat' (first | ((refine Jqa (hW) ?_);simp only [go_sem,simprocAttr]) | fail))
  | .cons nm' t' r,hx,hxl =>
   have hkk:=hx.h1;simp only [Forest.len] at hkk;have hdr:=hx.h2;simp only [A0,List.append_assoc] at hdr;have h3':=hx.h3;have h6':=hx.h6;simp only at h6';simp only [A0,List.length_append] at h3' hxl;have okt:=(Fs.1 hx.ok).1;have sht:Jqu (t'.enc nm'):=Jvb (by have:=hx.sh;rwa [A0] at this);have hval:valid nm'=true:=hx.nm (nm',t') (by rw [Forest.list];exact List.mem_cons_self);have hep:=Et t' nm';have hb:=Jsc t' nm' okt sht;have hnl:nm'.length≤200:=by
    obtain ⟨k',s',g',e',kids'⟩:=t';exact (sht ⟨k',kids'.len,nm',s',g',e'⟩ (by rw [A6];exact List.mem_cons_self)).2
   have hql:=Jrv nm';have c0:((kk:Int)<(kids.len:Int))=True:=eq_true omg;have w2:=wadd (i:=kk) omg;have w3:=wadd (i:=dp) omg;have hgj:∃ c:List PV,(valL v)[j]? = some c∧c[2]? = some (.str nm')∧∃ a0 a1 a3 a4 a5,c=[a0,a1,.str nm',a3,a4,a5]:=by
    obtain ⟨k',s',g',e',kids'⟩:=t';have:=D5 (by rw [hdr,A6];rfl:v.drop j=⟨k',kids'.len,nm',s',g',e'⟩ :: (kids'.enc ++ (r.enc ++ rest)));rw [C9] at this;exact ⟨_,this,rfl,_,_,_,_,_,rfl⟩
   obtain ⟨_,hgj,_,a0,a1,a3,a4,a5,rfl⟩:=hgj;have hIH:=fun (o4:List UInt8) (ho:o4.length+2600 * (t'.enc nm').length≤1000000000)=>Jve _ t' nm' v (r.enc ++ rest) j (dp+1) o4 (Nat.le_refl _) okt sht hv hdr omg ho
   by_cases h0:kk=0
   ·have c1:((0:Int)<(kk:Int))=False:=eq_false omg;have hL:=Jsf o1 (dp+1);have hP:=hIH o1 (by (try simp only [List.length_append,List.length_cons,List.length_nil]);omega);have hst:=Jrm hx;have e4:o1 ++ ((if decide (kk=0) then [] else [44]) ++ ((if false then refQ nm' ++ [58] else []) ++ Jqf t'))=o1 ++ Jqf t':=by simp [h0]
    rw [e4] at hst;(refine lws ?_;simp only [go_sem,simprocAttr,c0,w3,c1]);(repeat' (first | ((refine Jqa (hL) ?_);simp only [go_sem,simprocAttr,w3]) | fail));(repeat' (first | ((refine Jqa (hP) ?_);simp only [go_sem,simprocAttr,w2]) | fail));exact ⟨_,hst,by simp only [A0,List.length_append];have:=Et t' nm';omega,Jqd⟩
   ·have c1:((0:Int)<(kk:Int))=True:=eq_true omg;have hL:=Jsf (o1 ++ [44]) (dp+1);have hW1:=Jqi [44] o1 omg sm;have hP:=hIH (o1 ++ [44]) (by (try simp only [List.length_append,List.length_cons,List.length_nil]);omega);have hst:=Jrm hx;have e4:o1 ++ ((if decide (kk=0) then [] else [44]) ++ ((if false then refQ nm' ++ [58] else []) ++ Jqf t'))=(o1 ++ [44]) ++ Jqf t':=by simp [h0]
    rw [e4] at hst;(refine lws ?_;simp only [go_sem,simprocAttr,c0,c1]);(repeat' (first | ((first | (refine Jqa (hW1) ?_)|(refine Jqa (hL) ?_));simp only [go_sem,simprocAttr,w3]) | fail));(repeat' (first | ((refine Jqa (hP) ?_);simp only [go_sem,simprocAttr,w2]) | fail));exact ⟨_,hst,by simp only [A0,List.length_append];have:=Et t' nm';omega,Jqd⟩
 ·by_cases h6:k=6
  ·subst h6;have hW0:=Jra [123] sm;(refine bgoR false [(33,900)] Tryd.func32 ?_;simp only [go_sem,simprocAttr,hg,w1]);(refine Gi 5 hm kr kr ?_;simp only [go_sem,simprocAttr]);(repeat' (first | ((refine Jqa (hW0) ?_);simp only [go_sem,simprocAttr]) | fail));refine SWP.loop (fun x:Nat×Nat×Forest×List UInt8=>⟨Ba 94 [(0,.ptr 1000 0 0),(1,.p (.sl (valL v))),(2,.p (.int .i64 x.1)),(3,.p (.int .i64 dp)),(9,.ptr 9 0 0),(10,.p (.str [123,125])),(35,.p (.int .i64 kids.len)),(36,.p (.int .i64 x.2.1))],[(9,.var 45 [.p (.int .i64 6),.p (.int .i64 kids.len),.p (.str nm),.p (.str s),.p (.bool g),.p (.int .i64 e)]),(33,.row 5 1 (bstr x.2.2.2)),(1000,.var 59 [.ptr 1000 0 0,.own 33 0 x.2.2.2.length,.p (.bool false)])]⟩) (PrGo v kids (i+1) true [123] rest) (fun x=>x.2.2.1.enc.length) (i+1,0,kids,[123]) Jqd ⟨by simp,h2,rfl,by simp,by simp,Nat.le_refl _,ok3,sh3,Jvj ok2⟩ ?_;rintro ⟨j,kk,F,o1⟩ hx;have hxl:=hx.h5;simp only [List.length_append,List.length_cons,List.length_nil] at hxl
   match F,hx,hxl with
   | .nil,hx,hxl =>
    obtain ⟨e1,e2,e3⟩:=Ju9 hx;subst e1 e2;have hL:=Jsf o1 dp;have hW:=Jqi [125] o1 (by simp only [Bl,List.length_nil] at hxl;omega) sm;have hend:o1 ++ [125]=Jqf (.mk 6 s g e kids):=by rw [e3,Jrk];simp
    have hj:i+1+kids.enc.length=i+(kids.enc.length+1):=by omega
    rw [← hend,← hj];(refine lws ?_;simp only [go_sem,simprocAttr]);(repeat' (first | (apply iteI <;> intro h)|((refine Jqa (hL) ?_);simp only [go_sem,simprocAttr])|(exfalso;omega)))
    all_goals (refine Gi 5 hm kr kr ?_;simp only [go_sem,simprocAttr])
    (repeat' (first | ((refine Jqa (hW) ?_);simp only [go_sem,simprocAttr]) | fail))
   | .cons nm' t' r,hx,hxl =>
    have hkk:=hx.h1;simp only [Forest.len] at hkk;have hdr:=hx.h2;simp only [A0,List.append_assoc] at hdr;have h3':=hx.h3;have h6':=hx.h6;simp only at h6';simp only [A0,List.length_append] at h3' hxl;have okt:=(Fs.1 hx.ok).1;have sht:Jqu (t'.enc nm'):=Jvb (by have:=hx.sh;rwa [A0] at this);have hval:valid nm'=true:=hx.nm (nm',t') (by rw [Forest.list];exact List.mem_cons_self);have hep:=Et t' nm';have hb:=Jsc t' nm' okt sht;have hnl:nm'.length≤200:=by
     obtain ⟨k',s',g',e',kids'⟩:=t';exact (sht ⟨k',kids'.len,nm',s',g',e'⟩ (by rw [A6];exact List.mem_cons_self)).2
    have hql:=Jrv nm';have c0:((kk:Int)<(kids.len:Int))=True:=eq_true omg;have w2:=wadd (i:=kk) omg;have w3:=wadd (i:=dp) omg;have hgj:∃ c:List PV,(valL v)[j]? = some c∧c[2]? = some (.str nm')∧∃ a0 a1 a3 a4 a5,c=[a0,a1,.str nm',a3,a4,a5]:=by
     obtain ⟨k',s',g',e',kids'⟩:=t';have:=D5 (by rw [hdr,A6];rfl:v.drop j=⟨k',kids'.len,nm',s',g',e'⟩ :: (kids'.enc ++ (r.enc ++ rest)));rw [C9] at this;exact ⟨_,this,rfl,_,_,_,_,_,rfl⟩
    obtain ⟨_,hgj,_,a0,a1,a3,a4,a5,rfl⟩:=hgj;have hIH:=fun (o4:List UInt8) (ho:o4.length+2600 * (t'.enc nm').length≤1000000000)=>Jve _ t' nm' v (r.enc ++ rest) j (dp+1) o4 (Nat.le_refl _) okt sht hv hdr omg ho
    by_cases h0:kk=0
    ·have c1:((0:Int)<(kk:Int))=False:=eq_false omg;have hL:=Jsf o1 (dp+1);have hQ:=Kt nm' omg hval;have hW2:=Jqi (refQ nm') o1 (by (try simp only [List.length_append,List.length_cons,List.length_nil]);omega) omg;have hW3:=Jqi [58] (o1 ++ refQ nm') (by (try simp only [List.length_append,List.length_cons,List.length_nil]);omega) sm;have hP:=hIH (o1 ++ refQ nm' ++ [58]) (by (try simp only [List.length_append,List.length_cons,List.length_nil]);omega);have hst:=Jrm hx;have e4:o1 ++ ((if decide (kk=0) then [] else [44]) ++ ((if true then refQ nm' ++ [58] else []) ++ Jqf t'))=(o1 ++ refQ nm' ++ [58]) ++ Jqf t':=by simp [h0]
     rw [e4] at hst;(refine lws ?_;simp only [go_sem,simprocAttr,c0,w3,c1]);(repeat' (first | ((refine Jqa (hL) ?_);simp only [go_sem,simprocAttr]) | fail));(refine Gi 9 hm kr kr ?_;simp only [go_sem,simprocAttr,hgj]);(repeat' (first | ((first | (refine Jqh (hQ) ?_)|(refine Jqa (hW2) ?_)|(refine Jqa (hW3) ?_)|(refine Jqa (hP) ?_));simp only [go_sem,simprocAttr,w2,w3]) | fail));exact ⟨_,hst,by simp only [A0,List.length_append];have:=Et t' nm';omega,Jqd⟩
    ·have c1:((0:Int)<(kk:Int))=True:=eq_true omg;have hL:=Jsf (o1 ++ [44]) (dp+1);have hW1:=Jqi [44] o1 omg sm;have hQ:=Kt nm' omg hval;have hW2:=Jqi (refQ nm') (o1 ++ [44]) (by (try simp only [List.length_append,List.length_cons,List.length_nil]);omega) omg;have hW3:=Jqi [58] ((o1 ++ [44]) ++ refQ nm') (by (try simp only [List.length_append,List.length_cons,List.length_nil]);omega) sm;have hP:=hIH ((o1 ++ [44]) ++ refQ nm' ++ [58]) (by (try simp only [List.length_append,List.length_cons,List.length_nil]);omega);have hst:=Jrm hx;have e4:o1 ++ ((if decide (kk=0) then [] else [44]) ++ ((if true then refQ nm' ++ [58] else []) ++ Jqf t'))=((o1 ++ [44]) ++ refQ nm' ++ [58]) ++ Jqf t':=by simp [h0]
     rw [e4] at hst;(refine lws ?_;simp only [go_sem,simprocAttr,c0,c1]);(repeat' (first | ((first | (refine Jqa (hW1) ?_)|(refine Jqa (hL) ?_));simp only [go_sem,simprocAttr,w3]) | fail));(refine Gi 9 hm kr kr ?_;simp only [go_sem,simprocAttr,hgj]);(repeat' (first | ((first | (refine Jqh (hQ) ?_)|(refine Jqa (hW2) ?_)|(refine Jqa (hW3) ?_)|(refine Jqa (hP) ?_));simp only [go_sem,simprocAttr,w2,w3]) | fail));exact ⟨_,hst,by simp only [A0,List.length_append];have:=Et t' nm';omega,Jqd⟩
  ·obtain ⟨p1,p2,p3⟩:=Jsw ok h5 h6;subst p2;have c5:(k<5)=True:=eq_true p1.1;have hS:=Jwk ⟨k,0,[],s,g,e⟩ nm p1 shs;have hct:Jqf (.mk k s g e .nil)=Jrw ⟨k,0,[],s,g,e⟩:=by rw [Jrk,if_neg h5,if_neg h6]
   have hl0:((Forest.nil.len:Nat):Int)=0:=rfl;rw [hl0] at hg;rw [hct,Bl,List.length_nil,Nat.zero_add];(refine bgoR false [(23,900)] Tryd.func32 ?_;simp only [go_sem,simprocAttr,hg,w1,c5]);(repeat' (first | ((refine Jqa (hS) ?_);simp only [go_sem,simprocAttr]) | fail))
theorem J6j (t:Tree) (ok:okT t):Jqf t≠[]:=by
 obtain ⟨a,r,e,_⟩:=Jtd ok;rw [e];simp
theorem Jyo (t:Tree) (ok:okT t) (sh:Jqu (t.enc [])) (hv:(t.enc []).length≤300000):Det cx 23 [.p (.sl (valL (t.enc [])))] [] (.p (.str (Jqf t))) []:=by
 have hP:=Jxy t [] (t.enc []) [] 0 0 ok sh hv sm omg;have hb:=Jsc t [] ok sh;have hS:=J3z (Jqf t) omg (J6j t ok);(refine bgo Tryd.func23 ?_;simp only [go_sem,simprocAttr]);(repeat' (first | ((first | (refine Jqa (hP) ?_)|(refine Jqa (hS) ?_));simp only [go_sem,simprocAttr]) | fail))
end Go.LX
namespace Go.LX
open Go Go.RowKit Go.Proofs
section
variable {X:Cx} {Γ:Base}
def SWPx (X:Cx) (Γ:Base) (c:Code) (R:Exit→Act→World→Prop) (s:St):Prop:=∀ a w,RRm Γ [] s a w→c.wpIn (F0 none) 1 X.P R a w
theorem SWPx.region {id:Nat} {ops:Array Oper} {R:Exit→Act→World→Prop} {s:St} (hG:Γ.G=X.G) (h:lops X (ops.toList.map (·.dst)) ops.toList (fun s'=>∀ a w,RRm Γ [] s' a w→R .normal a w) s):SWPx X Γ (.region id ops false) R s:=fun a w hr=>by
 refine wpIn_region ?_;have:=J6 (X:=X) (Γ:=Γ) (ro:=none) (n:=1) (ms:=[]) (ops:=ops) (Q:=R) hG (fun s a w h1 h2=>h1 a w h2) ops.toList 0 sm s a w hr h;rw [Array.length_toList] at this;rw [List.range_eq_range'];exact this
theorem SWPx.seq {A B:Code} {R:Exit→Act→World→Prop} {s:St} (h:SWPx X Γ A (Exit.then (B.wpIn (F0 none) 1 X.P R) R) s):SWPx X Γ (A.seq B) R s:=fun a w hr=>wpIn_seq (h a w hr)
theorem Jqv {id:Nat} {ops:Array Oper} {B:Code} {R:Exit→Act→World→Prop} {s:St} (hG:Γ.G=X.G) (h:lops X (ops.toList.map (·.dst)) ops.toList (SWPx X Γ B R) s):SWPx X Γ ((Code.region id ops false).seq B) R s :=
 SWPx.seq (SWPx.region hG h)
theorem SWPx.cond {c:Operand} {A B:Code} {R:Exit→Act→World→Prop} {s:St} (h:O0 (s.get c) (SWPx X Γ A R) (SWPx X Γ B R) s):SWPx X Γ (.cond c A B) R s:=fun a w hr=>by
 obtain ⟨hd,β,Im,hx⟩:=hr;have hc:=A2 hx.fit c;unfold O0 at h;split at h
 ·rename_i t hg;rw [hg] at hc;cases hv:a.eval c <;> rw [hv] at hc <;> cases hc;exact wpIn_cond_split hv (fun ht=>h.1 ht a w ⟨hd,β,Im,hx⟩) (fun ht=>h.2 ht a w ⟨hd,β,Im,hx⟩)
 ·exact h.elim
theorem SWPx.block {id:Nat} {A:Code} {R:Exit→Act→World→Prop} {s:St} (h:SWPx X Γ A (Exit.inBlock id R) s):SWPx X Γ (.block id A) R s:=fun a w hr=>wpIn_block (h a w hr)
theorem SWPx.exit {id:Nat} {R:Exit→Act→World→Prop} {s:St} (h:∀ a w,RRm Γ [] s a w→R (.exit id) a w):SWPx X Γ (.exit id) R s:=fun a w hr=>wpIn_exit (h a w hr)
theorem SWPx.skip {R:Exit→Act→World→Prop} {s:St} (h:∀ a w,RRm Γ [] s a w→R .normal a w):SWPx X Γ .skip R s:=fun a w hr=>wpIn_skip (h a w hr)
theorem SWP.run {c:Code} {Q:Ex→St→Prop} {s:St} {a:Act} {w:World} (hG:GOK X none Γ) (hr:RR Γ s a w) (h:SWP X none c Q s):c.wpIn (F0 none) 1 X.P (QQ Γ Q) a w:=h Γ a w hG hr
theorem J5z {P:Program} {KI:Nat→Act→World→Prop} {n:Nat} {c:Code} {R:Exit→Act→World→Prop} (round:∀ k a w,k≤n→KI k a w→c.wpIn (F0 none) 1 P (fun e a w=>(e=.normal∧k<n∧KI (k+1) a w)∨((∃ id,e=.exit id)∧R e a w)) a w) :
  ∀ k a w,k≤n→KI k a w→(Code.loop c).wpIn (F0 none) 1 P R a w:=by
 intro k a w hk hI b kk cs hro hb hroom;have key:∀ (m k:Nat),n - k=m→k≤n→∀ a w,KI k a w→∀ (b:Frame) (kk:List Item) (cs:List Frame),b.roundOf=(F0 none).round→(F0 none).fn b.fn→(F0 none).room (cs.length+1+1) →
   ∃ e a' w',R e a' w'∧ArrivesIn (Machine.fenced P (F0 none)) P (lone (b.atR a (.code c :: .inLoop c :: kk)) cs w) b kk cs e a' w':=by
  intro m
  induction m with
  | zero =>
   intro k hm hk a w hI b kk cs hro hb hroom;obtain ⟨e,a₁,w₁,hq,harr⟩:=round k a w hk hI b (.inLoop c :: kk) cs hro hb hroom;rcases hq with ⟨_,h,_⟩ | ⟨⟨id,rfl⟩,hR⟩
   ·omega
   ·exact ⟨.exit id,a₁,w₁,hR,.pass (x:=.inLoop c) rfl (fun _ _=>.inl sm) harr⟩
  | succ m ih =>
   intro k hm hk a w hI b kk cs hro hb hroom;obtain ⟨e,a₁,w₁,hq,harr⟩:=round k a w hk hI b (.inLoop c :: kk) cs hro hb hroom;rcases hq with ⟨rfl,h,hI'⟩ | ⟨⟨id,rfl⟩,hR⟩
   ·obtain ⟨e₂,a₂,w₂,hq₂,harr₂⟩:=ih (k+1) omg omg a₁ w₁ hI' b kk cs hro hb hroom;exact ⟨e₂,a₂,w₂,hq₂,.of_steps (StepsIn.trans harr (.one (fenced_calm hb hroom rfl) stepR_inLoop)) harr₂⟩
   ·exact ⟨.exit id,a₁,w₁,hR,.pass (x:=.inLoop c) rfl (fun _ _=>.inl sm) harr⟩
 obtain ⟨e,a',w',hq,harr⟩:=key _ k rfl hk a w hI b kk cs hro hb hroom;exact ⟨e,a',w',hq,.of_steps (.one (fenced_calm hb hroom rfl) stepR_loop) harr⟩
structure Out (Γ:Base) (w:World) (Im:Nat→Prop):Prop where
 os:w.os=Γ.W0.os
 tape:w.tape=Γ.W0.tape
 output:w.output=Γ.W0.output
 size:Γ.W0.heap.size≤w.heap.size
 block:∀ k,k<Γ.W0.heap.size→¬ Γ.may k→w.heap[k]? = Γ.W0.heap[k]?
 imin:∀ b,Γ.Im0 b→Im b
 imnew:∀ b,Im b→Γ.Im0 b∨Γ.W0.heap.size≤b∨Γ.may b
theorem Out.grow {w w':World} {Im Im':Nat→Prop} (h:Out Γ w Im) (g:Grow w Im w' Im'):Out Γ w' Im' where
 os:=g.os.trans h.os
 tape:=g.tape.trans h.tape
 output:=g.output.trans h.output
 size:=Nat.le_trans h.size g.size
 block k hk hm:=(g.block k (Nat.lt_of_lt_of_le hk h.size)).trans (h.block k hk hm)
 imin b hb:=g.im b (h.imin b hb)
 imnew b hb:=(g.new b hb).elim (h.imnew b) fun h'=>.inr (.inl (Nat.le_trans h.size h'))
def Jya:Nat:=77777
def at1 (B:Nat):Env:=fun d=>if d=Jya then some ⟨B,1,1⟩ else none
def Jus (X:Cx) (w:World) (Im:Nat→Prop) (B:Nat):Base:=⟨w,at1 B,Im,fun _=>False,[],X.G,X.mono⟩
structure KI (X:Cx) (Γ:Base) (n:Nat) (ws:List (Nat×PV)) (m B:Nat) (J:World→(Nat→Prop)→Prop) (a:Act) (w:World):Prop where
 defers:a.defers=[]
 size:a.tmps.size=n
 ex:∃ Im,Out Γ w Im∧X.G w Im∧(∀ b,Im b→b<w.heap.size)∧J w Im∧a.tmps.getD m undef=.map (some B)∧∀ x∈ws,PRep w Im (a.tmps.getD x.1 undef) x.2
def Jwt (m:Nat) (ws:List (Nat×PV)):List (Nat×L):=(m,.mref Jya) :: ws.map fun x=>(x.1,.p x.2)
theorem Jvx {n i:Nat} {l:L}:∀ {ws:List (Nat×L)},(Ba n ws)[i]? = some l→l=.junk∨(i,l)∈ws
 | [],h=>by
  simp only [Ba,List.getElem?_replicate] at h;split at h
  ·exact .inl (Option.some.inj h).symm
  ·cases h
 | (j,x) :: ws,h=>by
  simp only [Ba,List.getElem?_set] at h;split at h
  ·rename_i e;subst e;split at h
   ·cases h;exact .inr List.mem_cons_self
   ·cases h
  ·rcases Jvx h with h | h
   ·exact .inl h
   ·exact .inr (List.mem_cons_of_mem _ h)
theorem KI.into {n:Nat} {ws:List (Nat×PV)} {m B:Nat} {J:World→(Nat→Prop)→Prop} {a:Act} {w:World} (h:KI X Γ n ws m B J a w):∃ Im,Out Γ w Im∧J w Im∧(∀ b,Im b→b<w.heap.size)∧RRm (Jus X w Im B) [] ⟨Ba n (Jwt m ws),[]⟩ a w:=by
 obtain ⟨Im,h1,h2,h3,h4,h5,h6⟩:=h.ex;refine ⟨Im,h1,h4,h3,h.defers,at1 B,Im,?_⟩;refine {
     fit:={ size:=by rw [h.size,Cg],tmps:=fun i l hl=>?_,regs:=fun d r hr=>(by cases hr),nodup:=.nil,live:=fun d r loc hr=>(by cases hr),apart:=fun d r d' r' l1 l2 hr=>(by cases hr),im:=h3 }
     os:=rfl,tape:=rfl,output:=rfl,size:=Nat.le_refl _,block:=fun _ _ _=>rfl,imin:=fun _ h=>h,imnew:=fun _ h=>.inl h,regnew:=fun d r loc hr=>(by cases hr),fixed:=fun _ _ _=>rfl
     glob:=h2,marks:=fun D hD=>(by cases hD),mnod:=.nil }
 rcases Jvx hl with rfl | hm
 ·trivial
 ·rcases List.mem_cons.1 hm with hm | hm
  ·cases hm;exact ⟨⟨B,1,1⟩,by simp [at1],h5⟩
  ·obtain ⟨x,hx,e⟩:=List.mem_map.1 hm;cases e;exact h6 x hx
theorem Jv4 {n:Nat} {ws:List (Nat×PV)} {m B:Nat} {J:World→(Nat→Prop)→Prop} {a:Act} {w w0:World} {Im0:Nat→Prop} {s:St} (ho:Out Γ w0 Im0) (hj:∀ w Im,Grow w0 Im0 w Im→J w Im) (hn:s.tmps.length=n) (hm:s.tmps[m]? = some (.mref Jya)) (hw:∀ x∈ws,s.tmps[x.1]? = some (.p x.2))
  (h:RRm (Jus X w0 Im0 B) [] s a w):KI X Γ n ws m B J a w:=by
 obtain ⟨hd,β,Im,hx⟩:=h;have g:Grow w0 Im0 w Im:=hx.grown fun _ h=>h
 refine ⟨hd,hx.fit.size.trans hn,Im,ho.grow g,hx.glob,hx.fit.im,hj w Im g,?_,fun x hm'=>hx.fit.tmps x.1 _ (hw x hm')⟩;obtain ⟨loc,h1,h2⟩:=hx.fit.tmps m _ hm;have hf:=hx.fixed Jya de de;have e:(Jus X w0 Im0 B).β0 Jya=some ⟨B,1,1⟩:=by simp [Jus,at1]
 have hf':β Jya=some ⟨B,1,1⟩:=hf.trans e;rw [h1] at hf';cases hf';exact h2
end
attribute [local irreducible] Al Bi SWP
open Go.Maps Go.WideElems Go.ChangeShapes
def occ1 (keys:List (List UInt8)) (s:List UInt8) (k:Nat):List Int:=((List.range k).filter fun i=>decide (keys[i]? = some s)).map fun i:Nat=>(i:Int)
theorem Jyu {keys:List (List UInt8)} {s t:List UInt8} {k:Nat} (h:keys[k]? = some t):occ1 keys s (k+1)=occ1 keys s k ++ if t=s then [(k:Int)] else []:=by
 unfold occ1;rw [List.range_succ,List.filter_append,List.map_append];by_cases e:t=s
 ·simp [h,e]
 ·simp [h,e]
abbrev DU:=DataW Unit
def GrpD (keys:List (List UInt8)) (k:Nat) (D:DU):Prop:=∀ s:List UInt8,s.length≤9223372036854775807→(D.atKey (.string s) .nil=.nil∧occ1 keys s k=[])∨D.atKey (.string s) .nil=.slice (lits .i64 (occ1 keys s k)) []
theorem J3y {keys:List (List UInt8)} {k:Nat} {D:DU} {t:List UInt8} (hk:keys[k]? = some t) (hm:IsMap D) (hl:WideAt.IsKeyLit (.string t)) (h:GrpD keys k D):GrpD keys (k+1) (D.put (.string t) (.slice (lits .i64 (occ1 keys t (k+1))) [])):=by
 intro s hs;by_cases e:s=t
 ·subst e;exact .inr (atKey_put_same hm hl _ _)
 ·have hne:Lit.string s≠Lit.string t:=fun h=>e (by cases h;rfl)
  rw [atKey_put_other hne];have:occ1 keys s (k+1)=occ1 keys s k:=by rw [Jyu hk,if_neg (fun h=>e h.symm),List.append_nil]
  rw [this];exact h s hs
def GJ (B:Nat) (keys:List (List UInt8)) (k:Nat) (w:World) (Im:Nat→Prop):Prop:=∃ D:DU,w.ownsGroups Tryd.prog 9 (B+1) 3 .i64 B k D∧w.Shuns B Im∧¬ Im B∧GrpD keys k D
theorem J2n {w:World} {B k:Nat} {D:DU} (h:w.ownsGroups Tryd.prog 9 (B+1) 3 .i64 B k D):B<w.heap.size:=by
 obtain ⟨es,cl,hb,_⟩:=h;exact (Array.getElem?_eq_some_iff.1 hb).1
theorem J5k {w:World} {B k:Nat} {D:DU} (h:w.ownsGroups Tryd.prog 9 (B+1) 3 .i64 B k D):IsMap D:=by
 obtain ⟨es,cl,_,_,_,h,_⟩:=h;exact ⟨_,h⟩
theorem J2x {B:Nat} {keys:List (List UInt8)} {k:Nat} {w w':World} {Im Im':Nat→Prop} (h:GJ B keys k w Im) (g:Grow w Im w' Im'):GJ B keys k w' Im':=by
 obtain ⟨D,h1,h2,h3,h4⟩:=h;have hlt:=J2n h1;have hg:w.grownBy w' none:=⟨g.os,g.tape,g.output,g.size,fun k hk _=>g.block k hk⟩
 refine ⟨D,h1.kept hg sm (fun es cl hb x hx=>by cases x.val.ownBlock <;> simp),(h2.reno h1 (fun b hb=>g.new b hb)).kept hg hlt sm,fun hb=>?_,h4⟩;rcases g.new B hb with h | h
 ·exact h3 h
 ·omega
theorem Jt7 {a:Act} {d:Tmp} {v:Value}:(a.put (some d) v).tmps.size=a.tmps.size:=by simp [Act.put]
theorem Jq1 {a:Act} {d t:Tmp} {v:Value} (h:d≠t):(a.put (some d) v).tmps.getD t undef=a.tmps.getD t undef:=by
 simp [Act.put,Array.getD_eq_getD_getElem?,Array.getElem?_setIfInBounds,h]
theorem J3k {a:Act} {d:Tmp} {v:Value} (h:d<a.tmps.size):(a.put (some d) v).tmps.getD d undef=v:=by
 simp [Act.put,Array.getD_eq_getD_getElem?,Array.getElem?_setIfInBounds,h]
theorem Jtm {P:Program} {ops:Array Oper} {R:Exit→Act→World→Prop} {i:Nat} {rest:List Nat} {o:Oper} {a:Act} {w w':World} {v:Value} (ho:ops[i]? = some o) (hg:o.guard=none) (hd:∀ c,o.op≠.defer c) (hr:(execOp a.eval o).run P w=.ok (.value v) w') (h:wpOpsIn (F0 none) 1 P ops R rest (a.put o.dst v) w'):wpOpsIn (F0 none) 1 P ops R (i :: rest) a w:=by
 simp only [wpOpsIn,ho];rw [if_pos (by simp [Region.wanted,hg])];exact B5 hd hr h
theorem J6b {P:Program} {ops:Array Oper} {R:Exit→Act→World→Prop} {i:Nat} {rest:List Nat} {o:Oper} {a:Act} {w w':World} (ho:ops[i]? = some o) (hg:o.guard=none) (hd:∀ c,o.op≠.defer c) (hr:(execOp a.eval o).run P w=.ok .skip w') (h:wpOpsIn (F0 none) 1 P ops R rest (a.put o.dst undef) w'):wpOpsIn (F0 none) 1 P ops R (i :: rest) a w:=by
 simp only [wpOpsIn,ho];rw [if_pos (by simp [Region.wanted,hg])];exact Ij hd hr h
theorem kStr:Keyed Tryd.prog 9:=string_keyed Tryd.underlying9
theorem gInt:(Tryd.prog.info? 3).map (fun i=>(i.zero,i.size,i.bytes))=some (some (.int .i64 0),1,8):=kr
theorem gZs (w:World):(zeroValue 26).run Tryd.prog w=.ok (.slice none 0 0) w:=kr
theorem J57 (w:World) (n:Int):(Instr.buildSlice 26 1 #[(0,.int .i64 n)]).run Tryd.prog w=.ok (.slice (some ⟨w.heap.size,0,none⟩) 1 1) (w.alloc (.cells #[.int .i64 n] 3)):=by
 have hz:(zeroValue 3).run Tryd.prog w=.ok (.int .i64 0) w:=kr;have hs:(sizeOf 3).run Tryd.prog w=.ok 1 w:=kr;have hlt:¬ 1 * 1 > 2 ^ 24:=by decide
 have hz0:¬ 1 * 1=0:=by decide
 have f1:Instr.fill (fun i=>some (i * 1,1)) ((Array.range (1 * 1)).map fun x=>(Value.int .i64 0).cells[x % (Value.int .i64 0).cells.size]!) [(0,Value.int .i64 n)]=some #[.int .i64 n]:=by
  simp [Instr.fill,Value.cells];apply Array.ext';simp [Array.range,List.range_succ]
 simp only [Instr.buildSlice,Sem.run_bind,run_underlying Tryd.underlying26,Result.andThen_ok,hs,Sem.run_ite,if_neg hlt,Sem.run_pure,if_neg hz0,hz,f1,Go.newRow,run_newObj];rfl
theorem J3a (ty:TypeId) {B k:Nat} {keys:List (List UInt8)} {w:World} {Im:Nat→Prop} {t:List UInt8} (hk:k≤100000) (hkey:keys[k]? = some t) (ht:t.length≤1000000000) (hil:∀ b,Im b→b<w.heap.size) (h:GJ B keys k w Im) :
  ∃
   v w1 v' w2 w3,(Instr.lookup 46 (.map (some B)) (.string ⟨⟨t⟩⟩) false).run Tryd.prog w=.ok v w∧(Instr.buildSlice 26 1 #[(0,.int .i64 k)]).run Tryd.prog w=.ok (.slice (some ⟨w.heap.size,0,none⟩) 1 1) w1 ∧
   (Builtin.append_ #[26,26] ty #[v,.slice (some ⟨w.heap.size,0,none⟩) 1 1]).run Tryd.prog w1=.ok v' w2∧(Instr.mapUpdate 46 (.map (some B)) (.string ⟨⟨t⟩⟩) v').run Tryd.prog w2=.ok () w3 ∧
   GJ B keys (k+1) w3 Im∧w3.os=w.os∧w3.tape=w.tape∧w3.output=w.output∧w.heap.size≤w3.heap.size∧(∀ b,b<w.heap.size→b≠B→(b≤B∨Im b)→w3.heap[b]? = w.heap[b]?):=by
 obtain ⟨D,hown,hsh,hB,hG⟩:=h;have hlt:=J2n hown;have hsz:(⟨⟨t⟩⟩:ByteArray).size≤maxLen:=by
  have:(⟨⟨t⟩⟩:ByteArray).size=t.length:=rfl;have:maxLen=9223372036854775807:=by decide
  omega
 have hkl:keyOf Tryd.prog 9 (.string ⟨⟨t⟩⟩)=some (.string t):=Go.WideMaps.keyOf_string_mk Tryd.underlying9 hsz;have hmx:maxLen=9223372036854775807:=by decide
 obtain ⟨v,zs,hrun,hat,hoi,hzl,hback⟩:=hown.at kStr Tryd.underlying46 (gZs w) omg hkl;have hzs:zs=occ1 keys t k:=by
  rcases hG t omg with ⟨h1,h2⟩ | h1
  ·rw [hat] at h1;rcases hoi.datum (H:=Unit) with ⟨_,h3⟩ | h3
   ·rw [h2,h3]
   ·rw [h3] at h1;cases h1
  ·rw [hat] at h1;rcases hoi.datum (H:=Unit) with ⟨h3,_⟩ | h3
   ·rw [h3] at h1;cases h1
   ·rw [h3] at h1;injection h1 with h1 _
    unfold lits at h1;exact (List.map_inj_right (fun a b hab=>by simpa using hab)).1 h1
 have hvs:∀ g,v.ownBlock=some g→¬ Im g:=by
  have hown':=hown;obtain ⟨es,cl,hb,F,_⟩:=hown';rcases Maps.fit_look false kStr Tryd.underlying46 (gZs w) hb F hkl with ⟨hrun',_,_⟩ | ⟨e0,y,hm0,_,hrun',_,_,_⟩
  ·rw [hrun] at hrun';obtain rfl:v=.slice none 0 0:=by simpa using hrun'
   intro g hg';cases hg'
  ·rw [hrun] at hrun';obtain rfl:v=e0.val:=by simpa using hrun'
   exact fun g hg'=>hsh es cl hb e0 hm0 g hg'
 obtain ⟨i0,hi,hz0,hz1,hz2⟩:=info_parts gInt;have hoi1:(w.alloc (.cells #[.int .i64 k] 3)).ownsInts (B+1) 3 .i64 v zs:=hoi.alloc _;have happ:∃ v' w',(Builtin.append_ #[26,26] ty #[v,.slice (some ⟨w.heap.size,0,none⟩) 1 1]).run Tryd.prog (w.alloc (.cells #[.int .i64 k] 3))=.ok v' w'∧w'.ownsRow (B+1) 3 1 v' (zs.length+1) (zs.map (Value.int .i64) ++ [.int .i64 k])∧(w.alloc (.cells #[.int .i64 k] 3)).grownBy w' v.ownBlock ∧
   (v'=.slice none 0 0 ↔ v=.slice none 0 0∧1=0)∧(v'.ownBlock=v.ownBlock∨v'.ownBlock=some (w.alloc (.cells #[.int .i64 k] 3)).heap.size) :=
  run_append_own_at (P:=Tryd.prog) _ (B+1) 26 ty 3 i0 (.int .i64 0) 1 8 Tryd.underlying26 hi hz0 hz1 hz2 rfl de v zs.length _ hoi1.1 ⟨w.heap.size,0,none⟩ 1 1 [.int .i64 k] rfl (cell_one_new _ _ _) (by intro u hu;simp at hu;subst hu;rfl) omg omg (by simp;omega)
 obtain ⟨v',w2,ha,hown',hg2,_,hloc⟩:=happ;have hwf:(Lit.int .i64 (k:Int)).wf=true:=WalkArith.wf_i64 omg;have happd:=hoi1.appended hown' hwf;have hall:w.grownBy w2 v.ownBlock:=(World.grownBy_alloc w _ _).trans hg2;obtain ⟨w3,hr3,hown3,hg3⟩:=hback w2 v' (zs ++ [(k:Int)]) hall happd (by simp;omega) (hloc.imp id (fun h=>⟨_,h,by simp⟩));have hno:∀ g,v'.ownBlock=some g→¬ Im g:=fun g hg hI=>by
  rcases hloc with h | h
  ·exact hvs g (h ▸ hg) hI
  ·rw [h] at hg;have:=hil g hI;simp at hg;omega
 have hsh3:w3.Shuns B Im:=by
  obtain ⟨es,cl,hb,F,hs,_,hbb,_⟩:=hown;have hb1:w2.heap[B]? = some (.map es cl):=(hall.block B hlt (fun e1=>by have:=(hoi.1.lt B e1.symm).1;omega)).trans hb;obtain ⟨es',cl',hb2,hwho⟩:=stored_who kStr Tryd.underlying46 hb1 F (Nat.lt_of_le_of_lt hs omg) hkl hr3;intro es2 cl2 hb2' y hy g hyg;obtain ⟨rfl,rfl⟩:es'=es2∧cl'=cl2:=by rw [hb2] at hb2';simpa using hb2'
  rcases hwho y hy with ⟨hy0,_⟩ | ⟨_,hval⟩
  ·exact hsh es cl hb y hy0 g hyg
  ·exact hno g (hval ▸ hyg)
 have hocc:zs ++ [(k:Int)]=occ1 keys t (k+1):=by rw [Jyu hkey,if_pos rfl,hzs]
 rw [happd.datum_pos sm,hocc] at hown3;refine ⟨v,_,v',w2,w3,hrun,J57 w k,ha,hr3,⟨_,hown3,hsh3,hB,J3y hkey (J5k hown) (kStr.key hkl) hG⟩,hg3.os.trans hall.os,hg3.tape.trans hall.tape,hg3.output.trans hall.output,Nat.le_trans hall.size hg3.size,fun b hb hne hor=>?_⟩;refine (hg3.block b (Nat.lt_of_lt_of_le hb hall.size) (fun e=>hne (Option.some.inj e))).trans (hall.block b hb fun e=>?_);rcases hor with h | h
 ·have:=(hoi.1.lt b e.symm).1;omega
 ·exact hvs b e.symm h
end Go.LX
namespace Go.LX
open Go Go.RowKit Go.Proofs
attribute [local irreducible] Al SWP Bi
open Go.Maps Go.WideElems Go.ChangeShapes
theorem J0a {a:Act} {d:Option Tmp} {v:Value}:(a.put d v).defers=a.defers:=by cases d <;> rfl
theorem Jr8 {a:Act} {d t:Tmp} {v:Value} (h:d≠t):(a.put (some d) v).eval (.tmp t)=a.eval (.tmp t):=Jq1 h
theorem Jtg {a:Act} {d:Tmp} {v:Value} (h:d<a.tmps.size):(a.put (some d) v).eval (.tmp d)=v:=J3k h
theorem J28 {a:Act} {v:Value}:a.put none v=a:=rfl
theorem Jzu {Γ:Base} {B k:Nat} {keys:List (List UInt8)} {t:List UInt8} {ws:List (Nat×PV)} {a:Act} {w:World} {R:Exit→Act→World→Prop} {id:Nat} {o0 o1 o2 o3 o4 o5 o6 o7 o8:Oper}
  (e0:o0.op=.move (.tmp 5)∧o0.dst=some 24∧o0.guard=none) (e1:o1.op=.move (.tmp 8)∧o1.dst=some 25∧o1.guard=none) (e2:o2.op=.move (.tmp 5)∧o2.dst=some 26∧o2.guard=none) (e3:o3.op=.move (.tmp 8)∧o3.dst=some 27∧o3.guard=none)
  (e4:o4.op=.lookup 46 (.tmp 26) (.tmp 27) false∧o4.dst=some 28∧o4.guard=none) (e5:o5.op=.move (.tmp 6)∧o5.dst=some 29∧o5.guard=none) (e6:o6.op=.buildSlice 26 1 #[(0,.tmp 29)]∧o6.dst=some 30∧o6.guard=none)
  (e7:o7.op=.call { callee:=.builtin .append,args:=#[.tmp 28,.tmp 30],argTypes:=#[26,26] } ∧ o7.dst=some 31∧o7.guard=none) (e8:o8.op=.mapUpdate 46 (.tmp 24) (.tmp 25) (.tmp 31)∧o8.dst=none∧o8.guard=none)
  (hB:Γ.W0.heap.size≤B) (hk:k≤100000) (hkey:keys[k]? = some t) (ht:t.length≤1000000000) (hws:∀ x∈ws,x.1<24)
  (h:KI cx Γ 68 ((6,.int .i64 k) :: (8,.str t) :: ws) 5 B (GJ B keys k) a w) (hR:∀ a w,KI cx Γ 68 ws 5 B (GJ B keys (k+1)) a w→R .normal a w):(Code.region id #[o0,o1,o2,o3,o4,o5,o6,o7,o8] false).wpIn (F0 none) 1 cx.P R a w:=by
 obtain ⟨hd,hsz,Im,h1,h2,h3,h4,h5,h6⟩:=h;have s6:=h6 (6,.int .i64 k) List.mem_cons_self;have s8:=h6 (8,.str t) (List.mem_cons_of_mem _ List.mem_cons_self);simp only at s6 s8;have v6:a.eval (.tmp 6)=.int .i64 k:=by show a.tmps.getD 6 undef=_;generalize a.tmps.getD 6 undef=x at s6;cases s6;rfl
 have v8:a.eval (.tmp 8)=.string ⟨⟨t⟩⟩:=by show a.tmps.getD 8 undef=_;generalize a.tmps.getD 8 undef=x at s8;cases s8;rfl
 obtain ⟨v,w1,v',w2,w3,r1,r2,r3,r4,hJ,q1,q2,q3,q4,q5⟩:=J3a o7.type hk hkey ht h3 h4;have v5:a.eval (.tmp 5)=.map (some B):=h5;have hBn:¬ Im B:=by obtain ⟨_,_,_,h,_⟩:=h4;exact h
 refine wpIn_region ?_;show wpOpsIn _ _ _ _ _ [0,1,2,3,4,5,6,7,8] _ _;refine Jtm (o:=o0) rfl e0.2.2 (by rw [e0.1];simp) (v:=.map (some B)) (w':=w) (by unfold execOp;rw [e0.1];simp [v5]) ?_;refine Jtm (o:=o1) rfl e1.2.2 (by rw [e1.1];simp) (v:=.string ⟨⟨t⟩⟩) (w':=w) (by unfold execOp;rw [e1.1,e0.2.1];simp [Jr8,v8]) ?_;refine Jtm (o:=o2) rfl e2.2.2 (by rw [e2.1];simp) (v:=.map (some B)) (w':=w) (by unfold execOp;rw [e2.1,e0.2.1,e1.2.1];simp [Jr8,v5]) ?_;refine Jtm (o:=o3) rfl e3.2.2 (by rw [e3.1];simp) (v:=.string ⟨⟨t⟩⟩) (w':=w) (by unfold execOp;rw [e3.1,e0.2.1,e1.2.1,e2.2.1];simp [Jr8,v8]) ?_;refine Jtm (o:=o4) rfl e4.2.2 (by rw [e4.1];simp) (v:=v) (w':=w) (by unfold execOp;rw [e4.1,e0.2.1,e1.2.1,e2.2.1,e3.2.1];simp [Jr8,Jtg,Jt7,hsz];rw [show cx.P=Tryd.prog from rfl,r1];rfl) ?_;refine Jtm (o:=o5) rfl e5.2.2 (by rw [e5.1];simp) (v:=.int .i64 k) (w':=w) (by unfold execOp;rw [e5.1,e0.2.1,e1.2.1,e2.2.1,e3.2.1,e4.2.1];simp [Jr8,v6]) ?_;refine Jtm (o:=o6) rfl e6.2.2 (by rw [e6.1];simp) (v:=.slice (some ⟨w.heap.size,0,none⟩) 1 1) (w':=w1) (by unfold execOp;rw [e6.1,e0.2.1,e1.2.1,e2.2.1,e3.2.1,e4.2.1,e5.2.1];simp [Jr8,Jtg,Jt7,hsz];rw [show cx.P=Tryd.prog from rfl,r2];rfl) ?_;refine Jtm (o:=o7) rfl e7.2.2 (by rw [e7.1];simp) (v:=v') (w':=w2) (by unfold execOp;rw [e7.1,e0.2.1,e1.2.1,e2.2.1,e3.2.1,e4.2.1,e5.2.1,e6.2.1];simp [Jr8,Jtg,Jt7,hsz,resolve,invoke,builtin];rw [show cx.P=Tryd.prog from rfl,r3];rfl) ?_;refine J6b (o:=o8) rfl e8.2.2 (by rw [e8.1];simp) (w':=w3) (by unfold execOp;rw [e8.1,e0.2.1,e1.2.1,e2.2.1,e3.2.1,e4.2.1,e5.2.1,e6.2.1,e7.2.1];simp [Jr8,Jtg,Jt7,hsz];rw [show cx.P=Tryd.prog from rfl,r4];rfl) ?_;rw [e8.2.1,e0.2.1,e1.2.1,e2.2.1,e3.2.1,e4.2.1,e5.2.1,e6.2.1,e7.2.1,J28];have hkp:Keeps w Im w3 Im:=⟨fun _ h=>h,fun b hb=>q5 b (h3 b hb) (fun e=>hBn (e ▸ hb)) (.inr hb)⟩
 show R .normal _ _;refine hR _ _ ⟨by simp [J0a,hd],by simp [Act.put,hsz],Im,⟨q1.trans h1.os,q2.trans h1.tape,q3.trans h1.output,Nat.le_trans h1.size q4,fun b hb hm=>(q5 b (Nat.lt_of_lt_of_le hb h1.size) omg (.inl omg)).trans (h1.block b hb hm),h1.imin,h1.imnew⟩,cx.mono hkp h2,fun b hb=>Nat.lt_of_lt_of_le (h3 b hb) q4,hJ,?_,fun x hx=>?_⟩
 ·rw [Jq1 (show (31:Nat)≠5 by decide),Jq1 (show (30:Nat)≠5 by decide),Jq1 (show (29:Nat)≠5 by decide),Jq1 (show (28:Nat)≠5 by decide),Jq1 (show (27:Nat)≠5 by decide),Jq1 (show (26:Nat)≠5 by decide),Jq1 (show (25:Nat)≠5 by decide),Jq1 (show (24:Nat)≠5 by decide)];exact h5
 ·obtain ⟨i,q⟩:=x;have hi:i<24:=hws _ hx;have hp:=(h6 _ (List.mem_cons_of_mem _ (List.mem_cons_of_mem _ hx))).mono hkp;simp only at hp ⊢;rw [Jq1 (show (31:Nat)≠i by omega),Jq1 (show (30:Nat)≠i by omega),Jq1 (show (29:Nat)≠i by omega),Jq1 (show (28:Nat)≠i by omega),Jq1 (show (27:Nat)≠i by omega),Jq1 (show (26:Nat)≠i by omega),Jq1 (show (25:Nat)≠i by omega),Jq1 (show (24:Nat)≠i by omega)];exact hp
end Go.LX
