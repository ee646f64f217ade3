/- Membership: the closures. -/
import Derived.Test.YtpaiiekgdgjjnaaGreatDoorLxV
set_option linter.unusedSimpArgs false
set_option linter.unusedVariables false
set_option linter.unusedSectionVars false
set_option linter.unnecessarySimpa false
set_option maxRecDepth 100000
set_option maxHeartbeats 2000000
namespace Go.LX
open Go Go.RowKit Go.Proofs
attribute [local irreducible] Al SWP Bi
structure VFit (x:Tree):Prop where
 ok:okT x
 fit:FitT x
 len:(x.enc []).length≤1000000
def InOK (t:RT):Prop:=∀ x:Tree,VFit x→Det cx 17 [.p (.sl (rowL (t.enc []))),.p (.sl (valL (x.enc [])))] [] (.p (.bool (inTy t x))) []
theorem VFit.kid {k:Int} {s:List UInt8} {g:Bool} {e:Int} {kids:Forest} (h:VFit (.mk k s g e kids)) {p:KT} (hp:p∈kids.list):VFit p.2:=by
 have h3:=h.len;rw [A6,List.length_cons] at h3;exact ⟨Jut h.ok hp,(Mg h.fit hp).2,by have:=Jd7 hp;omega⟩
theorem k72:cx.kind 53=0:=rfl
theorem k142:cx.kind 132=0:=rfl
theorem k143:cx.kind 134=0:=rfl
theorem k144:cx.kind 135=0:=rfl
theorem k145:cx.kind 136=0:=rfl
theorem k146:cx.kind 137=0:=rfl
theorem Jvp (l:List KT):∀ q∈A4 l,∃ x,q=[x]:=by
 intro q hq;obtain ⟨p,_,rfl⟩:=List.mem_map.1 hq;exact ⟨_,rfl⟩
theorem J5r (l:List RKT):∀ q∈Jqu l,∃ x,q=[x]:=by
 intro q hq;obtain ⟨p,_,rfl⟩:=List.mem_map.1 hq;exact ⟨_,rfl⟩
theorem Jyu {l:List KT} {i:Nat} {x:PV} (h:(A4 l)[i]? = some [x]):∃ q,l[i]? = some q∧x=.sl (valL (q.2.enc [])):=by
 unfold A4 at h;rw [List.getElem?_map] at h;obtain ⟨q,h1,h2⟩:=Option.map_eq_some_iff.1 h;exact ⟨q,h1,by cases h2;rfl⟩
theorem tpartL_x {l:List RKT} {i:Nat} {x:PV} (h:(Jqu l)[i]? = some [x]):∃ q,l[i]? = some q∧x=.sl (rowL (q.2.enc [])):=by
 unfold Jqu at h;rw [List.getElem?_map] at h;obtain ⟨q,h1,h2⟩:=Option.map_eq_some_iff.1 h;exact ⟨q,h1,by cases h2;rfl⟩
theorem d_In1 (rows:List RKT) (r:RKT) (h0:rows[0]? = some r) (hI:InOK r.2) (x:Tree) (hx:VFit x):Det cx 53 [.p (.sl (valL (x.enc []))),.ptr 1000 0 0] [(1000,.var 35 [.p (.sl (Jqu rows))])] (.p (.bool (inTy r.2 x))) [(1000,.var 35 [.p (.sl (Jqu rows))])]:=by
 have hg:=J0v h0;have hC:=hI x hx;(refine bgo Tryz.func53 ?_;simp only [go_sem,simprocAttr,hg]);(repeat' (first | ((refine Jqa (hC) ?_);simp only [go_sem,simprocAttr]) | fail))
theorem J9f {P:Tree→Bool} {l:List KT}:allF (fun i=>P (l.getD i kd0).2) l.length 0=allP P l:=Jxs (P:=fun q:KT=>P q.2) (d:=kd0) (l:=l) (m:=l) (i:=0) rfl
theorem d_allOf (rows:List RKT) (r:RKT) (h0:rows[0]? = some r) (hI:InOK r.2) (l:List KT) (hl:l.length≤1000000) (hx:∀ q∈l,VFit q.2):Det cx 58 [.p (.sl (A4 l)),.fn 53 [1000]] [(1000,.var 35 [.p (.sl (Jqu rows))])] (.p (.bool (allP (inTy r.2) l))) [(1000,.var 35 [.p (.sl (Jqu rows))])]:=by
 have:=Jxt 53 k72 35 (.sl (Jqu rows)) (A4 l) (Jvp l) (by rw [A5];exact hl) (fun i=>inTy r.2 (l.getD i kd0).2) (fun i x h=>by
  obtain ⟨q,hq,rfl⟩:=Jyu h;rw [Jui hq];exact d_In1 rows r h0 hI q.2 (hx q (List.mem_of_getElem? hq)))
 rw [A5,J9f] at this;exact this
theorem d_In11 (t:RT) (hI:InOK t) (x:Tree) (hx:VFit x):Det cx 136 [.p (.sl (valL (x.enc []))),.ptr 1000 0 0] [(1000,.var 23 [.p (.sl (rowL (t.enc [])))])] (.p (.bool (inTy t x))) [(1000,.var 23 [.p (.sl (rowL (t.enc [])))])]:=by
 have hC:=hI x hx;(refine bgo Tryz.func136 ?_;simp only [go_sem,simprocAttr]);(repeat' (first | ((refine Jqa (hC) ?_);simp only [go_sem,simprocAttr]) | fail))
theorem d_allOf1 (t:RT) (hI:InOK t) (l:List KT) (hl:l.length≤1000000) (hx:∀ q∈l,VFit q.2):Det cx 58 [.p (.sl (A4 l)),.fn 136 [1000]] [(1000,.var 23 [.p (.sl (rowL (t.enc [])))])] (.p (.bool (allP (inTy t) l))) [(1000,.var 23 [.p (.sl (rowL (t.enc [])))])]:=by
 have:=Jxt 136 k145 23 (.sl (rowL (t.enc []))) (A4 l) (Jvp l) (by rw [A5];exact hl) (fun i=>inTy t (l.getD i kd0).2) (fun i x h=>by
  obtain ⟨q,hq,rfl⟩:=Jyu h;rw [Jui hq];exact d_In11 t hI q.2 (hx q (List.mem_of_getElem? hq)))
 rw [A5,J9f] at this;exact this
theorem treeL_x {l:List Tree} {i:Nat} {x:PV} (h:(Jqm l)[i]? = some [x]):∃ q,l[i]? = some q∧x=.sl (valL (q.enc [])):=by
 unfold Jqm at h;rw [List.getElem?_map] at h;obtain ⟨q,h1,h2⟩:=Option.map_eq_some_iff.1 h;exact ⟨q,h1,by cases h2;rfl⟩
theorem J71 (l:List Tree):∀ q∈Jqm l,∃ x,q=[x]:=by
 intro q hq;obtain ⟨p,_,rfl⟩:=List.mem_map.1 hq;exact ⟨_,rfl⟩
def tr0:Tree:=.mk 0 [] false 0 .nil
theorem d_In12 (ks:List Tree) (w:Tree) (h0:ks[0]? = some w) (hw:(w.enc []).length≤1000000) (x:Tree) (hx:(x.enc []).length≤1000000):Det cx 137 [.p (.sl (valL (x.enc []))),.ptr 1000 0 0] [(1000,.var 45 [.p (.sl (Jqm ks))])] (.p (.bool (Jv4 x w))) [(1000,.var 45 [.p (.sl (Jqm ks))])]:=by
 have hg:=Jr4 h0;have hC:=d_vSame (x.enc []) (w.enc []) hx hw;rw [show decide (x.enc []=w.enc [])=Jv4 x w from rfl] at hC;(refine bgo Tryz.func137 ?_;simp only [go_sem,simprocAttr,hg]);(repeat' (first | ((refine Jqa (hC) ?_);simp only [go_sem,simprocAttr]) | fail))
theorem J73 (ks:List Tree) (w:Tree) (h0:ks[0]? = some w) (hl:ks.length≤1000000) (hx:∀ q∈ks,(q.enc []).length≤1000000):Det cx 58 [.p (.sl (Jqm ks)),.fn 137 [1000]] [(1000,.var 45 [.p (.sl (Jqm ks))])] (.p (.bool (ks.all fun k=>Jv4 k w))) [(1000,.var 45 [.p (.sl (Jqm ks))])]:=by
 have:=Jxt 137 k146 45 (.sl (Jqm ks)) (Jqm ks) (J71 ks) (by rw [Jqq];exact hl) (fun i=>Jv4 (ks.getD i tr0) w) (fun i x h=>by
  obtain ⟨q,hq,rfl⟩:=treeL_x h;rw [Jui hq];exact d_In12 ks w h0 (hx w (List.mem_of_getElem? h0)) q (hx q (List.mem_of_getElem? hq)))
 rw [Jqq,Jxs (P:=fun k=>Jv4 k w) (d:=tr0) (l:=ks) (m:=ks) (i:=0) rfl] at this;exact this
def Jrf (rows:List RKT) (i:Nat):Nat:=1+((rows.take i).map fun p=>(p.2.enc p.1).length).sum
theorem J38 {rows:List RKT} {i:Nat} {r:RKT} (h:rows[i]? = some r):Jrf rows (i+1)=Jrf rows i+(r.2.enc r.1).length:=by
 unfold Jrf;rw [List.take_add_one,h];simp;omega
theorem Jwq:∀ {f:RF} {i:Nat} {r:RKT},f.list[i]? = some r→∃ b,f.enc.drop (Jrf f.list i - 1)=r.2.enc r.1 ++ b
 | .nil,i,r,h=>by simp [RF.list] at h
 | .cons nm t f,0,r,h=>by
  simp only [RF.list,List.getElem?_cons_zero,Option.some.injEq] at h;subst h;exact ⟨f.enc,by rw [Jqg];simp [Jrf]⟩
 | .cons nm t f,i+1,r,h=>by
  simp only [RF.list,List.getElem?_cons_succ] at h;obtain ⟨b,hb⟩:=Jwq h;refine ⟨b,?_⟩;rw [← hb,Jqg];have e:Jrf (RF.cons nm t f).list (i+1) - 1=(t.enc nm).length+(Jrf f.list i - 1):=by simp [Jrf,RF.list]
  rw [e,← List.drop_drop,List.drop_left]
theorem place_le {f:RF} {i:Nat} {r:RKT} (h:f.list[i]? = some r):Jrf f.list i+(r.2.enc r.1).length≤f.enc.length+1:=by
 obtain ⟨b,hb⟩:=Jwq h;have:=congrArg List.length hb;rw [List.length_drop,List.length_append] at this;have hp:=Jso r.2 r.1;have h1:1≤Jrf f.list i:=by unfold Jrf;omega
 omega
theorem J8x (n:Int) (c:Node) (s:List UInt8) (f:RF) (i:Nat) (r:RKT) (hr:f.list[i]? = some r) (hv:f.enc.length≤999999) (hI:InOK r.2) (vs:List UInt8) (vg:Bool) (ve:Int) (kids:Forest) (hx:VFit (.mk 6 vs vg ve kids)):Det cx 132 [.p (.sl (rowL (r.2.enc []))),.ptr 1000 0 0,.ptr 1001 0 0,.ptr 1002 0 0] [(1000,.var 25 [.p (.sl (valL ((Tree.mk 6 vs vg ve kids).enc [])))]),(1001,.var 23 [.p (.sl (rowL ((RT.mk 2 s n c f).enc [])))]),(1002,.var 3 [.p (.int .i64 (Jrf f.list i))])] (.p (.bool (Jw2 kids.list r.1 (inTy r.2)))) [(1000,.var 25 [.p (.sl (valL ((Tree.mk 6 vs vg ve kids).enc [])))]),(1001,.var 23 [.p (.sl (rowL ((RT.mk 2 s n c f).enc [])))]),(1002,.var 3 [.p (.int .i64 (Jrf f.list (i+1)))])]:=by
 obtain ⟨b,hb⟩:=Jwq hr;have hpl:=place_le hr;have h1:1≤Jrf f.list i:=by unfold Jrf;omega
 have hd:((RT.mk 2 s n c f).enc []).drop (Jrf f.list i)=r.2.enc r.1 ++ b:=by
  obtain ⟨j,hj⟩:∃ j,Jrf f.list i=j+1:=⟨Jrf f.list i - 1,by omega⟩
  rw [hj] at hb ⊢;rw [Jqo,List.drop_succ_cons];exact hb
 obtain ⟨k',n',s',g',e',hga⟩:=J1t hd;have w1:IntKind.i64.wrap ((Jrf f.list i:Int)+((r.2.enc []).length:Int))=(Jrf f.list (i+1):Int):=by
  rw [J38 hr,← J6v r.2 r.1,Aa omg omg];omega
 have hlen:=hx.len;have hF:=Jwr (.mk 6 vs vg ve kids) r.1 hlen;have hfl:Jzu (.mk 6 vs vg ve kids) r.1=Ch r.1 kids.list:=if_pos rfl;rw [hfl] at hF;cases hf:Ch r.1 kids.list with
 | none =>
  rw [hf,Oo] at hF;rw [show Jw2 kids.list r.1 (inTy r.2)=false by unfold Jw2;rw [hf]];(refine bgo Tryz.func132 ?_;simp only [go_sem,simprocAttr]);(repeat' (first | ((first | (refine Jqk ?_)|(refine Jqd (hF) ?_));simp only [go_sem,simprocAttr,hga,w1,Jqi]) | fail))
 | some u =>
  rw [hf,Oo] at hF;rw [show Jw2 kids.list r.1 (inTy r.2)=inTy r.2 u by unfold Jw2;rw [hf]];obtain ⟨p,hp,rfl,_⟩:=H2 hf;have hC:=hI p.2 (hx.kid hp);(refine bgo Tryz.func132 ?_;simp only [go_sem,simprocAttr]);(repeat' (first | ((first | (refine Jqk ?_)|(refine Jqd (hF) ?_)|(refine Jqa (hC) ?_));simp only [go_sem,simprocAttr,hga,w1,Jqi]) | fail))
theorem J9w (n:Int) (c:Node) (s:List UInt8) (f:RF) (hv:f.enc.length≤999999) (hI:∀ r∈f.list,InOK r.2) (vs:List UInt8) (vg:Bool) (ve:Int) (kids:Forest) (hx:VFit (.mk 6 vs vg ve kids)):Det cx 54 [.p (.sl (rowL ((RT.mk 2 s n c f).enc []))),.p (.sl (valL ((Tree.mk 6 vs vg ve kids).enc [])))] [] (.p (.bool ((decide (n≠0) || decide (kids.len=f.list.length)) && objS kids.list f.list (inL f)))) []:=by
 have hfl:=Jrc f;have hll:=Jq3 f;have hA:=J6r 132 k142 25 23 3 (Jqu f.list) (J5r _) (by rw [Jrm];omega) (fun _=>.sl (valL ((Tree.mk 6 vs vg ve kids).enc []))) (fun _=>.sl (rowL ((RT.mk 2 s n c f).enc []))) (fun i=>.int .i64 (Jrf f.list i)) (objB kids.list f.list) (fun _=>True) trivial (fun i x h _=>by
  obtain ⟨r,hr,rfl⟩:=tpartL_x h;refine ⟨_,_,_,?_,fun _=>⟨rfl,rfl,rfl,trivial⟩⟩;rw [show objB kids.list f.list i=Jw2 kids.list r.1 (inTy r.2) by unfold objB;rw [hr]];exact J8x n c s f i r hr hv (hI r (List.mem_of_getElem? hr)) vs vg ve kids hx)
 rw [Jrm,J36 (m:=f.list) (i:=0) rfl,← Jyw] at hA;have hA2:=Al.perm (rs':=[(1002,.var 3 [.p (.int .i64 (Jrf f.list 0))]),(1000,.var 25 [.p (.sl (valL ((Tree.mk 6 vs vg ve kids).enc [])))]),(1001,.var 23 [.p (.sl (rowL ((RT.mk 2 s n c f).enc [])))])]) (by
  refine .trans (.swap _ _ _) ?_;exact .cons _ (.swap _ _ _)) hA
 have hp0:((Jrf f.list 0:Nat):Int)=1:=rfl;rw [hp0] at hA2;have hA3:Det cx 131 _ _ _ _:=hA2;have hP:=Jzj [] 2 s n c f hv de;have hgt:(rowL ((RT.mk 2 s n c f).enc []))[0]? = some [.int .i64 2,.int .i64 f.len,.str [],.str s,.int .i64 n,.int .i64 c.kind,.int .i64 c.many,.str c.name,.str c.s,.bool c.neg,.int .i64 c.e]:=by rw [Jqo];rfl
 have hgv:=Cc [] 6 vs vg ve kids;by_cases hn:n=0
 ·by_cases hk:(kids.len:Int)=(f.len:Int)
  ·have c2:(n=0)=True:=eq_true hn;have c3:((kids.len:Int)=(f.len:Int))=True:=eq_true hk;rw [show (decide (n≠0) || decide (kids.len=f.list.length))=true by simp;right;omega,Bool.true_and];(refine bgo Tryz.func54 ?_;simp only [go_sem,simprocAttr]);(repeat' (first | ((first | (refine Jqk ?_)|(refine Jqa (hP) ?_)|(refine Jqa (hA3) ?_));simp only [go_sem,simprocAttr,hgt,hgv,c2,c3,not_true_eq_false]) | fail))
  ·have c2:(n=0)=True:=eq_true hn;have c3:((kids.len:Int)=(f.len:Int))=False:=eq_false hk;rw [show (decide (n≠0) || decide (kids.len=f.list.length))=false by simp [hn];omega,Bool.false_and];(refine bgo Tryz.func54 ?_;simp only [go_sem,simprocAttr]);(repeat' (first | ((refine Jqk ?_);simp only [go_sem,simprocAttr,hgt,hgv,c2,c3,not_false_eq_true]) | fail))
 ·have c2:(n=0)=False:=eq_false hn;rw [show (decide (n≠0) || decide (kids.len=f.list.length))=true by simp [hn],Bool.true_and];(refine bgo Tryz.func54 ?_;simp only [go_sem,simprocAttr]);(repeat' (first | ((first | (refine Jqk ?_)|(refine Jqa (hP) ?_)|(refine Jqa (hA3) ?_));simp only [go_sem,simprocAttr,hgt,c2]) | fail))
theorem Juj {k:Int} {s:List UInt8} {g:Bool} {e:Int} {kids:Forest}:entK (.mk k s g e kids)=if k=6∧kids.len=2 then (match Ch sKey kids.list,Ch sVal kids.list with
  | some (.mk k' s' _ _ _),some x=>if k'=4 then some (s',x) else none
  | _,_=>none) else none:=rfl
theorem J7j (a b:List UInt8):(Op.bytesLess a b || a == b) = !Op.bytesLess b a:=by
 cases h:Op.bytesLess b a with
 | true =>
  rw [L3 h];simp [Ne.symm (bl_ne h)]
 | false =>
  by_cases he:a=b
  ·simp [he]
  ·rw [Qf h (Ne.symm he)];rfl
theorem d_entry1 (t:RT) (hI:InOK t) (l:List KT) (i:Nat) (q:KT) (hq:l[i]? = some q) (hx:VFit q.2):∃ d0 d1 d2,Det cx 134 [.p (.sl (valL (q.2.enc []))),.ptr 1000 0 0,.ptr 1001 0 0,.ptr 1002 0 0] [(1000,.var 4 [.p (.bool (decide (i=0)))]),(1001,.var 9 [.p (.str (if i=0 then [] else keyK (l.getD (i - 1) kd0).2))]),(1002,.var 23 [.p (.sl (rowL (t.enc [])))])] (.p (.bool (entB (inTy t) l i))) [(1000,.var 4 [.p d0]),(1001,.var 9 [.p d1]),(1002,.var 23 [.p d2])]∧(entB (inTy t) l i=true→d0=.bool (decide (i+1=0))∧d1=.str (if i+1=0 then [] else keyK (l.getD (i+1 - 1) kd0).2)∧d2=.sl (rowL (t.enc []))):=by
 obtain ⟨nm,x⟩:=q;have hg:l.getD i kd0=(nm,x):=Jui hq;have hx:VFit x:=hx;have hE:entB (inTy t) l i=match entK x with
   | none=>false
   | some (key,u)=>(if i=0 then true else Op.bytesLess (keyK (l.getD (i - 1) kd0).2) key) && inTy t u:=by
  unfold entB;rw [hg];rfl
 have hb1:decide (i+1=0)=false:=rfl;have hb2:(if i+1=0 then ([]:List UInt8) else keyK (l.getD (i+1 - 1) kd0).2)=keyK x:=by
  rw [if_neg omg,Nat.add_sub_cancel,hg]
 rw [hb1,hb2,hE];generalize hlast:(if i=0 then ([]:List UInt8) else keyK (l.getD (i - 1) kd0).2)=last;have hF1:=Jwr x sKey hx.len;have hF2:=Jwr x sVal hx.len;unfold sKey at hF1;unfold sVal at hF2;cases x with
 | mk k s g e kids =>
 have hgx:=Cc [] k s g e kids;by_cases hk:k=6
 ·subst hk;rw [show Jzu (.mk 6 s g e kids) [107,101,121]=Ch sKey kids.list from if_pos rfl] at hF1;rw [show Jzu (.mk 6 s g e kids) [118,97,108,117,101]=Ch sVal kids.list from if_pos rfl] at hF2;cases h1:Ch sKey kids.list with
  | none =>
   rw [h1,Oo] at hF1;rw [show entK (.mk 6 s g e kids)=none by rw [Juj,h1];split <;> rfl];cases h2:Ch sVal kids.list with
   | none =>
    rw [h2,Oo] at hF2;refine ⟨.bool (decide (i=0)),.str last,.sl (rowL (t.enc [])),?_,fun h=>by cases h⟩;(refine bgo Tryz.func134 ?_;simp only [go_sem,simprocAttr]);(repeat' (first | ((first | (refine Jqk ?_)|(refine Jqa (hF1) ?_)|(refine Jqa (hF2) ?_));simp only [go_sem,simprocAttr]) | fail))
   | some u =>
    rw [h2,Oo] at hF2;refine ⟨.bool (decide (i=0)),.str last,.sl (rowL (t.enc [])),?_,fun h=>by cases h⟩;(refine bgo Tryz.func134 ?_;simp only [go_sem,simprocAttr]);(repeat' (first | ((first | (refine Jqk ?_)|(refine Jqa (hF1) ?_)|(refine Jqa (hF2) ?_));simp only [go_sem,simprocAttr]) | fail))
  | some kt =>
   rw [h1,Oo] at hF1;cases h2:Ch sVal kids.list with
   | none =>
    rw [h2,Oo] at hF2;rw [show entK (.mk 6 s g e kids)=none by rw [Juj,h1,h2];cases kt;split <;> rfl];refine ⟨.bool (decide (i=0)),.str last,.sl (rowL (t.enc [])),?_,fun h=>by cases h⟩;(refine bgo Tryz.func134 ?_;simp only [go_sem,simprocAttr]);(repeat' (first | ((first | (refine Jqk ?_)|(refine Jqa (hF1) ?_)|(refine Jqa (hF2) ?_));simp only [go_sem,simprocAttr]) | fail))
   | some u =>
    rw [h2,Oo] at hF2;obtain ⟨kk,ks,kg,ke,kkids⟩:=kt;have hgk:=Cc [] kk ks kg ke kkids;by_cases hm2:kids.len=2
    ·by_cases hk4:kk=4
     ·subst hk4;rw [show entK (.mk 6 s g e kids)=some (ks,u) by rw [Juj,if_pos ⟨rfl,hm2⟩,h1,h2];rfl];rw [show keyK (.mk 6 s g e kids)=ks by unfold keyK;rw [Juj,if_pos ⟨rfl,hm2⟩,h1,h2];rfl];obtain ⟨p,hp,rfl,_⟩:=H2 h2;have hC:=hI p.2 (hx.kid hp);have c3:((kids.len:Int)=2)=True:=eq_true omg;by_cases hi0:i=0
      ·rw [if_pos hi0] at hlast;have c4:(i=0)=True:=eq_true hi0;refine ⟨.bool false,.str ks,.sl (rowL (t.enc [])),?_,fun _=>⟨rfl,rfl,rfl⟩⟩;(refine bgo Tryz.func134 ?_;simp only [go_sem,simprocAttr,c4,decide_true,Bool.true_and]);(repeat' (first | ((first | (refine Jqk ?_)|(refine Jqa (hF1) ?_)|(refine Jqa (hF2) ?_)|(refine Jqa (hC) ?_));simp only [go_sem,simprocAttr,hgx,hgk,c3,Bool.true_and]) | fail))
      ·rw [if_neg hi0] at hlast;have c4:(i=0)=False:=eq_false hi0;rw [hlast];have hle:=J7j ks last;cases hbl:Op.bytesLess last ks with
       | true =>
        rw [hbl,Bool.not_true] at hle;refine ⟨.bool false,.str ks,.sl (rowL (t.enc [])),?_,fun _=>⟨rfl,rfl,rfl⟩⟩;(refine bgo Tryz.func134 ?_;simp only [go_sem,simprocAttr,c4,hbl,decide_false,Bool.true_and]);(repeat' (first | ((first | (refine Jqk ?_)|(refine Jqa (hF1) ?_)|(refine Jqa (hF2) ?_)|(refine Jqa (hC) ?_));simp only [go_sem,simprocAttr,hgx,hgk,c3,hle,Bool.true_and,Bool.not_true,Bool.not_false]) | fail))
       | false =>
        rw [hbl,Bool.not_false] at hle;refine ⟨.bool (decide (i=0)),.str last,.sl (rowL (t.enc [])),?_,fun h=>by simp [hi0,hlast,hbl] at h⟩;(refine bgo Tryz.func134 ?_;simp only [go_sem,simprocAttr,c4,hbl,decide_false,Bool.false_and]);(repeat' (first | ((first | (refine Jqk ?_)|(refine Jqa (hF1) ?_)|(refine Jqa (hF2) ?_));simp only [go_sem,simprocAttr,hgx,hgk,c3,hle,Bool.not_true,Bool.not_false]) | fail))
     ·rw [show entK (.mk 6 s g e kids)=none by rw [Juj,if_pos ⟨rfl,hm2⟩,h1,h2];exact if_neg hk4];have c3:((kids.len:Int)=2)=True:=eq_true omg;have c5:(kk=4)=False:=eq_false hk4;refine ⟨.bool (decide (i=0)),.str last,.sl (rowL (t.enc [])),?_,fun h=>by cases h⟩;(refine bgo Tryz.func134 ?_;simp only [go_sem,simprocAttr]);(repeat' (first | ((first | (refine Jqk ?_)|(refine Jqa (hF1) ?_)|(refine Jqa (hF2) ?_));simp only [go_sem,simprocAttr,hgx,hgk,c3,c5,not_false_eq_true]) | fail))
    ·rw [show entK (.mk 6 s g e kids)=none by rw [Juj,if_neg (fun h=>hm2 h.2)]];have c3:((kids.len:Int)=2)=False:=eq_false omg;refine ⟨.bool (decide (i=0)),.str last,.sl (rowL (t.enc [])),?_,fun h=>by cases h⟩;(refine bgo Tryz.func134 ?_;simp only [go_sem,simprocAttr]);(repeat' (first | ((first | (refine Jqk ?_)|(refine Jqa (hF1) ?_)|(refine Jqa (hF2) ?_));simp only [go_sem,simprocAttr,hgx,c3,not_false_eq_true]) | fail))
 ·rw [show Jzu (.mk k s g e kids) [107,101,121]=none from if_neg hk,Oo] at hF1;rw [show Jzu (.mk k s g e kids) [118,97,108,117,101]=none from if_neg hk,Oo] at hF2;rw [show entK (.mk k s g e kids)=none by rw [Juj,if_neg (fun h=>hk h.1)]];refine ⟨.bool (decide (i=0)),.str last,.sl (rowL (t.enc [])),?_,fun h=>by cases h⟩;(refine bgo Tryz.func134 ?_;simp only [go_sem,simprocAttr]);(repeat' (first | ((first | (refine Jqk ?_)|(refine Jqa (hF1) ?_)|(refine Jqa (hF2) ?_));simp only [go_sem,simprocAttr]) | fail))
theorem J8h (t:RT) (hI:InOK t) (l:List KT) (hl:l.length≤1000000) (hx:∀ q∈l,VFit q.2):Det cx 56 [.p (.sl (rowL (t.enc []))),.p (.sl (A4 l))] [] (.p (.bool (entS (inTy t) none l))) []:=by
 have hA:=J1q 134 k143 4 9 23 (A4 l) (Jvp l) (by rw [A5];exact hl) (fun i=>.bool (decide (i=0))) (fun i=>.str (if i=0 then [] else keyK (l.getD (i - 1) kd0).2)) (fun _=>.sl (rowL (t.enc []))) (entB (inTy t) l) (fun _=>True) trivial (fun i x h _=>by
  obtain ⟨q,hq,rfl⟩:=Jyu h;obtain ⟨d0,d1,d2,h1,h2⟩:=d_entry1 t hI l i q hq (hx q (List.mem_of_getElem? hq));exact ⟨d0,d1,d2,h1,fun hb=>⟨(h2 hb).1,(h2 hb).2.1,(h2 hb).2.2,trivial⟩⟩)
 rw [A5,J4y (m:=l) (i:=0) (last:=none) rfl rfl] at hA;have hA2:Det cx 58 [.p (.sl (A4 l)),.fn 134 [1000,1001,1002]] [(1000,.var 4 [.p (.bool true)]),(1001,.var 9 [.p (.str [])]),(1002,.var 23 [.p (.sl (rowL (t.enc [])))])] _ _:=hA;(refine bgo Tryz.func56 ?_;simp only [go_sem,simprocAttr]);(repeat' (first | ((refine Jqa (hA2) ?_);simp only [go_sem,simprocAttr]) | fail))
theorem J26 {t:RT} {s:List UInt8} (hL:Jsn t (Je s).1) {x:Tree} (hx:VFit x) (hi:inTy t x=true):∃ w,getT (Je s).1 x=.ok w∧okT w∧(w.enc []).length=1∧keyV s x=w.enc []∧keyT s x=w:=by
 obtain ⟨u,hu,hk⟩:=hL;obtain ⟨w,hw,hiw⟩:=J7a hu hi;obtain ⟨hlf,_⟩:=leaf_of hk hiw;refine ⟨w,hw,Joe hx.ok hw,?_,?_,?_⟩
 ·cases w with
  | mk k s g e kids =>
   cases kids with
   | nil=>rw [A6,Bl];rfl
   | cons a b c=>cases hlf
 ·unfold keyV;rw [hw]
 ·unfold keyT;rw [hw]
theorem Jxr {t:RT} {s:List UInt8} (hL:Jsn t (Je s).1):∀ {l:List KT},(∀ q∈l,VFit q.2)→allP (inTy t) l=true→Jt3 s l=Jqm (Jrt s l)∧∀ w∈Jrt s l,okT w∧(w.enc []).length=1
 | [],_,_=>⟨rfl,by simp [Jrt]⟩
 | q :: l,hx,ha=>by
  simp only [allP,List.all_cons,Bool.and_eq_true] at ha;obtain ⟨w,_,h2,h3,h4,h5⟩:=J26 hL (hx q List.mem_cons_self) ha.1;obtain ⟨i1,i2⟩:=Jxr (l:=l) hL (fun q hq=>hx q (List.mem_cons_of_mem _ hq)) ha.2;refine ⟨?_,?_⟩
  ·have e1:Jt3 s (q :: l)=[.sl (valL (keyV s q.2))] :: Jt3 s l:=rfl;have e2:Jqm (Jrt s (q :: l))=[.sl (valL ((keyT s q.2).enc []))] :: Jqm (Jrt s l):=rfl;rw [e1,e2,i1,h4,h5]
  ·intro v hv;rcases List.mem_cons.1 hv with rfl | hv
   ·show okT (keyT s q.2)∧((keyT s q.2).enc []).length=1;rw [h5];exact ⟨h2,h3⟩
   ·exact i2 v hv
def Juq (s:List UInt8) (l:List KT) (i:Nat):PV:=if i=0 then .snil else .sl (valL ((grpH s (l.getD (i - 1) kd0)).enc []))
def J2t (s:List UInt8) (l:List KT) (i:Nat):Prop:=i≠0→okT (grpH s (l.getD (i - 1) kd0))∧((grpH s (l.getD (i - 1) kd0)).enc []).length≤1000000
theorem J89 (t:RT) (hI:InOK t) (s:List UInt8) (hs:s.length≤1000000) (hL:Jsn t (Je s).1) (l:List KT) (i:Nat) (q:KT) (hq:l[i]? = some q) (hx:VFit q.2) (hpre:J2t s l i):∃ d0 d1 d2,Det cx 135 [.p (.sl (valL (q.2.enc []))),.ptr 1000 0 0,.ptr 1001 0 0,.ptr 1002 0 0] [(1000,.var 23 [.p (.sl (rowL (t.enc [])))]),(1001,.var 9 [.p (.str s)]),(1002,.var 25 [.p (Juq s l i)])] (.p (.bool (grpB (inTy t) s l i))) [(1000,.var 23 [.p d0]),(1001,.var 9 [.p d1]),(1002,.var 25 [.p d2])]∧(grpB (inTy t) s l i=true→d0=.sl (rowL (t.enc []))∧d1=.str s∧d2=Juq s l (i+1)∧J2t s l (i+1)):=by
 obtain ⟨nm,x⟩:=q;have hg:l.getD i kd0=(nm,x):=Jui hq;have hx:VFit x:=hx;unfold grpB;rw [hg];have hln:Juq s l (i+1)=.sl (valL ((grpH s (nm,x)).enc [])):=by unfold Juq;rw [if_neg omg,Nat.add_sub_cancel,hg]
 have hlo:okT (grpH s (nm,x))→((grpH s (nm,x)).enc []).length≤1000000→J2t s l (i+1):=fun a b _=>by rw [Nat.add_sub_cancel,hg];exact ⟨a,b⟩
 cases x with
 | mk k vs vg ve kids =>
 have hxl:=hx.len;rw [A6,List.length_cons] at hxl;have hll:=Jqh kids;have hkl:=Jqf kids;have hgx:=Cc [] k vs vg ve kids;by_cases hk:k=5
 ·subst hk;by_cases hn0:kids.len=0
  ·have c3:((kids.len:Int)=0)=True:=eq_true omg;rw [show Jsd (inTy t) (nm,Tree.mk 5 vs vg ve kids)=false by unfold Jsd;simp only [Tree.kids];simp [hn0],Bool.false_and];refine ⟨.sl (rowL (t.enc [])),.str s,Juq s l i,?_,fun h=>by cases h⟩;(refine bgo Tryz.func135 ?_;simp only [go_sem,simprocAttr,hgx,c3])
   skip
  ·have c3:((kids.len:Int)=0)=False:=eq_false omg;have hPt:=Px [] 5 vs vg ve kids omg;have hA1:=d_allOf1 t hI kids.list omg (fun q hq=>hx.kid hq);cases hall:allP (inTy t) kids.list with
   | false =>
    rw [hall] at hA1;rw [show Jsd (inTy t) (nm,Tree.mk 5 vs vg ve kids)=false by unfold Jsd;simp only [Tree.kids];rw [show (kids.list.all fun x=>inTy t x.2)=false from hall];simp,Bool.false_and];refine ⟨.sl (rowL (t.enc [])),.str s,Juq s l i,?_,fun h=>by cases h⟩;(refine bgo Tryz.func135 ?_;simp only [go_sem,simprocAttr,hgx,c3]);(repeat' (first | ((first | (refine Jqa (hPt) ?_)|(refine Jqa (hA1) ?_));simp only [go_sem,simprocAttr,Bool.not_false]) | fail))
   | true =>
    rw [hall] at hA1;obtain ⟨hkt,hks⟩:=Jxr hL (fun q hq=>hx.kid hq) hall;have hK:=J4a s kids.list hs omg (fun q hq=>by have:=Jd7 hq;omega);rw [hkt] at hK;rw [show Jsd (inTy t) (nm,Tree.mk 5 vs vg ve kids)=true by unfold Jsd;simp only [Tree.kids];rw [show (kids.list.all fun x=>inTy t x.2)=true from hall];simp [Tree.kind,hn0],Bool.true_and];have hgh:grpH s (nm,Tree.mk 5 vs vg ve kids)=Jv2 (Jrt s kids.list):=rfl;simp only [Tree.kids];rw [hgh] at hln hlo ⊢;have hne:Jrt s kids.list≠[]:=by
     intro e;have:=congrArg List.length e;simp [Jrt,hkl,hn0] at this
    generalize hksE:Jrt s kids.list=ks at *
    obtain ⟨w,ks',rfl⟩:∃ w ks',ks=w :: ks':=by
     cases ks with
     | nil=>exact absurd rfl hne
     | cons a b=>exact ⟨a,b,rfl⟩
    rw [show Jv2 (w :: ks')=w from rfl] at hln hlo ⊢;obtain ⟨hw1,hw2⟩:=hks w List.mem_cons_self;have hkk:(w :: ks').length≤1000000:=by rw [← hksE];simp [Jrt];omega
    have hS:=J73 (w :: ks') w rfl hkk (fun q hq=>by have:=(hks q hq).2;omega);have hg0:(Jqm (w :: ks'))[0]? = some [.sl (valL (w.enc []))]:=rfl;generalize ((w :: ks').all fun k=>Jv4 k w)=one at hS ⊢;by_cases hi0:i=0
    ·rw [if_pos hi0,show Juq s l i=.snil from if_pos hi0,Bool.and_true];refine ⟨.sl (rowL (t.enc [])),.str s,.sl (valL (w.enc [])),?_,fun _=>⟨rfl,rfl,hln.symm,hlo hw1 omg⟩⟩;(refine bgo Tryz.func135 ?_;simp only [go_sem,simprocAttr,hgx,c3]);(repeat' (first | ((first | (refine Jqa (hPt) ?_)|(refine Jqa (hA1) ?_));simp only [go_sem,simprocAttr,Bool.not_true]) | fail));refine Ju2 4 [1] (.node 0 (.node 2 (.node 3 (.node 4 (.node 5 .leaf .nil) .nil) (.node 4 (.node 3 (.node 5 .leaf .nil) .nil) .nil)) (.node 4 (.node 2 (.node 3 (.node 5 .leaf .nil) .nil) .nil) .nil)) (.node 2 (.node 0 (.node 3 (.node 4 (.node 5 .leaf .nil) .nil) (.node 4 (.node 3 (.node 5 .leaf .nil) .nil) .nil)) (.node 4 (.node 0 (.node 3 (.node 5 .leaf .nil) .nil) .nil) .nil)) (.node 4 (.node 0 (.node 2 (.node 3 (.node 5 .leaf .nil) .nil) .nil) (.node 2 (.node 0 (.node 3 (.node 5 .leaf .nil) .nil) .nil) .nil)) .nil))) 5 hm rfl krf krf ?_;simp only [go_sem,simprocAttr];(repeat' (first | (refine And.intro ?_ ?_)|(apply iteI <;> intro h)|((first | (refine Jqk ?_)|(refine Jqd (hPt) ?_)|(refine Jqd (hK) ?_)|(refine Jqa (hS) ?_));simp only [go_sem,simprocAttr,hg0]) | fail))
     all_goals (try omega)
     all_goals first
      | exact (show one=true by assumption).symm
      | exact (Bool.eq_false_iff.2 (show one≠true by assumption)).symm
    ·obtain ⟨hp1,hp2⟩:=hpre hi0;rw [if_neg hi0,show Juq s l i=.sl (valL ((grpH s (l.getD (i - 1) kd0)).enc [])) from if_neg hi0];generalize hlw:grpH s (l.getD (i - 1) kd0)=la at hp1 hp2 ⊢;have hC:=d_Cmp (la.enc []).length la w (Nat.le_refl _) hp1 hw1 hp2 omg;obtain ⟨cc,cs,hcc⟩:∃ cc cs,valL (la.enc [])=cc :: cs:=by
      cases la with
      | mk a1 a2 a3 a4 a5=>exact ⟨_,_,by rw [A6,Nh]⟩
     rw [hcc] at hC ⊢;refine ⟨.sl (rowL (t.enc [])),.str s,.sl (valL (w.enc [])),?_,fun _=>⟨rfl,rfl,hln.symm,hlo hw1 omg⟩⟩;(refine bgo Tryz.func135 ?_;simp only [go_sem,simprocAttr,hgx,c3]);(repeat' (first | ((first | (refine Jqa (hPt) ?_)|(refine Jqa (hA1) ?_));simp only [go_sem,simprocAttr,Bool.not_true]) | fail));refine Ju2 4 [1] (.node 0 (.node 2 (.node 3 (.node 4 (.node 5 .leaf .nil) .nil) (.node 4 (.node 3 (.node 5 .leaf .nil) .nil) .nil)) (.node 4 (.node 2 (.node 3 (.node 5 .leaf .nil) .nil) .nil) .nil)) (.node 2 (.node 0 (.node 3 (.node 4 (.node 5 .leaf .nil) .nil) (.node 4 (.node 3 (.node 5 .leaf .nil) .nil) .nil)) (.node 4 (.node 0 (.node 3 (.node 5 .leaf .nil) .nil) .nil) .nil)) (.node 4 (.node 0 (.node 2 (.node 3 (.node 5 .leaf .nil) .nil) .nil) (.node 2 (.node 0 (.node 3 (.node 5 .leaf .nil) .nil) .nil) .nil)) .nil))) 5 hm rfl krf krf ?_;simp only [go_sem,simprocAttr];(repeat' (first | (refine And.intro ?_ ?_)|(apply iteI <;> intro h)|((first | (refine Jqk ?_)|(refine Jqd (hPt) ?_)|(refine Jqd (hK) ?_)|(refine Jqa (hS) ?_)|(refine Jqd (hC) ?_));simp only [go_sem,simprocAttr,hg0]) | fail))
     all_goals (try omega)
     all_goals first
      | rw [show one=true by assumption,Bool.true_and]
      | rw [Bool.eq_false_iff.2 (show one≠true by assumption),Bool.false_and]
 ·have c3:(k=5)=False:=eq_false hk;rw [show Jsd (inTy t) (nm,Tree.mk k vs vg ve kids)=false by unfold Jsd;simp [Tree.kind,hk],Bool.false_and];refine ⟨.sl (rowL (t.enc [])),.str s,Juq s l i,?_,fun h=>by cases h⟩;(refine bgo Tryz.func135 ?_;simp only [go_sem,simprocAttr,hgx,c3,not_false_eq_true])
  skip
theorem d_groups (t:RT) (hI:InOK t) (s:List UInt8) (hs:s.length≤1000000) (hL:Jsn t (Je s).1) (l:List KT) (hl:l.length≤1000000) (hx:∀ q∈l,VFit q.2):Det cx 57 [.p (.sl (rowL (t.enc []))),.p (.str s),.p (.sl (A4 l))] [] (.p (.bool (Jtv (inTy t) s none l))) []:=by
 have hA:=J1q 135 k144 23 9 25 (A4 l) (Jvp l) (by rw [A5];exact hl) (fun _=>.sl (rowL (t.enc []))) (fun _=>.str s) (fun i=>Juq s l i) (grpB (inTy t) s l) (fun i=>J2t s l i) (fun h=>absurd rfl h) (fun i x h hpre=>by
  obtain ⟨q,hq,rfl⟩:=Jyu h;obtain ⟨d0,d1,d2,h1,h2⟩:=J89 t hI s hs hL l i q hq (hx q (List.mem_of_getElem? hq)) hpre;exact ⟨d0,d1,d2,h1,fun hb=>⟨(h2 hb).1,(h2 hb).2.1,(h2 hb).2.2.1,(h2 hb).2.2.2⟩⟩)
 rw [A5,J04 (m:=l) (i:=0) (last:=none) rfl rfl] at hA;have hA2:=Al.perm (rs':=[(1002,.var 25 [.p (Juq s l 0)]),(1001,.var 9 [.p (.str s)]),(1000,.var 23 [.p (.sl (rowL (t.enc [])))])]) (by
  refine .trans (.swap _ _ _) (.trans (.cons _ (.swap _ _ _)) ?_);exact .swap _ _ _) hA
 rw [show Juq s l 0=.snil from rfl] at hA2;have hA3:Det cx 58 _ _ _ _:=hA2;(refine bgo Tryz.func57 ?_;simp only [go_sem,simprocAttr]);(repeat' (first | ((refine Jqa (hA3) ?_);simp only [go_sem,simprocAttr]) | fail))
def tupB (rows:List RKT) (l:List KT) (i:Nat):Bool:=match rows[i]?,l[i]? with
 | some r,some q=>inTy r.2 q.2
 | _,_=>true
theorem J43 {rows:List RKT} {l:List KT}:∀ {m:List RKT} {k:List KT} {i:Nat},rows.drop i=m→l.drop i=k→m.length=k.length→allF (tupB rows l) m.length i=tupS (m.map fun p=>inTy p.2) k
 | [],[],i,_,_,_=>rfl
 | [],_ :: _,i,_,_,h=>by simp at h
 | _ :: _,[],i,_,_,h=>by simp at h
 | r :: m,q :: k,i,h1,h2,h3=>by
  have e1:rows[i]? = some r:=by have:=congrArg (·[0]?) h1;simpa using this
  have e2:l[i]? = some q:=by have:=congrArg (·[0]?) h2;simpa using this
  rw [List.length_cons,allF,List.map_cons,tupS,tupB,e1,e2,J43 (m:=m) (k:=k) (i:=i+1) (by rw [← List.drop_drop,h1];rfl) (by rw [← List.drop_drop,h2];rfl) (by simpa using h3)]
theorem J3z:∀ {ps:List (Tree→Bool)} {l:List KT},ps.length≠l.length→tupS ps l=false
 | [],[],h=>absurd rfl h
 | [],_ :: _,_=>rfl
 | _ :: _,[],_=>rfl
 | p :: ps,q :: l,h=>by rw [tupS,J3z (by simpa using h),Bool.and_false]
theorem J44 (rows:List RKT) (l:List KT) (hr:rows.length≤1000000) (hl:l.length≤1000000) (hI:∀ r∈rows,InOK r.2) (hx:∀ q∈l,VFit q.2):Det cx 55 [.p (.sl (Jqu rows)),.p (.sl (A4 l)),.fn 17 []] [] (.p (.bool (tupS (rows.map fun p=>inTy p.2) l))) []:=by
 by_cases hll:rows.length=l.length
 ·have c0:((rows.length:Int)=(l.length:Int))=True:=eq_true omg;rw [← J43 (rows:=rows) (l:=l) (m:=rows) (k:=l) (i:=0) rfl rfl hll];(refine bgo Tryz.func55 ?_;simp only [go_sem,simprocAttr,Jrm,A5,c0,not_true_eq_false]);refine SWP.loop (fun i:Nat=>⟨Ba 32 [(0,.p (.sl (Jqu rows))),(1,.p (.sl (A4 l))),(2,.fn 17 []),(15,.p (.sl (Jqu rows))),(16,.p (.int .i64 rows.length)),(17,.p (.int .i64 i))],[]⟩) (fun i=>i≤rows.length∧allF (tupB rows l) rows.length 0=allF (tupB rows l) (rows.length - i) i) (fun i=>rows.length - i) 0 Jqb ⟨Nat.zero_le _,rfl⟩ ?_;rintro i ⟨h2,h4⟩;by_cases hi:¬ i<rows.length
  ·have c9:((i:Int)<(rows.length:Int))=False:=eq_false omg;rw [show rows.length - i=0 by omega,allF] at h4;(refine lws ?_;simp only [go_sem,simprocAttr,decide_false,c9]);rw [h4]
  ·have hi:=Decidable.not_not.1 hi;have c9:((i:Int)<(rows.length:Int))=True:=eq_true omg;obtain ⟨r,hr1⟩:∃ r,rows[i]? = some r:=⟨_,List.getElem?_eq_getElem hi⟩
   obtain ⟨q,hq1⟩:∃ q,l[i]? = some q:=⟨_,List.getElem?_eq_getElem omg⟩
   have hgr:=J0v hr1;have hgq:=Hx hq1;obtain ⟨k,hk1⟩:∃ k,rows.length - i=k+1:=⟨rows.length - i - 1,by omega⟩
   have hC:=hI r (List.mem_of_getElem? hr1) q.2 (hx q (List.mem_of_getElem? hq1));rw [hk1,allF,show tupB rows l i=inTy r.2 q.2 by unfold tupB;rw [hr1,hq1]] at h4;cases hb:inTy r.2 q.2 with
   | false =>
    rw [hb] at hC h4;(refine lws ?_;simp only [go_sem,simprocAttr,c9,hgr,hgq]);(repeat' (first | ((refine Jqa (hC) ?_);simp only [go_sem,simprocAttr,Bool.not_false]) | fail));rw [h4];rfl
   | true =>
    rw [hb] at hC h4;rw [Bool.true_and] at h4;(refine lws ?_;simp only [go_sem,simprocAttr,c9,hgr,hgq,wj1 (i:=i) omg]);(repeat' (first | ((refine Jqa (hC) ?_);simp only [go_sem,simprocAttr,wj1 (i:=i) omg,Bool.not_true]) | fail));exact ⟨i+1,⟨by omega,by rw [h4,show rows.length - (i+1)=k by omega]⟩,by omega,Jqb⟩
 ·have c0:((rows.length:Int)=(l.length:Int))=False:=eq_false omg;rw [J3z (by simpa using hll)];(refine bgo Tryz.func55 ?_;simp only [go_sem,simprocAttr,Jrm,A5,c0,not_false_eq_true])
  skip
def Jyy (p:List Step):Bool:=p.all fun x=>!x.part
def fldB (p:List Step) (i:Nat):Bool:=match p[i]? with
 | some x=>!x.part
 | none=>true
theorem J5c {p:List Step}:∀ {m:List Step} {i:Nat},p.drop i=m→allF (fldB p) m.length i=Jyy m
 | [],i,_=>rfl
 | x :: m,i,h=>by
  have hx:p[i]? = some x:=by have:=congrArg (·[0]?) h;simpa using this
  rw [List.length_cons,allF,fldB,hx,J5c (m:=m) (i:=i+1) (by rw [← List.drop_drop,h];rfl)];rfl
theorem J4q (p:List Step) (hp:p.length≤1000000):Det cx 46 [.p (.sl (Bb p))] [] (.p (.bool (Jyy p))) []:=by
 rw [← J5c (p:=p) (m:=p) (i:=0) rfl];(refine bgo Tryz.func46 ?_;simp only [go_sem,simprocAttr]);refine SWP.loop (fun i:Nat=>⟨Ba 15 [(0,.p (.sl (Bb p))),(3,.p (.int .i64 i))],[]⟩) (fun i=>i≤p.length∧allF (fldB p) p.length 0=allF (fldB p) (p.length - i) i) (fun i=>p.length - i) 0 Jqb ⟨Nat.zero_le _,rfl⟩ ?_;rintro i ⟨h2,h4⟩;by_cases hi:¬ i<p.length
 ·have c9:((i:Int)<(p.length:Int))=False:=eq_false omg;rw [show p.length - i=0 by omega,allF] at h4;(refine lws ?_;simp only [go_sem,simprocAttr,Aq,c9]);rw [h4]
 ·have hi:=Decidable.not_not.1 hi;have c9:((i:Int)<(p.length:Int))=True:=eq_true omg;obtain ⟨x,hq⟩:∃ x,p[i]? = some x:=⟨_,List.getElem?_eq_getElem hi⟩
  obtain ⟨k,hk1⟩:∃ k,p.length - i=k+1:=⟨p.length - i - 1,by omega⟩
  have hg:=Dk hq;rw [hk1,allF,show fldB p i = !x.part by rw [fldB,hq]] at h4;cases hb:x.part with
  | true =>
   rw [hb] at h4 hg;(refine lws ?_;simp only [go_sem,simprocAttr,Aq,c9,hg]);rw [h4];rfl
  | false =>
   rw [hb,Bool.not_false,Bool.true_and] at h4;rw [hb] at hg;(refine lws ?_;simp only [go_sem,simprocAttr,Aq,c9,hg,wj1 (i:=i) omg]);exact ⟨i+1,⟨by omega,by rw [h4,show p.length - (i+1)=k by omega]⟩,by omega,Jqb⟩
theorem Jx7 (s:List UInt8) (hs:s.length≤1000000):Det cx 152 [.p (.str s)] [] (.tup [.sl (Bb (Je s).1),.bool (decide (fldS s))]) []:=by
 have hR:=J2l s hs;have hl:=(Jw0 s).1;have hF:=J4q (Je s).1 omg;by_cases h0:(Je s).2.2=0
 ·have c1:(((Je s).2.2:Int)=0)=True:=eq_true omg;have:decide (fldS s)=Jyy (Je s).1:=by
   rw [Bool.eq_iff_iff,decide_eq_true_eq];unfold fldS Jyy;simp [h0]
  rw [this];(refine bgo Tryz.func152 ?_;simp only [go_sem,simprocAttr]);(repeat' (first | ((first | (refine Jqa (hR) ?_)|(refine Jqa (hF) ?_));simp only [go_sem,simprocAttr,c1]) | fail))
 ·have c1:(((Je s).2.2:Int)=0)=False:=eq_false omg;have:decide (fldS s)=false:=decide_eq_false fun h=>h0 h.1
  rw [this];(refine bgo Tryz.func152 ?_;simp only [go_sem,simprocAttr]);(repeat' (first | ((refine Jqa (hR) ?_);simp only [go_sem,simprocAttr,c1]) | fail))
def SFit (t:RT):Prop:=∀ r∈t.enc [],r.s.length≤1000000
theorem J3j:∀ {f:RF} {p:RKT},p∈f.list→(p.2.enc []).length≤f.enc.length
 | .nil,p,h=>by cases h
 | .cons nm t r,p,h=>by
  rw [Jqg,List.length_append];rcases List.mem_cons.1 h with rfl | h
  ·simp only;rw [J6v t nm];omega
  ·have:=J3j h;omega
theorem senc {t:RT} {a b:List UInt8} (h:∀ r∈t.enc a,r.s.length≤1000000):∀ r∈t.enc b,r.s.length≤1000000:=by
 cases t with
 | mk k s n c kids =>
  rw [Jqo] at h ⊢;intro r hr;rcases List.mem_cons.1 hr with rfl | hr
  ·exact h ⟨k,kids.len,a,s,n,c⟩ List.mem_cons_self
  ·exact h r (List.mem_cons_of_mem _ hr)
theorem smem:∀ {f:RF} {p:RKT},(∀ r∈f.enc,r.s.length≤1000000)→p∈f.list→SFit p.2
 | .nil,p,_,h=>by cases h
 | .cons nm t r,p,hf,h=>by
  rw [Jqg] at hf;rcases List.mem_cons.1 h with rfl | h
  ·exact senc (a:=nm) fun x hx=>hf x (List.mem_append_left _ hx)
  ·exact smem (fun x hx=>hf x (List.mem_append_right _ hx)) h
theorem J4w {p:RKT} (h1:okR p.2) (h2:p.2.kind=9):p.2.kids=.nil∧Jrn p.2.n p.2.c:=by
 obtain ⟨nm,⟨pk,ps,pn,pc,pkids⟩⟩:=p;have h2:pk=9:=h2;subst h2;have h3:=(Jt9.1 h1).1;simp [Jri] at h3;refine ⟨?_,h3.2.2⟩;cases pkids with
 | nil=>rfl
 | cons a b c=>simp [RF.len] at h3
theorem inK2 {s:List UInt8} {n:Int} {rows:List RKT} {ps:List (Tree→Bool)} {v:Tree}:inK 2 s n rows ps v=(decide (v.kind=6) && ((decide (n≠0) || decide (v.kids.len=rows.length)) && objS v.kids.list rows ps)):=rfl
theorem inK3 {s:List UInt8} {n:Int} {rows:List RKT} {ps:List (Tree→Bool)} {v:Tree}:inK 3 s n rows ps v=(decide (v.kind=6) && allP (Jt2 ps) v.kids.list):=rfl
theorem inK4 {s:List UInt8} {n:Int} {rows:List RKT} {ps:List (Tree→Bool)} {v:Tree}:inK 4 s n rows ps v=(decide (v.kind=5) && tupS ps v.kids.list):=rfl
theorem inK5 {s:List UInt8} {n:Int} {rows:List RKT} {ps:List (Tree→Bool)} {v:Tree}:inK 5 s n rows ps v=(decide (v.kind=5) && allP (Jt2 ps) v.kids.list):=rfl
theorem inK6 {s:List UInt8} {n:Int} {rows:List RKT} {ps:List (Tree→Bool)} {v:Tree}:inK 6 s n rows ps v=(decide (v.kind=5) && entS (Jt2 ps) none v.kids.list):=rfl
theorem inK7 {s:List UInt8} {n:Int} {rows:List RKT} {ps:List (Tree→Bool)} {v:Tree}:inK 7 s n rows ps v=(decide (v.kind=5) && (allP (Jt2 ps) v.kids.list && Jr5 (Jrt s v.kids.list))):=rfl
theorem inK8 {s:List UInt8} {n:Int} {rows:List RKT} {ps:List (Tree→Bool)} {v:Tree}:inK 8 s n rows ps v=(decide (v.kind=5) && Jtv (Jt2 ps) s none v.kids.list):=rfl
theorem J8p {k:Int} {s:List UInt8} {n:Int} {c:Node} {m:Int} (h:Jri k s n c m) (h0:k≠0) (h1:k≠1) (h9:k≠9):k=2∨k=4∨((k=3∨k=5∨k=6∨k=7∨k=8)∧m=1):=by
 unfold Jri at h;rw [if_neg h0,if_neg h1,if_neg h9] at h;split at h
 ·exact .inl (by assumption)
 ·split at h
  ·exact .inr (.inl (by assumption))
  ·split at h
   ·exact .inr (.inr ⟨by omega,h.1⟩)
   ·split at h
    ·exact .inr (.inr ⟨by omega,h.1⟩)
    ·exact h.elim
theorem leaf_v {k:Int} {s:List UInt8} {g:Bool} {e:Int} {kids:Forest}:J14 (.mk k s g e kids)=decide (kids.enc.length=0):=by
 cases kids with
 | nil=>simp [J14,Bl]
 | cons a b c =>
  have:=Et b a;simp [J14,A0];intro h;rw [h] at this;simp at this
theorem d_In (n:Nat):∀ t:RT,(t.enc []).length≤n→okR t→t.kind≠9→SFit t→(t.enc []).length≤1000000→InOK t:=by
 induction n with
 | zero=>intro t h;have:=Jso t [];omega
 | succ n ih =>
 intro t hn hok h9 hsf hsz;obtain ⟨k,s,m,c,kids⟩:=t;have hok:=Jt9.1 hok;obtain ⟨hro,hkd,hld,hkr⟩:=hok;rw [Jqo,List.length_cons] at hn hsz;have hll:=Jq3 kids;have hkl:=Jrc kids;have hsk:∀ r∈kids.enc,r.s.length≤1000000:=fun r hr=>hsf r (by rw [Jqo];exact List.mem_cons_of_mem _ hr)
 have hs0:s.length≤1000000:=hsf ⟨k,kids.len,[],s,m,c⟩ (by rw [Jqo];exact List.mem_cons_self);have h9:k≠9:=h9;have hgt:(rowL ((RT.mk k s m c kids).enc []))[0]? = some [.int .i64 k,.int .i64 kids.len,.str [],.str s,.int .i64 m,.int .i64 c.kind,.int .i64 c.many,.str c.name,.str c.s,.bool c.neg,.int .i64 c.e]:=by rw [Jqo];rfl
 have hIk:k≠1→∀ r∈kids.list,InOK r.2:=fun hk1 r hr=>by
  have:=J3j hr;refine ih r.2 omg (Jug.1 hkr r hr) (fun h=>hk1 ((hkd.1 r hr).1.1 h)) (smem hsk hr) omg
 intro x hx;obtain ⟨vk,vs,vg,ve,vkids⟩:=x;have hgv:=Cc [] vk vs vg ve vkids;have hvl:=hx.len;rw [A6,List.length_cons] at hvl;have hvll:=Jqh vkids;have hvkl:=Jqf vkids;have hvx:∀ q∈vkids.list,VFit q.2:=fun q hq=>hx.kid hq
 have hvlen:(valL ((Tree.mk vk vs vg ve vkids).enc [])).length=vkids.enc.length+1:=by rw [A7,A6];rfl
 rw [Jvo];by_cases hk0:k=0
 ·subst hk0;have hP:=Jzj [] 0 s m c kids omg de;rw [show inK 0 s m kids.list (inL kids) (Tree.mk vk vs vg ve vkids)=true from if_pos rfl];(refine bgo Tryz.func17 ?_;simp only [go_sem,simprocAttr,hgt]);(repeat' (first | ((refine Jqa (hP) ?_);simp only [go_sem,simprocAttr]) | fail))
 ·by_cases hk1:k=1
  ·subst hk1;have hP:=J75 [] s m c kids omg;have hlk:J2e kids.list:=fun p hp=>(J4w (Jug.1 hkr p hp) ((hkd.1 p hp).1.2 rfl)).1
   have hAt:=J9c [] s m c kids omg hlk;have hrow:=hro;simp [Jri] at hrow;have hat:∀ a∈Jq8 kids.list,Jrn a.1 a.2:=fun a ha=>by
    obtain ⟨p,hp,rfl⟩:=List.mem_map.1 ha;exact (J4w (Jug.1 hkr p hp) ((hkd.1 p hp).1.2 rfl)).2
   rw [show inK 1 s m kids.list (inL kids) (Tree.mk vk vs vg ve vkids)=(J14 (Tree.mk vk vs vg ve vkids) && Jq1 m (Jq8 kids.list) (J9l (Tree.mk vk vs vg ve vkids))) from rfl,leaf_v];by_cases hlf:vkids.enc.length=0
   ·have c3:(((vkids.enc.length+1:Nat):Int)=1)=True:=eq_true omg;have hnode:=(Lu.1 hx.ok).1;have hfit:=hx.fit ⟨vk,vkids.len,[],vs,vg,ve⟩ (by rw [A6];exact List.mem_cons_self);have hM:=J9p m (Jq8 kids.list) ⟨vk,vkids.len,[],vs,vg,ve⟩ omg omg (by simp [Jq8];omega) hat (fun hk5=>⟨hk5,rfl,hnode⟩) hfit.s (by
     have:=hnode;unfold G3 at this;split at this
     ·simp only;omega
     ·split at this
      ·simp only;omega
      ·split at this
       ·simp only;omega
       ·split at this
        ·simp only;omega
        ·exact this.elim)
    simp only at hM;rw [decide_eq_true hlf,Bool.true_and];(refine bgo Tryz.func17 ?_;simp only [go_sem,simprocAttr,hgt]);(repeat' (first | ((first | (refine Jqk ?_)|(refine Jqa (hP) ?_)|(refine Jqd (hAt) ?_)|(refine Jqd (hM) ?_));simp only [go_sem,simprocAttr,hgv,hvlen,c3]) | fail));rfl
   ·have c3:(((vkids.enc.length+1:Nat):Int)=1)=False:=eq_false omg;rw [decide_eq_false hlf,Bool.false_and];(refine bgo Tryz.func17 ?_;simp only [go_sem,simprocAttr,hgt]);(repeat' (first | ((first | (refine Jqk ?_)|(refine Jqa (hP) ?_));simp only [go_sem,simprocAttr,hvlen,c3]) | fail))
  ·have hP:=Jzj [] k s m c kids omg hk1;have hI:=hIk hk1;have hPv:=Px [] vk vs vg ve vkids omg;rcases J8p hro hk0 hk1 h9 with rfl | rfl | ⟨hkk,hm1⟩
   ·rw [inK2];by_cases hv6:vk=6
    ·subst hv6;have hO:=J9w m c s kids omg hI vs vg ve vkids hx;rw [show decide ((Tree.mk 6 vs vg ve vkids).kind=6)=true from rfl,Bool.true_and];(refine bgo Tryz.func17 ?_;simp only [go_sem,simprocAttr,hgt]);(repeat' (first | ((first | (refine Jqa (hP) ?_)|(refine Jqa (hPv) ?_)|(refine Jqa (hO) ?_));simp only [go_sem,simprocAttr,hgv]) | fail))
     all_goals rfl
    ·have c6:=eq_false hv6;rw [show decide ((Tree.mk vk vs vg ve vkids).kind=6)=false from decide_eq_false hv6,Bool.false_and];(refine bgo Tryz.func17 ?_;simp only [go_sem,simprocAttr,hgt,not_false_eq_true]);(repeat' (first | ((refine Jqa (hP) ?_);simp only [go_sem,simprocAttr,hgv,c6,not_false_eq_true]) | fail))
   ·rw [inK4];by_cases hv5:vk=5
    ·subst hv5;have hE:=J44 kids.list vkids.list omg omg hI hvx;rw [show decide ((Tree.mk 5 vs vg ve vkids).kind=5)=true from rfl,Bool.true_and,Jyw];(refine bgo Tryz.func17 ?_;simp only [go_sem,simprocAttr,hgt]);(repeat' (first | ((first | (refine Jqa (hP) ?_)|(refine Jqa (hPv) ?_)|(refine Jqa (hE) ?_));simp only [go_sem,simprocAttr,hgv]) | fail))
     all_goals rfl
    ·have c6:=eq_false hv5;rw [show decide ((Tree.mk vk vs vg ve vkids).kind=5)=false from decide_eq_false hv5,Bool.false_and];(refine bgo Tryz.func17 ?_;simp only [go_sem,simprocAttr,hgt,not_false_eq_true]);(repeat' (first | ((refine Jqa (hP) ?_);simp only [go_sem,simprocAttr,hgv,c6,not_false_eq_true]) | fail))
   ·obtain ⟨nm,t0,kr,rfl⟩:∃ nm t0 kr,kids=.cons nm t0 kr:=by
     cases kids with
     | nil=>simp [RF.len] at hm1
     | cons a b c=>exact ⟨a,b,c,rfl⟩
    have hI0:InOK t0:=hI (nm,t0) List.mem_cons_self;have hgr:(Jqu (RF.cons nm t0 kr).list)[0]? = some [.sl (rowL (t0.enc []))]:=rfl;have hph:Jt2 (inL (RF.cons nm t0 kr))=inTy t0:=by rw [Ju0];rfl
    have hA:=d_allOf (RF.cons nm t0 kr).list (nm,t0) rfl hI0 vkids.list omg hvx;simp only at hA;have hL:k=7∨k=8→Jsn t0 (Je s).1:=fun hh=>hld hh (nm,t0) rfl
    rcases hkk with rfl | rfl | rfl | rfl | rfl
    ·rw [inK3,hph];by_cases hv6:vk=6
     ·subst hv6;rw [show decide ((Tree.mk 6 vs vg ve vkids).kind=6)=true from rfl,Bool.true_and];(refine bgo Tryz.func17 ?_;simp only [go_sem,simprocAttr,hgt]);(repeat' (first | ((first | (refine Jqa (hP) ?_)|(refine Jqa (hPv) ?_)|(refine Jqa (hA) ?_));simp only [go_sem,simprocAttr,hgv]) | fail))
      all_goals rfl
     ·have c6:=eq_false hv6;rw [show decide ((Tree.mk vk vs vg ve vkids).kind=6)=false from decide_eq_false hv6,Bool.false_and];(refine bgo Tryz.func17 ?_;simp only [go_sem,simprocAttr,hgt,not_false_eq_true]);(repeat' (first | ((refine Jqa (hP) ?_);simp only [go_sem,simprocAttr,hgv,c6,not_false_eq_true]) | fail))
    ·rw [inK5,hph];by_cases hv5:vk=5
     ·subst hv5;rw [show decide ((Tree.mk 5 vs vg ve vkids).kind=5)=true from rfl,Bool.true_and];(refine bgo Tryz.func17 ?_;simp only [go_sem,simprocAttr,hgt]);(repeat' (first | ((first | (refine Jqa (hP) ?_)|(refine Jqa (hPv) ?_)|(refine Jqa (hA) ?_));simp only [go_sem,simprocAttr,hgv]) | fail))
      all_goals rfl
     ·have c6:=eq_false hv5;rw [show decide ((Tree.mk vk vs vg ve vkids).kind=5)=false from decide_eq_false hv5,Bool.false_and];(refine bgo Tryz.func17 ?_;simp only [go_sem,simprocAttr,hgt,not_false_eq_true]);(repeat' (first | ((refine Jqa (hP) ?_);simp only [go_sem,simprocAttr,hgv,c6,not_false_eq_true]) | fail))
    ·rw [inK6,hph];by_cases hv5:vk=5
     ·subst hv5;have hE:=J8h t0 hI0 vkids.list omg hvx;rw [show decide ((Tree.mk 5 vs vg ve vkids).kind=5)=true from rfl,Bool.true_and];(refine bgo Tryz.func17 ?_;simp only [go_sem,simprocAttr,hgt]);(repeat' (first | ((first | (refine Jqa (hP) ?_)|(refine Jqa (hPv) ?_)|(refine Jqa (hE) ?_));simp only [go_sem,simprocAttr,hgv,hgr]) | fail))
      all_goals rfl
     ·have c6:=eq_false hv5;rw [show decide ((Tree.mk vk vs vg ve vkids).kind=5)=false from decide_eq_false hv5,Bool.false_and];(refine bgo Tryz.func17 ?_;simp only [go_sem,simprocAttr,hgt,not_false_eq_true]);(repeat' (first | ((refine Jqa (hP) ?_);simp only [go_sem,simprocAttr,hgv,c6,not_false_eq_true]) | fail))
    ·rw [inK7,hph];by_cases hv5:vk=5
     ·subst hv5;rw [show decide ((Tree.mk 5 vs vg ve vkids).kind=5)=true from rfl,Bool.true_and];rw [show (Tree.mk 5 vs vg ve vkids).kids=vkids from rfl];cases hall:allP (inTy t0) vkids.list with
      | false =>
       rw [hall] at hA;rw [Bool.false_and];(refine bgo Tryz.func17 ?_;simp only [go_sem,simprocAttr,hgt]);(repeat' (first | ((first | (refine Jqa (hP) ?_)|(refine Jqa (hPv) ?_)|(refine Jqa (hA) ?_));simp only [go_sem,simprocAttr,hgv]) | fail))
      | true =>
       rw [hall] at hA;obtain ⟨hkt,hks⟩:=Jxr (hL (.inl rfl)) hvx hall;have hK:=J4a s vkids.list hs0 omg (fun q hq=>by have:=Jd7 hq;omega);rw [hkt] at hK;have hRi:=d_Rises (Jrt s vkids.list) ⟨by simp [Jrt];omega,fun w hw=>⟨(hks w hw).1,by have:=(hks w hw).2;omega⟩⟩;rw [Bool.true_and];(refine bgo Tryz.func17 ?_;simp only [go_sem,simprocAttr,hgt]);(repeat' (first | ((first | (refine Jqa (hP) ?_)|(refine Jqa (hPv) ?_)|(refine Jqa (hA) ?_)|(refine Jqa (hK) ?_)|(refine Jqa (hRi) ?_));simp only [go_sem,simprocAttr,hgv]) | fail))
     ·have c6:=eq_false hv5;rw [show decide ((Tree.mk vk vs vg ve vkids).kind=5)=false from decide_eq_false hv5,Bool.false_and];(refine bgo Tryz.func17 ?_;simp only [go_sem,simprocAttr,hgt,not_false_eq_true]);(repeat' (first | ((refine Jqa (hP) ?_);simp only [go_sem,simprocAttr,hgv,c6,not_false_eq_true]) | fail))
    ·rw [inK8,hph];by_cases hv5:vk=5
     ·subst hv5;have hG:=d_groups t0 hI0 s hs0 (hL (.inr rfl)) vkids.list omg hvx;rw [show decide ((Tree.mk 5 vs vg ve vkids).kind=5)=true from rfl,Bool.true_and];(refine bgo Tryz.func17 ?_;simp only [go_sem,simprocAttr,hgt]);(repeat' (first | ((first | (refine Jqk ?_)|(refine Jqa (hP) ?_)|(refine Jqa (hPv) ?_)|(refine Jqd (hG) ?_));simp only [go_sem,simprocAttr,hgv,hgr]) | fail))
      all_goals rfl
     ·have c6:=eq_false hv5;rw [show decide ((Tree.mk vk vs vg ve vkids).kind=5)=false from decide_eq_false hv5,Bool.false_and];(refine bgo Tryz.func17 ?_;simp only [go_sem,simprocAttr,hgt,not_false_eq_true]);(repeat' (first | ((refine Jqa (hP) ?_);simp only [go_sem,simprocAttr,hgv,c6,not_false_eq_true]) | fail))
structure NodeFitC (n:Node):Prop where
 s:n.s.length≤1000000
 e0:-9223372036854775808≤n.e
 e1:n.e≤9223372036854775807
theorem Jww (n:Node) (hnm:n.name≠[]):Det cx 40 [.p (.sl [[.int .i64 n.kind,.int .i64 n.many,.str n.name,.str n.s,.bool n.neg,.int .i64 n.e]])] [] (.p (.bool false)) []:=by
 have hg0:([[PV.int .i64 n.kind,PV.int .i64 n.many,PV.str n.name,PV.str n.s,PV.bool n.neg,PV.int .i64 n.e]]:List (List PV))[0]? = some [PV.int .i64 n.kind,PV.int .i64 n.many,PV.str n.name,PV.str n.s,PV.bool n.neg,PV.int .i64 n.e]:=rfl;have c2:(n.name=[])=False:=eq_false hnm;have hN:=Uv [n] sm;rw [show valL [n]=[[.int .i64 n.kind,.int .i64 n.many,.str n.name,.str n.s,.bool n.neg,.int .i64 n.e]] from rfl] at hN;(refine bgo Tryz.func40 ?_;simp only [go_sem,simprocAttr,hg0,c2,List.length_cons,List.length_nil])
 skip
theorem J1i (n:Node) (hf:NodeFitC n):Det cx 142 [.p (.agg [.int .i64 n.kind,.int .i64 n.many,.str n.name,.str n.s,.bool n.neg,.int .i64 n.e])] [] (.p (.bool (decide (Jrb n)))) []:=by
 by_cases hnm:n.name=[]
 ·exact Jwy n ⟨hf.s,by rw [hnm];simp,hf.e0,hf.e1⟩
 ·rw [decide_eq_false (fun h=>hnm h.2.1)];have hR:=Jww n hnm;by_cases hk:n.kind<5
  ·have c1:(n.kind<5)=True:=eq_true hk;(refine bgo Tryz.func142 ?_;simp only [go_sem,simprocAttr,c1,decide_true]);(repeat' (first | ((refine Jqa (hR) ?_);simp only [go_sem,simprocAttr]) | fail))
  ·have c1:(n.kind<5)=False:=eq_false hk;(refine bgo Tryz.func142 ?_;simp only [go_sem,simprocAttr,c1,decide_false])
   skip
theorem J3b (n:Int) (c:Node) (hf:NodeFitC c):Det cx 286 [.p (.agg [.int .i64 n,.int .i64 c.kind,.int .i64 c.many,.str c.name,.str c.s,.bool c.neg,.int .i64 c.e])] [] (.p (.bool (decide (Jrn n c)))) []:=by
 have hP:=J1i c hf;by_cases h0:0≤n
 ·by_cases h5:n≤5
  ·have c1:=eq_true h0;have c2:=eq_true h5;rw [show decide (Jrn n c)=decide (Jrb c) by rw [Bool.eq_iff_iff];simp [Jrn,h0,h5]];(refine bgo Tryz.func286 ?_;simp only [go_sem,simprocAttr,c1,c2,decide_true]);(repeat' (first | ((refine Jqa (hP) ?_);simp only [go_sem,simprocAttr]) | fail))
  ·have c1:=eq_true h0;have c2:=eq_false h5;rw [show decide (Jrn n c)=false from decide_eq_false fun h=>h5 h.2.1];(refine bgo Tryz.func286 ?_;simp only [go_sem,simprocAttr,c1,c2,decide_true,decide_false])
   skip
 ·have c1:=eq_false h0;rw [show decide (Jrn n c)=false from decide_eq_false fun h=>h0 h.1];(refine bgo Tryz.func286 ?_;simp only [go_sem,simprocAttr,c1,decide_false])
  skip
theorem Jsl {c:Node}:c=Jrp ↔ c.kind=0∧c.many=0∧c.name=[]∧c.s=[]∧c.neg=false∧c.e=0:=by
 rw [← Qo];rfl
theorem J8m (k m:Int) (nm s:List UInt8) (n:Int) (c:Node) (hs:s.length≤1000000) (hf:NodeFitC c):Det cx 243 [.p (.agg [.int .i64 k,.int .i64 m,.str nm,.str s,.int .i64 n,.int .i64 c.kind,.int .i64 c.many,.str c.name,.str c.s,.bool c.neg,.int .i64 c.e])] [] (.p (.bool (decide (Jri k s n c m)))) []:=by
 have hA:=J3b n c hf;have hP:=Jx7 s hs;by_cases k0:k=0
 ·subst k0;(refine bgo Tryz.func243 ?_;simp only [go_sem,simprocAttr]);(repeat' (apply iteI <;> intro h))
  all_goals (clear hA hP hf hs)
  all_goals (rw [Bool.eq_iff_iff])
  all_goals (simp only [Jri,Jsl,decide_eq_true_eq,Int.reduceEq,if_true,if_false,true_or,or_true,or_false,false_or,or_self,ite_true,ite_false,reduceIte])
  all_goals (try simp_all)
  all_goals (try omega)
 ·by_cases k1:k=1
  ·subst k1;(refine bgo Tryz.func243 ?_;simp only [go_sem,simprocAttr]);(repeat' (apply iteI <;> intro h))
   all_goals (clear hA hP hf hs)
   all_goals (rw [Bool.eq_iff_iff])
   all_goals (simp only [Jri,Jsl,decide_eq_true_eq,Int.reduceEq,if_true,if_false,true_or,or_true,or_false,false_or,or_self,ite_true,ite_false,reduceIte])
   all_goals (try simp_all)
   all_goals (try omega)
  ·by_cases k9:k=9
   ·subst k9;(refine bgo Tryz.func243 ?_;simp only [go_sem,simprocAttr]);(repeat' (first | (apply iteI <;> intro h)|((refine Jqa (hA) ?_);simp only [go_sem,simprocAttr]) | fail))
    all_goals (clear hA hP hf hs)
    all_goals (rw [Bool.eq_iff_iff])
    all_goals (simp only [Jri,Jsl,decide_eq_true_eq,Int.reduceEq,if_true,if_false,true_or,or_true,or_false,false_or,or_self,ite_true,ite_false,reduceIte])
    all_goals (try simp_all)
    all_goals (try omega)
   ·by_cases k2:k=2
    ·subst k2;(refine bgo Tryz.func243 ?_;simp only [go_sem,simprocAttr]);(repeat' (apply iteI <;> intro h))
     all_goals (clear hA hP hf hs)
     all_goals (rw [Bool.eq_iff_iff])
     all_goals (simp only [Jri,Jsl,decide_eq_true_eq,Int.reduceEq,if_true,if_false,true_or,or_true,or_false,false_or,or_self,ite_true,ite_false,reduceIte])
     all_goals (try simp_all)
     all_goals (try omega)
    ·by_cases k4:k=4
     ·subst k4;(refine bgo Tryz.func243 ?_;simp only [go_sem,simprocAttr]);(repeat' (apply iteI <;> intro h))
      all_goals (clear hA hP hf hs)
      all_goals (rw [Bool.eq_iff_iff])
      all_goals (simp only [Jri,Jsl,decide_eq_true_eq,Int.reduceEq,if_true,if_false,true_or,or_true,or_false,false_or,or_self,ite_true,ite_false,reduceIte])
      all_goals (try simp_all)
      all_goals (try omega)
     ·by_cases k3:k=3
      ·subst k3;(refine bgo Tryz.func243 ?_;simp only [go_sem,simprocAttr]);(repeat' (apply iteI <;> intro h))
       all_goals (clear hA hP hf hs)
       all_goals (rw [Bool.eq_iff_iff])
       all_goals (simp only [Jri,Jsl,decide_eq_true_eq,Int.reduceEq,if_true,if_false,true_or,or_true,or_false,false_or,or_self,ite_true,ite_false,reduceIte])
       all_goals (try simp_all)
       all_goals (try omega)
      ·by_cases k5:k=5
       ·subst k5;(refine bgo Tryz.func243 ?_;simp only [go_sem,simprocAttr]);(repeat' (apply iteI <;> intro h))
        all_goals (clear hA hP hf hs)
        all_goals (rw [Bool.eq_iff_iff])
        all_goals (simp only [Jri,Jsl,decide_eq_true_eq,Int.reduceEq,if_true,if_false,true_or,or_true,or_false,false_or,or_self,ite_true,ite_false,reduceIte])
        all_goals (try simp_all)
        all_goals (try omega)
       ·by_cases k6:k=6
        ·subst k6;(refine bgo Tryz.func243 ?_;simp only [go_sem,simprocAttr]);(repeat' (apply iteI <;> intro h))
         all_goals (clear hA hP hf hs)
         all_goals (rw [Bool.eq_iff_iff])
         all_goals (simp only [Jri,Jsl,decide_eq_true_eq,Int.reduceEq,if_true,if_false,true_or,or_true,or_false,false_or,or_self,ite_true,ite_false,reduceIte])
         all_goals (try simp_all)
         all_goals (try omega)
        ·by_cases k7:k=7
         ·subst k7;(refine bgo Tryz.func243 ?_;simp only [go_sem,simprocAttr]);(repeat' (first | (apply iteI <;> intro h)|((refine Jqa (hP) ?_);simp only [go_sem,simprocAttr]) | fail))
          all_goals (clear hA hP hf hs)
          all_goals (rw [Bool.eq_iff_iff])
          all_goals (simp only [Jri,Jsl,decide_eq_true_eq,Int.reduceEq,if_true,if_false,true_or,or_true,or_false,false_or,or_self,ite_true,ite_false,reduceIte])
          all_goals (try simp_all)
          all_goals (try omega)
         ·by_cases k8:k=8
          ·subst k8;(refine bgo Tryz.func243 ?_;simp only [go_sem,simprocAttr]);(repeat' (first | (apply iteI <;> intro h)|((refine Jqa (hP) ?_);simp only [go_sem,simprocAttr]) | fail))
           all_goals (clear hA hP hf hs)
           all_goals (rw [Bool.eq_iff_iff])
           all_goals (simp only [Jri,Jsl,decide_eq_true_eq,Int.reduceEq,if_true,if_false,true_or,or_true,or_false,false_or,or_self,ite_true,ite_false,reduceIte])
           all_goals (try simp_all)
           all_goals (try omega)
          ·have e0:=eq_false k0;have e1:=eq_false k1;have e9:=eq_false k9;have e2:=eq_false k2;have e4:=eq_false k4;have e3:=eq_false k3;have e5:=eq_false k5;have e6:=eq_false k6;have e7:=eq_false k7;have e8:=eq_false k8;rw [show decide (Jri k s n c m)=false by simp [Jri,k0,k1,k9,k2,k4,k3,k5,k6,k7,k8]];(refine bgo Tryz.func243 ?_;simp only [go_sem,simprocAttr,e0,e1,e9,e2,e4,e3,e5,e6,e7,e8])
           skip
end Go.LX
