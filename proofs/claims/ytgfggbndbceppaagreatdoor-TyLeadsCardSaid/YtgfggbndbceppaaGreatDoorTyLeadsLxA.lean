/- Types, the laws: parts. -/
import Derived.Test.YtgfggbndbceppaaGreatDoorLxZB
import Derived.Test.YtgfggbndbceppaaGreatDoorLxW
import Derived.Test.YtgfggbndbceppaaGreatDoorLxZA
set_option linter.unusedSimpArgs false
set_option linter.unusedVariables false
set_option linter.unusedSectionVars false
set_option linter.unnecessarySimpa false
set_option maxRecDepth 100000
set_option maxHeartbeats 2000000
namespace Go.LX
open Go Go.RowKit Go.Proofs
attribute [local irreducible] Al SWP Bi
attribute [go_sem] Tryz.ntmps10 Tryz.results10
theorem J7w {t:RT} (h:okR t) (h9:t.kind≠9):Jrr (t.enc [])=true:=Jr7.2 ⟨t,h,h9,rfl⟩
attribute [go_sem] Tryz.ntmps11 Tryz.results11
end Go.LX
set_option maxHeartbeats 1000000
namespace Go.LX
open Go Go.RowKit Go.Proofs
attribute [local irreducible] Al SWP Bi
theorem Kdi (nm:List UInt8) (s:List UInt8) (g:Int) (c:Node) (kids:RF) (name:List UInt8) (hv:kids.enc.length≤999999) {k:Nat} {q:RKT} (hq:kids.list[k]? = some q) (hn:q.1=name) (hno:∀ r∈kids.list.take k,r.1≠name):Det cx 47 [.p (.sl (rowL ((RT.mk 2 s g c kids).enc nm))),.p (.str name)] [] (.tup [.sl (rowL (q.2.enc [])),.bool true]) []:=by
 have hN:=Jvz nm s g c kids hv;have hP:=Jv4 nm 2 s g c kids hv de;have hll:=Jqo kids;have hle:=Jqs kids;have hkl:=(List.getElem?_eq_some_iff.1 hq).1;have hnl:(Jr6 kids.list).length=kids.list.length:=by simp [Jr6]
 have hpl:=Jq3 kids.list;generalize rowL ((RT.mk 2 s g c kids).enc nm)=rows at *
 (refine bgo Tryz.func47 ?_;simp only [go_sem,simprocAttr]);(repeat' (first | ((refine Jqa (hN) ?_);simp only [go_sem,simprocAttr]) | fail));refine SWP.loop (fun i:Nat=>⟨Ba 27 [(0,.p (.sl rows)),(1,.p (.str name)),(6,.p (.sl (Jr6 kids.list))),(7,.p (.int .i64 i))],[]⟩) (fun i=>i≤k) (fun i=>k - i) 0 Jqb (Nat.zero_le _) ?_;intro i hi;have c1:((i:Int)<(kids.list.length:Int))=True:=eq_true omg;obtain ⟨p,hp⟩:∃ p,kids.list[i]? = some p:=⟨_,List.getElem?_eq_getElem omg⟩
 have hgn:(Jr6 kids.list)[i]? = some [.str p.1]:=by unfold Jr6;rw [List.getElem?_map,hp];rfl
 have hgp:(Jra kids.list)[i]? = some [.sl (rowL (p.2.enc []))]:=Jui hp;have w1:=wj1 (i:=i) omg;by_cases hik:i=k
 ·subst hik;rw [hq] at hp;cases hp;have e:=eq_true hn;(refine lws ?_;simp only [go_sem,simprocAttr,hnl,c1,hgn,e]);(repeat' (first | ((refine Jqa (hP) ?_);simp only [go_sem,simprocAttr,hgp]) | fail))
 ·have e:(p.1=name)=False:=eq_false (hno p (List.mem_of_getElem? (i:=i) (by rw [List.getElem?_take,if_pos omg,hp])));(refine lws ?_;simp only [go_sem,simprocAttr,hnl,c1,hgn,e,w1]);exact ⟨i+1,by omega,by omega,Jqb⟩
end Go.LX
set_option maxHeartbeats 2000000
namespace Go.LX
open Go Go.RowKit Go.Proofs
attribute [local irreducible] Al SWP Bi
theorem J54 {name:List UInt8}:∀ {l:List RKT} {o:Nat} {u:RT},Jsh name l=some (o,u)→∃ (i:Nat) (q:RKT),l[i]? = some q∧q.1=name∧q.2=u∧∀ r∈l.take i,r.1≠name
 | [],o,u,h=>by simp [Jsh] at h
 | p :: l,o,u,h=>by
  rw [Jsh] at h;by_cases hp:p.1=name
  ·rw [if_pos hp] at h;cases h;exact ⟨0,p,rfl,hp,rfl,by simp⟩
  ·rw [if_neg hp] at h;cases hf:Jsh name l with
   | none=>rw [hf] at h;cases h
   | some y =>
    rw [hf] at h;obtain ⟨i,q,a,b,c,d⟩:=J54 (show Jsh name l=some (y.1,y.2) from hf);cases h;refine ⟨i+1,q,a,b,c,fun r hr=>?_⟩;rw [List.take_succ_cons] at hr;rcases List.mem_cons.1 hr with rfl | hr
    ·exact hp
    ·exact d r hr
theorem J3z {t:RT} {p:List Step} {o:Nat} (nm:List UInt8) (h:Jrm t p=some o):∃ r,(t.enc nm)[o]? = some r∧r.kind=1:=by
 have hsp:=Jtr (t:=t) (p:=p) (nm:=nm);unfold Jrm at h;cases hl:Ju2 t p with
 | none=>rw [hl] at h;cases h
 | some u =>
  rw [hl] at h;simp only at h;split at h
  ·rename_i hk;rw [h] at hsp;obtain ⟨w,nm',b,h1,h2⟩:=hsp;rw [hl] at h1;cases h1;obtain ⟨k,s,n,c,K⟩:=u;refine ⟨⟨k,K.len,nm',s,n,c⟩,?_,hk⟩;have:=congrArg (·[0]?) h2;simp only [List.getElem?_drop,Nat.add_zero] at this;rw [this,Jqh];rfl
  ·cases h
theorem J7x {k:Int} {s:List UInt8} {n:Int} {c:Node} {kids:RF} {x:Step} {p:List Step} {o:Nat} (h:Jrm (.mk k s n c kids) (x :: p)=some o):k=2∧x.part=false∧∃ (o':Nat) (u:RT) (z:Nat),Jsh x.name kids.list=some (o',u)∧Jrm u p=some z∧o=1+o'+z:=by
 by_cases hc:k=2∧x.part=false
 ·refine ⟨hc.1,hc.2,?_⟩;cases hf:Jsh x.name kids.list with
  | none=>rw [J0s hf] at h;cases h
  | some y =>
   obtain ⟨o',u⟩:=y;rw [Jz7 hc.1 hc.2 hf] at h;cases hz:Jrm u p with
   | none=>rw [hz] at h;cases h
   | some z=>rw [hz] at h;cases h;exact ⟨o',u,z,rfl,hz,rfl⟩
 ·rw [J1m (t:=.mk k s n c kids) hc] at h;cases h
theorem Kbw {nm:List UInt8} {k:Int} {s:List UInt8} {n:Int} {c:Node} {kids:RF} {x:Step} {o' z:Nat} {u:RT} (hf:Jsh x.name kids.list=some (o',u)) {r r':YRow} (h1:((RT.mk k s n c kids).enc nm)[1+o'+z]? = some r) (h2:(u.enc [])[z]? = some r'):r'.n=r.n∧r'.many=r.many:=by
 have hfi:=Juj (name:=x.name) (f:=kids);rw [hf] at hfi;obtain ⟨_,b,hb⟩:=hfi;have hz:z<(u.enc []).length:=(List.getElem?_eq_some_iff.1 h2).1;have e:((RT.mk k s n c kids).enc nm)[1+o'+z]? = (u.enc x.name ++ b)[z]?:=by
  rw [Jqh,← hb,List.getElem?_drop,show 1+o'+z=(o'+z)+1 by omega,List.getElem?_cons_succ]
 obtain ⟨k',s',n',c',K⟩:=u;rw [e,Jqh] at h1;rw [Jqh] at h2 hz;cases z with
 | zero=>cases h1;cases h2;exact ⟨rfl,rfl⟩
 | succ z =>
  rw [List.cons_append,List.getElem?_cons_succ,List.getElem?_append_left (by simp at hz;omega)] at h1;rw [List.getElem?_cons_succ,h1] at h2;cases h2;exact ⟨rfl,rfl⟩
theorem Kaq (v:List YRow) (p:List Step) (hv:FiFit v) (hp:PathFit p):Det cx 11 [.p (.sl (rowL v)),.p (.sl (Bb p))] [] (.p (.bool true)) []:=by
 have hS:=Jx1 v 40 de (by have:=hv.len;omega) hv.row;cases b1:Jsq v 40 with
 | false =>
  rw [b1] at hS;(refine bgo Tryz.func11 ?_;simp only [go_sem,simprocAttr]);(repeat' (first | ((first | (refine Jqa (hS) ?_)|(refine Jqa (Jqx) ?_));simp only [go_sem,simprocAttr]) | fail))
 | true =>
  rw [b1] at hS;obtain ⟨hl40,hrow⟩:=Jtp hv b1;have hR:=Jsm v omg (Jsb hrow);cases b2:Jrr v with
  | false =>
   rw [b2] at hR;(refine bgo Tryz.func11 ?_;simp only [go_sem,simprocAttr]);(repeat' (first | ((first | (refine Jqa (hS) ?_)|(refine Jqa (hR) ?_)|(refine Jqa (Jqx) ?_));simp only [go_sem,simprocAttr]) | fail))
  | true =>
   rw [b2] at hR;have hP:=Jyz p hp.len hp.name;by_cases hpo:E9 p
   ·rw [decide_eq_true hpo] at hP;have hp6:=J1v hp hpo;obtain ⟨t,ho,h9,rfl,htl,hf,_⟩:=Jud hv b1 b2;have hLf:=Jwu p t [] omg hp6;have hlt:∀ o,Jrm t p=some o→o<(t.enc []).length:=fun o h=>J11 h
    have hrw:=fun o (h:Jrm t p=some o)=>J3z [] h
    have hrl:(rowL (t.enc [])).length=(t.enc []).length:=Jqc _;obtain ⟨k,s,g,c,kids⟩:=t;have hkl:kids.enc.length≤39:=by rw [Jqh,List.length_cons] at htl;omega
    have hg0:(rowL ((RT.mk k s g c kids).enc []))[0]? = some [.int .i64 k,.int .i64 kids.len,.str [],.str s,.int .i64 g,.int .i64 c.kind,.int .i64 c.many,.str c.name,.str c.s,.bool c.neg,.int .i64 c.e]:=by rw [Jqh];rfl
    cases hlo:Jrm (.mk k s g c kids) p with
    | none =>
     rw [hlo] at hLf;simp only [Jur] at hLf;cases p with
     | nil =>
      have hk:k≠1:=fun h=>by rw [Jxf (t:=.mk k s g c kids) h] at hlo;cases hlo
      have e1:=eq_false hk;rw [show Bb []=[] from rfl] at *
      generalize rowL ((RT.mk k s g c kids).enc [])=rows at *
      (refine bgo Tryz.func11 ?_;simp only [go_sem,simprocAttr]);(repeat' (first | ((first | (refine Jqa (hS) ?_)|(refine Jqa (hR) ?_)|(refine Jqa (hP) ?_)|(refine Jqa (hLf) ?_)|(refine Jqa (Jqx) ?_));simp only [go_sem,simprocAttr,hg0,e1,not_false_eq_true]) | fail))
     | cons x p =>
      have c1:((0:Int)<((Bb (x :: p)).length:Int))=True:=eq_true (by simp [Bb] <;> omega);generalize Bb (x :: p)=ps at *
      generalize rowL ((RT.mk k s g c kids).enc [])=rows at *
      (refine bgo Tryz.func11 ?_;simp only [go_sem,simprocAttr]);(repeat' (first | ((first | (refine Jqa (hS) ?_)|(refine Jqa (hR) ?_)|(refine Jqa (hP) ?_)|(refine Jqa (hLf) ?_)|(refine Jqa (Jqx) ?_));simp only [go_sem,simprocAttr,c1]) | fail))
    | some o =>
     rw [hlo] at hLf;simp only [Jur] at hLf;have hol:=hlt o hlo;obtain ⟨r,hr,hr1⟩:=hrw o hlo;have hgr:=Jsr hr;rw [hr1] at hgr;have c2:((o:Int)<0)=False:=eq_false omg;cases p with
     | nil =>
      have hk:k=1:=Decidable.byContradiction fun h=>by rw [J1z (t:=.mk k s g c kids) h] at hlo;cases hlo
      rw [Jxf (t:=.mk k s g c kids) hk] at hlo;cases hlo;rw [show Bb []=[] from rfl] at *
      have hpos:=Jrs (.mk k s g c kids) [];have c3:(((rowL ((RT.mk k s g c kids).enc [])).length:Int)≤0)=False:=eq_false omg;generalize rowL ((RT.mk k s g c kids).enc [])=rows at *
      (refine bgo Tryz.func11 ?_;simp only [go_sem,simprocAttr]);(repeat' (first | ((first | (refine Jqa (hS) ?_)|(refine Jqa (hR) ?_)|(refine Jqa (hP) ?_)|(refine Jqa (hLf) ?_)|(refine Jqa (Jqx) ?_));simp only [go_sem,simprocAttr,hgr,c3]) | fail))
     | cons x p =>
      obtain ⟨hk,hpt,o',u,z,hfo,hz,rfl⟩:=J7x hlo;subst hk;obtain ⟨i,q,hq,hqn,rfl,hno⟩:=J54 hfo;have hF:=Kdi [] s g c kids x.name omg hq hqn hno;have hpl:=Jxv (List.mem_of_getElem? hq);have hLu:=Jwu p q.2 [] omg (by simp at hp6;omega);rw [hz] at hLu;simp only [Jur] at hLu;have hzl:=J11 (nm:=[]) hz;obtain ⟨r',hr',hr1'⟩:=J3z [] hz;have hgr':=Jsr hr';obtain ⟨en,em⟩:=Kbw hfo hr hr';rw [en,em] at hgr';have hrl':(rowL (q.2.enc [])).length=(q.2.enc []).length:=Jqc _;have hp0:(Bb (x :: p))[0]? = some [.bool false,.str x.name,.int .i64 x.n]:=by rw [← hpt];rfl
      have hpl2:(Bb (x :: p)).length=p.length+1:=by simp [Bb]
      have hsl:(Bb (x :: p)).drop 1=Bb p:=rfl;have hel3:∀ q∈Bb (x :: p),q.length=3:=by
       intro q hq;obtain ⟨y,_,rfl⟩:=List.mem_map.1 hq;rfl
      generalize Bb (x :: p)=ps at *
      generalize rowL ((RT.mk 2 s g c kids).enc [])=rows at *
      generalize rowL (q.2.enc [])=rows' at *
      generalize Bb p=ps' at *
      clear hno hfo hlo hf ho hrow hv b1 b2;(refine bgo Tryz.func11 ?_;simp only [go_sem,simprocAttr]);(repeat' (first | (refine And.intro hel3 ?_)|(apply iteI <;> intro h)|(refine Jqd ?_)|((first | (refine Jqp ?_)|(refine Jqa (hS) ?_)|(refine Jqa (hR) ?_)|(refine Jqa (hP) ?_)|(refine Jqa (hLf) ?_)|(refine Jqa (hF) ?_)|(refine Jqa (hLu) ?_)|(refine Jqa (Jqx) ?_)|(refine Jqg (Jqx) ?_));simp only [go_sem,simprocAttr,hg0,hgr,hgr',hp0,hpl2,hsl,hrl,hrl'])|(exfalso;omega)))
      all_goals omega
   ·rw [decide_eq_false hpo] at hP;(refine bgo Tryz.func11 ?_;simp only [go_sem,simprocAttr]);(repeat' (first | ((first | (refine Jqa (hS) ?_)|(refine Jqa (hR) ?_)|(refine Jqa (hP) ?_)|(refine Jqa (Jqx) ?_));simp only [go_sem,simprocAttr]) | fail))
end Go.LX
