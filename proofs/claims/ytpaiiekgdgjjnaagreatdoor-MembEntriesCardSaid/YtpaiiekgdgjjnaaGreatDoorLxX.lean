/- Membership: In. -/
import Derived.Test.YtpaiiekgdgjjnaaGreatDoorLxW
import Derived.Test.YtpaiiekgdgjjnaaGreatDoorLxT
import Derived.Test.YtpaiiekgdgjjnaaGreatDoorLxS
set_option linter.unusedSimpArgs false
set_option linter.unusedVariables false
set_option linter.unusedSectionVars false
set_option linter.unnecessarySimpa false
set_option maxRecDepth 100000
set_option maxHeartbeats 2000000
namespace Go.LX
open Go Go.RowKit Go.Proofs
attribute [local irreducible] Al SWP Bi
def SFit (t:RT):Prop:=∀ r∈t.enc [],r.s.length≤1000000
theorem J3j:∀ {f:RF} {p:RKT},p∈f.list→(p.2.enc []).length≤f.enc.length
 | .nil,p,h=>by cases h
 | .cons nm t r,p,h=>by
  rw [Jqg,List.length_append];rcases List.mem_cons.1 h with rfl | h
  ·simp only;rw [J6v t nm];omega
  ·have:=J3j h;omega
theorem senc {t:RT} {a b:List UInt8} (h:∀ r∈t.enc a,r.s.length≤1000000):∀ r∈t.enc b,r.s.length≤1000000:=by
 cases t with
 | mk k s n c kids =>
  rw [Jqo] at h ⊢;intro r hr;rcases List.mem_cons.1 hr with rfl | hr
  ·exact h ⟨k,kids.len,a,s,n,c⟩ List.mem_cons_self
  ·exact h r (List.mem_cons_of_mem _ hr)
theorem smem:∀ {f:RF} {p:RKT},(∀ r∈f.enc,r.s.length≤1000000)→p∈f.list→SFit p.2
 | .nil,p,_,h=>by cases h
 | .cons nm t r,p,hf,h=>by
  rw [Jqg] at hf;rcases List.mem_cons.1 h with rfl | h
  ·exact senc (a:=nm) fun x hx=>hf x (List.mem_append_left _ hx)
  ·exact smem (fun x hx=>hf x (List.mem_append_right _ hx)) h
theorem J4w {p:RKT} (h1:okR p.2) (h2:p.2.kind=9):p.2.kids=.nil∧Jrn p.2.n p.2.c:=by
 obtain ⟨nm,⟨pk,ps,pn,pc,pkids⟩⟩:=p;have h2:pk=9:=h2;subst h2;have h3:=(Jt9.1 h1).1;simp [Jri] at h3;refine ⟨?_,h3.2.2⟩;cases pkids with
 | nil=>rfl
 | cons a b c=>simp [RF.len] at h3
theorem inK2 {s:List UInt8} {n:Int} {rows:List RKT} {ps:List (Tree→Bool)} {v:Tree}:inK 2 s n rows ps v=(decide (v.kind=6) && ((decide (n≠0) || decide (v.kids.len=rows.length)) && objS v.kids.list rows ps)):=rfl
theorem inK3 {s:List UInt8} {n:Int} {rows:List RKT} {ps:List (Tree→Bool)} {v:Tree}:inK 3 s n rows ps v=(decide (v.kind=6) && allP (Jt2 ps) v.kids.list):=rfl
theorem inK4 {s:List UInt8} {n:Int} {rows:List RKT} {ps:List (Tree→Bool)} {v:Tree}:inK 4 s n rows ps v=(decide (v.kind=5) && tupS ps v.kids.list):=rfl
theorem inK5 {s:List UInt8} {n:Int} {rows:List RKT} {ps:List (Tree→Bool)} {v:Tree}:inK 5 s n rows ps v=(decide (v.kind=5) && allP (Jt2 ps) v.kids.list):=rfl
theorem inK6 {s:List UInt8} {n:Int} {rows:List RKT} {ps:List (Tree→Bool)} {v:Tree}:inK 6 s n rows ps v=(decide (v.kind=5) && entS (Jt2 ps) none v.kids.list):=rfl
theorem inK7 {s:List UInt8} {n:Int} {rows:List RKT} {ps:List (Tree→Bool)} {v:Tree}:inK 7 s n rows ps v=(decide (v.kind=5) && (allP (Jt2 ps) v.kids.list && Jr5 (Jrt s v.kids.list))):=rfl
theorem inK8 {s:List UInt8} {n:Int} {rows:List RKT} {ps:List (Tree→Bool)} {v:Tree}:inK 8 s n rows ps v=(decide (v.kind=5) && Jtv (Jt2 ps) s none v.kids.list):=rfl
theorem J8p {k:Int} {s:List UInt8} {n:Int} {c:Node} {m:Int} (h:Jri k s n c m) (h0:k≠0) (h1:k≠1) (h9:k≠9):k=2∨k=4∨((k=3∨k=5∨k=6∨k=7∨k=8)∧m=1):=by
 unfold Jri at h;rw [if_neg h0,if_neg h1,if_neg h9] at h;split at h
 ·exact .inl (by assumption)
 ·split at h
  ·exact .inr (.inl (by assumption))
  ·split at h
   ·exact .inr (.inr ⟨by omega,h.1⟩)
   ·split at h
    ·exact .inr (.inr ⟨by omega,h.1⟩)
    ·exact h.elim
theorem leaf_v {k:Int} {s:List UInt8} {g:Bool} {e:Int} {kids:Forest}:J14 (.mk k s g e kids)=decide (kids.enc.length=0):=by
 cases kids with
 | nil=>simp [J14,Bl]
 | cons a b c =>
  have:=Et b a;simp [J14,A0];intro h;rw [h] at this;simp at this
theorem d_In (n:Nat):∀ t:RT,(t.enc []).length≤n→okR t→t.kind≠9→SFit t→(t.enc []).length≤1000000→InOK t:=by
 induction n with
 | zero=>intro t h;have:=Jso t [];omega
 | succ n ih =>
 intro t hn hok h9 hsf hsz;obtain ⟨k,s,m,c,kids⟩:=t;have hok:=Jt9.1 hok;obtain ⟨hro,hkd,hld,hkr⟩:=hok;rw [Jqo,List.length_cons] at hn hsz;have hll:=Jq3 kids;have hkl:=Jrc kids;have hsk:∀ r∈kids.enc,r.s.length≤1000000:=fun r hr=>hsf r (by rw [Jqo];exact List.mem_cons_of_mem _ hr)
 have hs0:s.length≤1000000:=hsf ⟨k,kids.len,[],s,m,c⟩ (by rw [Jqo];exact List.mem_cons_self);have h9:k≠9:=h9;have hgt:(rowL ((RT.mk k s m c kids).enc []))[0]? = some [.int .i64 k,.int .i64 kids.len,.str [],.str s,.int .i64 m,.int .i64 c.kind,.int .i64 c.many,.str c.name,.str c.s,.bool c.neg,.int .i64 c.e]:=by rw [Jqo];rfl
 have hIk:k≠1→∀ r∈kids.list,InOK r.2:=fun hk1 r hr=>by
  have:=J3j hr;refine ih r.2 omg (Jug.1 hkr r hr) (fun h=>hk1 ((hkd.1 r hr).1.1 h)) (smem hsk hr) omg
 intro x hx;obtain ⟨vk,vs,vg,ve,vkids⟩:=x;have hgv:=Cc [] vk vs vg ve vkids;have hvl:=hx.len;rw [A6,List.length_cons] at hvl;have hvll:=Jqh vkids;have hvkl:=Jqf vkids;have hvx:∀ q∈vkids.list,VFit q.2:=fun q hq=>hx.kid hq
 have hvlen:(valL ((Tree.mk vk vs vg ve vkids).enc [])).length=vkids.enc.length+1:=by rw [A7,A6];rfl
 rw [Jvo];by_cases hk0:k=0
 ·subst hk0;have hP:=Jzj [] 0 s m c kids omg de;rw [show inK 0 s m kids.list (inL kids) (Tree.mk vk vs vg ve vkids)=true from if_pos rfl];(refine bgo Tryz.func17 ?_;simp only [go_sem,simprocAttr,hgt]);(repeat' (first | ((refine Jqa (hP) ?_);simp only [go_sem,simprocAttr]) | fail))
 ·by_cases hk1:k=1
  ·subst hk1;have hP:=J75 [] s m c kids omg;have hlk:J2e kids.list:=fun p hp=>(J4w (Jug.1 hkr p hp) ((hkd.1 p hp).1.2 rfl)).1
   have hAt:=J9c [] s m c kids omg hlk;have hrow:=hro;simp [Jri] at hrow;have hat:∀ a∈Jq8 kids.list,Jrn a.1 a.2:=fun a ha=>by
    obtain ⟨p,hp,rfl⟩:=List.mem_map.1 ha;exact (J4w (Jug.1 hkr p hp) ((hkd.1 p hp).1.2 rfl)).2
   rw [show inK 1 s m kids.list (inL kids) (Tree.mk vk vs vg ve vkids)=(J14 (Tree.mk vk vs vg ve vkids) && Jq1 m (Jq8 kids.list) (J9l (Tree.mk vk vs vg ve vkids))) from rfl,leaf_v];by_cases hlf:vkids.enc.length=0
   ·have c3:(((vkids.enc.length+1:Nat):Int)=1)=True:=eq_true omg;have hnode:=(Lu.1 hx.ok).1;have hfit:=hx.fit ⟨vk,vkids.len,[],vs,vg,ve⟩ (by rw [A6];exact List.mem_cons_self);have hM:=J9p m (Jq8 kids.list) ⟨vk,vkids.len,[],vs,vg,ve⟩ omg omg (by simp [Jq8];omega) hat (fun hk5=>⟨hk5,rfl,hnode⟩) hfit.s (by
     have:=hnode;unfold G3 at this;split at this
     ·simp only;omega
     ·split at this
      ·simp only;omega
      ·split at this
       ·simp only;omega
       ·split at this
        ·simp only;omega
        ·exact this.elim)
    simp only at hM;rw [decide_eq_true hlf,Bool.true_and];(refine bgo Tryz.func17 ?_;simp only [go_sem,simprocAttr,hgt]);(repeat' (first | ((first | (refine Jqk ?_)|(refine Jqa (hP) ?_)|(refine Jqd (hAt) ?_)|(refine Jqd (hM) ?_));simp only [go_sem,simprocAttr,hgv,hvlen,c3]) | fail));rfl
   ·have c3:(((vkids.enc.length+1:Nat):Int)=1)=False:=eq_false omg;rw [decide_eq_false hlf,Bool.false_and];(refine bgo Tryz.func17 ?_;simp only [go_sem,simprocAttr,hgt]);(repeat' (first | ((first | (refine Jqk ?_)|(refine Jqa (hP) ?_));simp only [go_sem,simprocAttr,hvlen,c3]) | fail))
  ·have hP:=Jzj [] k s m c kids omg hk1;have hI:=hIk hk1;have hPv:=Px [] vk vs vg ve vkids omg;rcases J8p hro hk0 hk1 h9 with rfl | rfl | ⟨hkk,hm1⟩
   ·rw [inK2];by_cases hv6:vk=6
    ·subst hv6;have hO:=J9w m c s kids omg hI vs vg ve vkids hx;rw [show decide ((Tree.mk 6 vs vg ve vkids).kind=6)=true from rfl,Bool.true_and];(refine bgo Tryz.func17 ?_;simp only [go_sem,simprocAttr,hgt]);(repeat' (first | ((first | (refine Jqa (hP) ?_)|(refine Jqa (hPv) ?_)|(refine Jqa (hO) ?_));simp only [go_sem,simprocAttr,hgv]) | fail))
     all_goals rfl
    ·have c6:=eq_false hv6;rw [show decide ((Tree.mk vk vs vg ve vkids).kind=6)=false from decide_eq_false hv6,Bool.false_and];(refine bgo Tryz.func17 ?_;simp only [go_sem,simprocAttr,hgt,not_false_eq_true]);(repeat' (first | ((refine Jqa (hP) ?_);simp only [go_sem,simprocAttr,hgv,c6,not_false_eq_true]) | fail))
   ·rw [inK4];by_cases hv5:vk=5
    ·subst hv5;have hE:=J44 kids.list vkids.list omg omg hI hvx;rw [show decide ((Tree.mk 5 vs vg ve vkids).kind=5)=true from rfl,Bool.true_and,Jyw];(refine bgo Tryz.func17 ?_;simp only [go_sem,simprocAttr,hgt]);(repeat' (first | ((first | (refine Jqa (hP) ?_)|(refine Jqa (hPv) ?_)|(refine Jqa (hE) ?_));simp only [go_sem,simprocAttr,hgv]) | fail))
     all_goals rfl
    ·have c6:=eq_false hv5;rw [show decide ((Tree.mk vk vs vg ve vkids).kind=5)=false from decide_eq_false hv5,Bool.false_and];(refine bgo Tryz.func17 ?_;simp only [go_sem,simprocAttr,hgt,not_false_eq_true]);(repeat' (first | ((refine Jqa (hP) ?_);simp only [go_sem,simprocAttr,hgv,c6,not_false_eq_true]) | fail))
   ·obtain ⟨nm,t0,kr,rfl⟩:∃ nm t0 kr,kids=.cons nm t0 kr:=by
     cases kids with
     | nil=>simp [RF.len] at hm1
     | cons a b c=>exact ⟨a,b,c,rfl⟩
    have hI0:InOK t0:=hI (nm,t0) List.mem_cons_self;have hgr:(Jqu (RF.cons nm t0 kr).list)[0]? = some [.sl (rowL (t0.enc []))]:=rfl;have hph:Jt2 (inL (RF.cons nm t0 kr))=inTy t0:=by rw [Ju0];rfl
    have hA:=d_allOf (RF.cons nm t0 kr).list (nm,t0) rfl hI0 vkids.list omg hvx;simp only at hA;have hL:k=7∨k=8→Jsn t0 (Je s).1:=fun hh=>hld hh (nm,t0) rfl
    rcases hkk with rfl | rfl | rfl | rfl | rfl
    ·rw [inK3,hph];by_cases hv6:vk=6
     ·subst hv6;rw [show decide ((Tree.mk 6 vs vg ve vkids).kind=6)=true from rfl,Bool.true_and];(refine bgo Tryz.func17 ?_;simp only [go_sem,simprocAttr,hgt]);(repeat' (first | ((first | (refine Jqa (hP) ?_)|(refine Jqa (hPv) ?_)|(refine Jqa (hA) ?_));simp only [go_sem,simprocAttr,hgv]) | fail))
      all_goals rfl
     ·have c6:=eq_false hv6;rw [show decide ((Tree.mk vk vs vg ve vkids).kind=6)=false from decide_eq_false hv6,Bool.false_and];(refine bgo Tryz.func17 ?_;simp only [go_sem,simprocAttr,hgt,not_false_eq_true]);(repeat' (first | ((refine Jqa (hP) ?_);simp only [go_sem,simprocAttr,hgv,c6,not_false_eq_true]) | fail))
    ·rw [inK5,hph];by_cases hv5:vk=5
     ·subst hv5;rw [show decide ((Tree.mk 5 vs vg ve vkids).kind=5)=true from rfl,Bool.true_and];(refine bgo Tryz.func17 ?_;simp only [go_sem,simprocAttr,hgt]);(repeat' (first | ((first | (refine Jqa (hP) ?_)|(refine Jqa (hPv) ?_)|(refine Jqa (hA) ?_));simp only [go_sem,simprocAttr,hgv]) | fail))
      all_goals rfl
     ·have c6:=eq_false hv5;rw [show decide ((Tree.mk vk vs vg ve vkids).kind=5)=false from decide_eq_false hv5,Bool.false_and];(refine bgo Tryz.func17 ?_;simp only [go_sem,simprocAttr,hgt,not_false_eq_true]);(repeat' (first | ((refine Jqa (hP) ?_);simp only [go_sem,simprocAttr,hgv,c6,not_false_eq_true]) | fail))
    ·rw [inK6,hph];by_cases hv5:vk=5
     ·subst hv5;have hE:=J8h t0 hI0 vkids.list omg hvx;rw [show decide ((Tree.mk 5 vs vg ve vkids).kind=5)=true from rfl,Bool.true_and];(refine bgo Tryz.func17 ?_;simp only [go_sem,simprocAttr,hgt]);(repeat' (first | ((first | (refine Jqa (hP) ?_)|(refine Jqa (hPv) ?_)|(refine Jqa (hE) ?_));simp only [go_sem,simprocAttr,hgv,hgr]) | fail))
      all_goals rfl
     ·have c6:=eq_false hv5;rw [show decide ((Tree.mk vk vs vg ve vkids).kind=5)=false from decide_eq_false hv5,Bool.false_and];(refine bgo Tryz.func17 ?_;simp only [go_sem,simprocAttr,hgt,not_false_eq_true]);(repeat' (first | ((refine Jqa (hP) ?_);simp only [go_sem,simprocAttr,hgv,c6,not_false_eq_true]) | fail))
    ·rw [inK7,hph];by_cases hv5:vk=5
     ·subst hv5;rw [show decide ((Tree.mk 5 vs vg ve vkids).kind=5)=true from rfl,Bool.true_and];rw [show (Tree.mk 5 vs vg ve vkids).kids=vkids from rfl];cases hall:allP (inTy t0) vkids.list with
      | false =>
       rw [hall] at hA;rw [Bool.false_and];(refine bgo Tryz.func17 ?_;simp only [go_sem,simprocAttr,hgt]);(repeat' (first | ((first | (refine Jqa (hP) ?_)|(refine Jqa (hPv) ?_)|(refine Jqa (hA) ?_));simp only [go_sem,simprocAttr,hgv]) | fail))
      | true =>
       rw [hall] at hA;obtain ⟨hkt,hks⟩:=Jxr (hL (.inl rfl)) hvx hall;have hK:=J4a s vkids.list hs0 omg (fun q hq=>by have:=Jd7 hq;omega);rw [hkt] at hK;have hRi:=d_Rises (Jrt s vkids.list) ⟨by simp [Jrt];omega,fun w hw=>⟨(hks w hw).1,by have:=(hks w hw).2;omega⟩⟩;rw [Bool.true_and];(refine bgo Tryz.func17 ?_;simp only [go_sem,simprocAttr,hgt]);(repeat' (first | ((first | (refine Jqa (hP) ?_)|(refine Jqa (hPv) ?_)|(refine Jqa (hA) ?_)|(refine Jqa (hK) ?_)|(refine Jqa (hRi) ?_));simp only [go_sem,simprocAttr,hgv]) | fail))
     ·have c6:=eq_false hv5;rw [show decide ((Tree.mk vk vs vg ve vkids).kind=5)=false from decide_eq_false hv5,Bool.false_and];(refine bgo Tryz.func17 ?_;simp only [go_sem,simprocAttr,hgt,not_false_eq_true]);(repeat' (first | ((refine Jqa (hP) ?_);simp only [go_sem,simprocAttr,hgv,c6,not_false_eq_true]) | fail))
    ·rw [inK8,hph];by_cases hv5:vk=5
     ·subst hv5;have hG:=Kb5 t0 hI0 s hs0 (hL (.inr rfl)) vkids.list omg hvx;rw [show decide ((Tree.mk 5 vs vg ve vkids).kind=5)=true from rfl,Bool.true_and];(refine bgo Tryz.func17 ?_;simp only [go_sem,simprocAttr,hgt]);(repeat' (first | ((first | (refine Jqk ?_)|(refine Jqa (hP) ?_)|(refine Jqa (hPv) ?_)|(refine Jqd (hG) ?_));simp only [go_sem,simprocAttr,hgv,hgr]) | fail))
      all_goals rfl
     ·have c6:=eq_false hv5;rw [show decide ((Tree.mk vk vs vg ve vkids).kind=5)=false from decide_eq_false hv5,Bool.false_and];(refine bgo Tryz.func17 ?_;simp only [go_sem,simprocAttr,hgt,not_false_eq_true]);(repeat' (first | ((refine Jqa (hP) ?_);simp only [go_sem,simprocAttr,hgv,c6,not_false_eq_true]) | fail))
theorem Kay (k:Int) (s:List UInt8) (g:Bool) (e:Int) (kids:Forest) (hk:k≠6):Det cx 27 [.p (.sl (valL ((Tree.mk k s g e kids).enc [])))] [] (.p (.sl [])) []:=by
 have hg:=Cc [] k s g e kids;have c1:=eq_false hk;generalize hvv:(Tree.mk k s g e kids).enc []=v at hg ⊢;(refine bgo Tryz.func27 ?_;simp only [go_sem,simprocAttr]);refine SWP.loop (fun _:Unit=>⟨Ba 34 [(0,.p (.sl (valL v))),(3,.own 6 0 0),(4,.p (.int .i64 1)),(5,.p (.int .i64 0))],[(6,.row 9 1 [])]⟩) (fun _=>True) (fun _=>0) () Jqb trivial ?_;rintro _ _;(refine lws ?_;simp only [go_sem,simprocAttr,hg,c1]);(repeat' (first | (apply iteI <;> intro h)|(exact True.intro)))
structure NodeFitC (n:Node):Prop where
 s:n.s.length≤1000000
 e0:-9223372036854775808≤n.e
 e1:n.e≤9223372036854775807
theorem Jww (n:Node) (hnm:n.name≠[]):Det cx 40 [.p (.sl [[.int .i64 n.kind,.int .i64 n.many,.str n.name,.str n.s,.bool n.neg,.int .i64 n.e]])] [] (.p (.bool false)) []:=by
 have hg0:([[PV.int .i64 n.kind,PV.int .i64 n.many,PV.str n.name,PV.str n.s,PV.bool n.neg,PV.int .i64 n.e]]:List (List PV))[0]? = some [PV.int .i64 n.kind,PV.int .i64 n.many,PV.str n.name,PV.str n.s,PV.bool n.neg,PV.int .i64 n.e]:=rfl;have c2:(n.name=[])=False:=eq_false hnm;have hN:=Uv [n] sm;rw [show valL [n]=[[.int .i64 n.kind,.int .i64 n.many,.str n.name,.str n.s,.bool n.neg,.int .i64 n.e]] from rfl] at hN;(refine bgo Tryz.func40 ?_;simp only [go_sem,simprocAttr,hg0,c2,List.length_cons,List.length_nil])
 skip
theorem J1i (n:Node) (hf:NodeFitC n):Det cx 142 [.p (.agg [.int .i64 n.kind,.int .i64 n.many,.str n.name,.str n.s,.bool n.neg,.int .i64 n.e])] [] (.p (.bool (decide (Jrb n)))) []:=by
 by_cases hnm:n.name=[]
 ·exact Jwy n ⟨hf.s,by rw [hnm];simp,hf.e0,hf.e1⟩
 ·rw [decide_eq_false (fun h=>hnm h.2.1)];have hR:=Jww n hnm;by_cases hk:n.kind<5
  ·have c1:(n.kind<5)=True:=eq_true hk;(refine bgo Tryz.func142 ?_;simp only [go_sem,simprocAttr,c1,decide_true]);(repeat' (first | ((refine Jqa (hR) ?_);simp only [go_sem,simprocAttr]) | fail))
  ·have c1:(n.kind<5)=False:=eq_false hk;(refine bgo Tryz.func142 ?_;simp only [go_sem,simprocAttr,c1,decide_false])
   skip
theorem J3b (n:Int) (c:Node) (hf:NodeFitC c):Det cx 286 [.p (.agg [.int .i64 n,.int .i64 c.kind,.int .i64 c.many,.str c.name,.str c.s,.bool c.neg,.int .i64 c.e])] [] (.p (.bool (decide (Jrn n c)))) []:=by
 have hP:=J1i c hf;by_cases h0:0≤n
 ·by_cases h5:n≤5
  ·have c1:=eq_true h0;have c2:=eq_true h5;rw [show decide (Jrn n c)=decide (Jrb c) by rw [Bool.eq_iff_iff];simp [Jrn,h0,h5]];(refine bgo Tryz.func286 ?_;simp only [go_sem,simprocAttr,c1,c2,decide_true]);(repeat' (first | ((refine Jqa (hP) ?_);simp only [go_sem,simprocAttr]) | fail))
  ·have c1:=eq_true h0;have c2:=eq_false h5;rw [show decide (Jrn n c)=false from decide_eq_false fun h=>h5 h.2.1];(refine bgo Tryz.func286 ?_;simp only [go_sem,simprocAttr,c1,c2,decide_true,decide_false])
   skip
 ·have c1:=eq_false h0;rw [show decide (Jrn n c)=false from decide_eq_false fun h=>h0 h.1];(refine bgo Tryz.func286 ?_;simp only [go_sem,simprocAttr,c1,decide_false])
  skip
theorem Jsl {c:Node}:c=Jrp ↔ c.kind=0∧c.many=0∧c.name=[]∧c.s=[]∧c.neg=false∧c.e=0:=by
 rw [← Qo];rfl
theorem J8m (k m:Int) (nm s:List UInt8) (n:Int) (c:Node) (hs:s.length≤1000000) (hf:NodeFitC c):Det cx 243 [.p (.agg [.int .i64 k,.int .i64 m,.str nm,.str s,.int .i64 n,.int .i64 c.kind,.int .i64 c.many,.str c.name,.str c.s,.bool c.neg,.int .i64 c.e])] [] (.p (.bool (decide (Jri k s n c m)))) []:=by
 have hA:=J3b n c hf;have hP:=Jx7 s hs;by_cases k0:k=0
 ·subst k0;(refine bgo Tryz.func243 ?_;simp only [go_sem,simprocAttr]);(repeat' (apply iteI <;> intro h))
  all_goals (clear hA hP hf hs)
  all_goals (rw [Bool.eq_iff_iff])
  all_goals (simp only [Jri,Jsl,decide_eq_true_eq,Int.reduceEq,if_true,if_false,true_or,or_true,or_false,false_or,or_self,ite_true,ite_false,reduceIte])
  all_goals (try simp_all)
  all_goals (try omega)
 ·by_cases k1:k=1
  ·subst k1;(refine bgo Tryz.func243 ?_;simp only [go_sem,simprocAttr]);(repeat' (apply iteI <;> intro h))
   all_goals (clear hA hP hf hs)
   all_goals (rw [Bool.eq_iff_iff])
   all_goals (simp only [Jri,Jsl,decide_eq_true_eq,Int.reduceEq,if_true,if_false,true_or,or_true,or_false,false_or,or_self,ite_true,ite_false,reduceIte])
   all_goals (try simp_all)
   all_goals (try omega)
  ·by_cases k9:k=9
   ·subst k9;(refine bgo Tryz.func243 ?_;simp only [go_sem,simprocAttr]);(repeat' (first | (apply iteI <;> intro h)|((refine Jqa (hA) ?_);simp only [go_sem,simprocAttr]) | fail))
    all_goals (clear hA hP hf hs)
    all_goals (rw [Bool.eq_iff_iff])
    all_goals (simp only [Jri,Jsl,decide_eq_true_eq,Int.reduceEq,if_true,if_false,true_or,or_true,or_false,false_or,or_self,ite_true,ite_false,reduceIte])
    all_goals (try simp_all)
    all_goals (try omega)
   ·by_cases k2:k=2
    ·subst k2;(refine bgo Tryz.func243 ?_;simp only [go_sem,simprocAttr]);(repeat' (apply iteI <;> intro h))
     all_goals (clear hA hP hf hs)
     all_goals (rw [Bool.eq_iff_iff])
     all_goals (simp only [Jri,Jsl,decide_eq_true_eq,Int.reduceEq,if_true,if_false,true_or,or_true,or_false,false_or,or_self,ite_true,ite_false,reduceIte])
     all_goals (try simp_all)
     all_goals (try omega)
    ·by_cases k4:k=4
     ·subst k4;(refine bgo Tryz.func243 ?_;simp only [go_sem,simprocAttr]);(repeat' (apply iteI <;> intro h))
      all_goals (clear hA hP hf hs)
      all_goals (rw [Bool.eq_iff_iff])
      all_goals (simp only [Jri,Jsl,decide_eq_true_eq,Int.reduceEq,if_true,if_false,true_or,or_true,or_false,false_or,or_self,ite_true,ite_false,reduceIte])
      all_goals (try simp_all)
      all_goals (try omega)
     ·by_cases k3:k=3
      ·subst k3;(refine bgo Tryz.func243 ?_;simp only [go_sem,simprocAttr]);(repeat' (apply iteI <;> intro h))
       all_goals (clear hA hP hf hs)
       all_goals (rw [Bool.eq_iff_iff])
       all_goals (simp only [Jri,Jsl,decide_eq_true_eq,Int.reduceEq,if_true,if_false,true_or,or_true,or_false,false_or,or_self,ite_true,ite_false,reduceIte])
       all_goals (try simp_all)
       all_goals (try omega)
      ·by_cases k5:k=5
       ·subst k5;(refine bgo Tryz.func243 ?_;simp only [go_sem,simprocAttr]);(repeat' (apply iteI <;> intro h))
        all_goals (clear hA hP hf hs)
        all_goals (rw [Bool.eq_iff_iff])
        all_goals (simp only [Jri,Jsl,decide_eq_true_eq,Int.reduceEq,if_true,if_false,true_or,or_true,or_false,false_or,or_self,ite_true,ite_false,reduceIte])
        all_goals (try simp_all)
        all_goals (try omega)
       ·by_cases k6:k=6
        ·subst k6;(refine bgo Tryz.func243 ?_;simp only [go_sem,simprocAttr]);(repeat' (apply iteI <;> intro h))
         all_goals (clear hA hP hf hs)
         all_goals (rw [Bool.eq_iff_iff])
         all_goals (simp only [Jri,Jsl,decide_eq_true_eq,Int.reduceEq,if_true,if_false,true_or,or_true,or_false,false_or,or_self,ite_true,ite_false,reduceIte])
         all_goals (try simp_all)
         all_goals (try omega)
        ·by_cases k7:k=7
         ·subst k7;(refine bgo Tryz.func243 ?_;simp only [go_sem,simprocAttr]);(repeat' (first | (apply iteI <;> intro h)|((refine Jqa (hP) ?_);simp only [go_sem,simprocAttr]) | fail))
          all_goals (clear hA hP hf hs)
          all_goals (rw [Bool.eq_iff_iff])
          all_goals (simp only [Jri,Jsl,decide_eq_true_eq,Int.reduceEq,if_true,if_false,true_or,or_true,or_false,false_or,or_self,ite_true,ite_false,reduceIte])
          all_goals (try simp_all)
          all_goals (try omega)
         ·by_cases k8:k=8
          ·subst k8;(refine bgo Tryz.func243 ?_;simp only [go_sem,simprocAttr]);(repeat' (first | (apply iteI <;> intro h)|((refine Jqa (hP) ?_);simp only [go_sem,simprocAttr]) | fail))
           all_goals (clear hA hP hf hs)
           all_goals (rw [Bool.eq_iff_iff])
           all_goals (simp only [Jri,Jsl,decide_eq_true_eq,Int.reduceEq,if_true,if_false,true_or,or_true,or_false,false_or,or_self,ite_true,ite_false,reduceIte])
           all_goals (try simp_all)
           all_goals (try omega)
          ·have e0:=eq_false k0;have e1:=eq_false k1;have e9:=eq_false k9;have e2:=eq_false k2;have e4:=eq_false k4;have e3:=eq_false k3;have e5:=eq_false k5;have e6:=eq_false k6;have e7:=eq_false k7;have e8:=eq_false k8;rw [show decide (Jri k s n c m)=false by simp [Jri,k0,k1,k9,k2,k4,k3,k5,k6,k7,k8]];(refine bgo Tryz.func243 ?_;simp only [go_sem,simprocAttr,e0,e1,e9,e2,e4,e3,e5,e6,e7,e8])
           skip
open Classical in
noncomputable def J1y (k:Int) (l:List RKT):Bool:=decide (Jr1 k l)
theorem J7i {k:Int} {l:List RKT} (h:Jr1 k l):true=J1y k l:=by unfold J1y;exact (@decide_eq_true _ (Classical.propDecidable _) h).symm
theorem J7o {k:Int} {l:List RKT} (h:¬ Jr1 k l):false=J1y k l:=by unfold J1y;exact (@decide_eq_false _ (Classical.propDecidable _) h).symm
def Jwg (k:Int) (j:Nat) (last:List UInt8) (l:List RKT):Prop:=Jr1 k l∧(k=2→j≠0→∀ q,l.head? = some q→Op.bytesLess last q.1=true)
theorem J6u (k:Int) (j:Nat) (last:List UInt8):Jwg k j last []:=⟨Ju3 k,fun _ _ q h=>by cases h⟩
theorem J42 {k:Int} {j:Nat} {last:List UInt8} {p:RKT} {l:List RKT}:Jwg k j last (p :: l) ↔ (Jx0 k p∧(k=2→j≠0→Op.bytesLess last p.1=true))∧Jwg k (j+1) p.1 l:=by
 unfold Jwg;rw [J3h];constructor
 ·rintro ⟨⟨h1,h2,h3⟩,h4⟩;exact ⟨⟨h1,fun hk hj=>h4 hk hj p rfl⟩,h3,fun hk _ q hq=>h2 hk q hq⟩
 ·rintro ⟨⟨h1,h2⟩,h3,h4⟩;exact ⟨⟨h1,fun hk q hq=>h4 hk omg q hq,h3⟩,fun hk hj q hq=>by cases hq;exact h2 hk hj⟩
theorem Jz9 {v:List YRow} {j:Nat} {nm:List UInt8} {t:RT} {b:List YRow} (h:v.drop j=t.enc nm ++ b):∃ (n:Int) (s:List UInt8) (g:Int) (e:Node),(rowL v)[j]? = some [.int .i64 t.kind,.int .i64 n,.str nm,.str s,.int .i64 g,.int .i64 e.kind,.int .i64 e.many,.str e.name,.str e.s,.bool e.neg,.int .i64 e.e]:=by
 cases t with
 | mk k s g e kids =>
  rw [Jqo] at h;exact ⟨kids.len,s,g,e,Jsa h⟩
theorem J8l (v:List YRow) (i:Nat) (nm:List UInt8) (k:Int) (s:List UInt8) (g:Int) (e:Node) (kids:RF) (rest:List YRow) (hv:v.length≤1000000) (h:v.drop i=(RT.mk k s g e kids).enc nm ++ rest) (hs:∀ n∈v,n.name.length≤1000000):Det cx 244 [.p (.sl (rowL v)),.p (.int .i64 i)] [] (.p (.bool (J1y k kids.list))) []:=by
 have hll:=Jq3 kids;rw [Jqo] at h;have hg0:=Jsa h;rw [Jq9] at hg0;have hb:=Jvf h sm;simp only [List.cons_append,List.length_cons,List.length_append] at hb;have w0:=wj1 (i:=i) omg;(refine bgo Tryz.func244 ?_;simp only [go_sem,simprocAttr,w0]);refine SWP.loop (fun x:Nat×Nat×RF×List UInt8=>⟨Ba 74 [(0,.p (.sl (rowL v))),(1,.p (.int .i64 i)),(5,.p (.int .i64 x.2.1)),(6,.p (.str x.2.2.2)),(7,.p (.int .i64 x.1))],[]⟩) (fun x=>x.1+x.2.2.1.len=kids.len∧v.drop x.2.1=x.2.2.1.enc ++ rest∧x.2.1+x.2.2.1.enc.length=i+1+kids.enc.length∧(Jr1 k kids.list ↔ Jwg k x.1 x.2.2.2 x.2.2.1.list)) (fun x=>x.2.2.1.enc.length) (0,i+1,kids,[]) Jqb ⟨by simp,by simp only;rw [← List.drop_drop,h];rfl,by simp only,⟨fun h=>⟨h,fun _ h=>absurd rfl h⟩,fun h=>h.1⟩⟩ ?_;rintro ⟨j,a,F,last⟩ ⟨h1,h2,h3,h4⟩;simp only at h1 h2 h3 h4
 match F,h1,h2,h3,h4 with
 | .nil,h1,h2,h3,h4 =>
  simp only [RF.len] at h1;have c1:((j:Int)<(kids.len:Int))=False:=eq_false omg;have hK:=h4.2 (J6u k j last);(refine lws ?_;simp only [go_sem,simprocAttr,hg0,c1]);exact J7i hK
 | .cons nm' t r,h1,h2,h3,h4 =>
  rw [Jr3] at h1;rw [Jqg] at h2 h3;have hp:=Jso t nm';simp only [List.length_append] at h3;obtain ⟨n',s',g',e',hga⟩:=Jz9 (v:=v) (j:=a) (nm:=nm') (t:=t) (b:=r.enc ++ rest) (by rw [h2,List.append_assoc]);have c1:((j:Int)<(kids.len:Int))=True:=eq_true omg;rw [RF.list,J42] at h4;simp only at h4;have w1:=wj1 (i:=j) omg;have hnl:nm'.length≤1000000:=by
   have hd2:v.drop a=t.enc nm' ++ (r.enc ++ rest):=by rw [h2,List.append_assoc]
   cases t with
   | mk k2 s2 g2 e2 kk2 =>
    rw [Jqo] at hd2;have hm:(⟨k2,kk2.len,nm',s2,g2,e2⟩:YRow)∈v.drop a:=by rw [hd2];exact List.mem_cons_self
    exact hs _ (List.mem_of_mem_drop hm)
  have hNx:=J3e v a nm' t (r.enc ++ rest) hv (by rw [h2,List.append_assoc]);have hd:v.drop (a+(t.enc nm').length)=r.enc ++ rest:=by rw [← List.drop_drop,h2,List.append_assoc,List.drop_left]
  have hno:¬ (Jx0 k (nm',t)∧(k=2→j≠0→Op.bytesLess last nm'=true))→false=J1y k kids.list:=fun hn=>J7o fun hk=>hn (h4.1 hk).1
  have hyes:(Jx0 k (nm',t)∧(k=2→j≠0→Op.bytesLess last nm'=true))→(Jr1 k kids.list ↔ Jwg k (j+1) nm' r.list):=fun hy=>h4.trans ⟨fun h=>h.2,fun h=>⟨hy,h⟩⟩
  have hle:=J7j nm' last;have hU:=Cn nm' hnl;have hfin:Jx0 k (nm',t)∧(k=2→j≠0→Op.bytesLess last nm'=true)→∃ y:Nat×Nat×RF×List UInt8,(y.1+y.2.2.1.len=kids.len∧v.drop y.2.1=y.2.2.1.enc ++ rest∧y.2.1+y.2.2.1.enc.length=i+1+kids.enc.length∧(Jr1 k kids.list ↔ Jwg k y.1 y.2.2.2 y.2.2.1.list))∧y.2.2.1.enc.length<(RF.cons nm' t r).enc.length∧y=(j+1,a+(t.enc nm').length,r,nm'):=fun hy =>
   ⟨(j+1,a+(t.enc nm').length,r,nm'),⟨by simp only;omega,hd,by simp only;omega,hyes hy⟩,by simp only [Jqg,List.length_append];omega,rfl⟩
  by_cases hk2:k=2
  ·subst hk2;by_cases ht9:t.kind=9
   ·have e9:(t.kind == 9)=true:=by rw [ht9];rfl
    have b1:((2:Int) == 1)=false:=rfl;(refine lws ?_;simp only [go_sem,simprocAttr,hg0,c1,hga,decide_true]);(repeat' (first | ((refine Jqk ?_);simp only [go_sem,simprocAttr,hg0,Bool.bne_false,e9,b1]) | fail))
    all_goals exact hno fun h=>by have:=h.1.1.1 ht9;omega
   ·have e9:(t.kind == 9)=false:=by simpa using ht9
    have b1:((2:Int) == 1)=false:=rfl;cases hva:valid nm' with
    | false =>
     rw [hva] at hU;(refine lws ?_;simp only [go_sem,simprocAttr,hg0,c1,hga,decide_true]);(repeat' (first | ((first | (refine Jqk ?_)|(refine Jqa (hU) ?_));simp only [go_sem,simprocAttr,hg0,Bool.not_false,bne_self_eq_false,e9,b1,Bool.not_false]) | fail))
     all_goals exact hno fun h=>by have:=h.1.2.2 rfl;simp only at this;rw [hva] at this;cases this
    | true =>
     rw [hva] at hU;by_cases hj0:j=0
     ·have c4:((0:Int)<(j:Int))=False:=eq_false omg;obtain ⟨y,p1,p2,rfl⟩:=hfin ⟨⟨⟨fun h=>absurd h ht9,fun h=>absurd h de⟩,fun h=>absurd rfl h,fun _=>hva⟩,fun _ h=>absurd hj0 h⟩;(refine lws ?_;simp only [go_sem,simprocAttr,hg0,c1,hga,decide_true]);(repeat' (first | ((first | (refine Jqk ?_)|(refine Jqa (hU) ?_)|(refine Jqa (hNx) ?_));simp only [go_sem,simprocAttr,hg0,decide_false,Bool.not_true,bne_self_eq_false,e9,b1,c4,w1,Bool.not_true]) | fail));exact ⟨_,p1,p2,Jqb⟩
     ·have c4:((0:Int)<(j:Int))=True:=eq_true omg;cases hbl:Op.bytesLess last nm' with
      | true =>
       rw [hbl,Bool.not_true] at hle;obtain ⟨y,p1,p2,rfl⟩:=hfin ⟨⟨⟨fun h=>absurd h ht9,fun h=>absurd h de⟩,fun h=>absurd rfl h,fun _=>hva⟩,fun _ _=>hbl⟩;(refine lws ?_;simp only [go_sem,simprocAttr,hg0,c1,hga,decide_true]);(repeat' (first | ((first | (refine Jqk ?_)|(refine Jqa (hU) ?_)|(refine Jqa (hNx) ?_));simp only [go_sem,simprocAttr,hg0,decide_true,Bool.not_true,bne_self_eq_false,e9,b1,c4,hle,w1,Bool.not_true]) | fail));exact ⟨_,p1,p2,Jqb⟩
      | false =>
       rw [hbl,Bool.not_false] at hle;(refine lws ?_;simp only [go_sem,simprocAttr,hg0,c1,hga,decide_true]);(repeat' (first | ((first | (refine Jqk ?_)|(refine Jqa (hU) ?_));simp only [go_sem,simprocAttr,hg0,decide_true,Bool.not_true,bne_self_eq_false,e9,b1,c4,hle,Bool.not_true]) | fail))
       all_goals exact hno fun h=>by have:=h.2 rfl hj0;rw [hbl] at this;cases this
  ·have e2:=eq_false hk2;by_cases hkd:(t.kind=9 ↔ k=1)
   ·by_cases hnm:nm'=[]
    ·have en:=eq_true hnm;obtain ⟨y,p1,p2,rfl⟩:=hfin ⟨⟨hkd,fun _=>hnm,fun h=>absurd h hk2⟩,fun h=>absurd h hk2⟩;by_cases hk1:k=1
     ·have e1:=eq_true hk1;have b1:(k == 1)=true:=by rw [hk1];rfl
      have e9:(t.kind == 9)=true:=by rw [hkd.2 hk1];rfl
      (refine lws ?_;simp only [go_sem,simprocAttr,hg0,c1,hga,decide_true]);(repeat' (first | ((first | (refine Jqk ?_)|(refine Jqa (hNx) ?_));simp only [go_sem,simprocAttr,hg0,Bool.not_true,bne_self_eq_false,e2,e9,b1,en,w1]) | fail));exact ⟨_,p1,p2,Jqb⟩
     ·have e1:=eq_false hk1;have b1:(k == 1)=false:=by simpa using hk1
      have e9:(t.kind == 9)=false:=by simpa using (fun h=>hk1 (hkd.1 h))
      (refine lws ?_;simp only [go_sem,simprocAttr,hg0,c1,hga,decide_true]);(repeat' (first | ((first | (refine Jqk ?_)|(refine Jqa (hNx) ?_));simp only [go_sem,simprocAttr,hg0,Bool.not_true,bne_self_eq_false,e2,e9,b1,en,w1]) | fail));exact ⟨_,p1,p2,Jqb⟩
    ·have en:=eq_false hnm;by_cases hk1:k=1
     ·have e1:=eq_true hk1;have b1:(k == 1)=true:=by rw [hk1];rfl
      have e9:(t.kind == 9)=true:=by rw [hkd.2 hk1];rfl
      (refine lws ?_;simp only [go_sem,simprocAttr,hg0,c1,hga,decide_true]);(repeat' (first | ((refine Jqk ?_);simp only [go_sem,simprocAttr,hg0,Bool.not_true,bne_self_eq_false,e2,e9,b1,en]) | fail))
      all_goals exact hno fun h=>hnm (h.1.2.1 hk2)
     ·have e1:=eq_false hk1;have b1:(k == 1)=false:=by simpa using hk1
      have e9:(t.kind == 9)=false:=by simpa using (fun h=>hk1 (hkd.1 h))
      (refine lws ?_;simp only [go_sem,simprocAttr,hg0,c1,hga,decide_true]);(repeat' (first | ((refine Jqk ?_);simp only [go_sem,simprocAttr,hg0,Bool.not_true,bne_self_eq_false,e2,e9,b1,en]) | fail))
      all_goals exact hno fun h=>hnm (h.1.2.1 hk2)
   ·by_cases hk1:k=1
    ·have e1:=eq_true hk1;have b1:(k == 1)=true:=by rw [hk1];rfl
     have e9:(t.kind == 9)=false:=by simpa using (fun h:t.kind=9=>hkd ⟨fun _=>hk1,fun _=>h⟩)
     (refine lws ?_;simp only [go_sem,simprocAttr,hg0,c1,hga,decide_true]);(repeat' (first | ((refine Jqk ?_);simp only [go_sem,simprocAttr,hg0,Bool.bne_true,Bool.not_false,e9,b1]) | fail))
     all_goals exact hno fun h=>hkd h.1.1
    ·have e1:=eq_false hk1;have b1:(k == 1)=false:=by simpa using hk1
     have e9:(t.kind == 9)=true:=beq_iff_eq.2 (show t.kind=9 from Decidable.not_not.1 fun h:¬ t.kind=9=>hkd ⟨fun a=>absurd a h,fun a=>absurd a hk1⟩);(refine lws ?_;simp only [go_sem,simprocAttr,hg0,c1,hga,decide_true]);(repeat' (first | ((refine Jqk ?_);simp only [go_sem,simprocAttr,hg0,Bool.bne_false,e9,b1]) | fail))
     all_goals exact hno fun h=>hkd h.1.1
def Juz (name:List UInt8):List RKT→Option (Nat×RT)
 | []=>none
 | p :: l=>if p.1=name then some (0,p.2) else (Juz name l).map fun x=>(x.1+(p.2.enc p.1).length,x.2)
def Jtw:RT→List Step→Option Nat
 | _,[]=>some 0
 | t,x :: p=>if t.kind=2∧x.part=false then (match Juz x.name t.kids.list with
  | some y=>(Jtw y.2 p).map fun o=>1+y.1+o
  | none=>none) else none
def Jw3 (i:Nat) (o:Option Nat):Int:=match o with
 | some o=>((i+o:Nat):Int)
 | none=>-1
theorem J00 {name:List UInt8}:∀ {f:RF},match Juz name f.list with
  | some y=>Jxb name f.list=some y.2∧∃ b,f.enc.drop y.1=y.2.enc name ++ b
  | none=>Jxb name f.list=none
 | .nil=>rfl
 | .cons nm t r=>by
  have ih:=J00 (name:=name) (f:=r);rw [RF.list,Juz,Jxb];by_cases hn:nm=name
  ·subst hn;rw [if_pos rfl,if_pos rfl];exact ⟨rfl,r.enc,by rw [Jqg];rfl⟩
  ·rw [if_neg hn,if_neg hn];cases hf:Juz name r.list with
   | none=>rw [hf] at ih;exact ih
   | some y =>
    rw [hf] at ih;obtain ⟨h1,b,h2⟩:=ih;refine ⟨h1,b,?_⟩;rw [Jqg];show (t.enc nm ++ r.enc).drop (y.1+(t.enc nm).length)=y.2.enc name ++ b;rw [Nat.add_comm,← List.drop_drop,List.drop_left,h2]
theorem Jzs:∀ {p:List Step} {t:RT} {nm:List UInt8},match Jtw t p with
  | some o=>∃ u nm' b,Jvy t p=some u∧(t.enc nm).drop o=u.enc nm' ++ b
  | none=>Jvy t p=none
 | [],t,nm=>⟨t,nm,[],Jxz t,by rw [List.drop_zero,List.append_nil]⟩
 | x :: p,.mk k s n c kids,nm=>by
  rw [Jtw,Jzi];by_cases hk:(RT.mk k s n c kids).kind=2∧x.part=false
  ·rw [if_pos hk,if_pos hk];have hf:=J00 (name:=x.name) (f:=kids);rw [show (RT.mk k s n c kids).kids=kids from rfl];cases hfo:Juz x.name kids.list with
   | none=>rw [hfo] at hf;simp only at hf ⊢;rw [hf];rfl
   | some y =>
    rw [hfo] at hf;obtain ⟨h1,b,h2⟩:=hf;have ih:=Jzs (p:=p) (t:=y.2) (nm:=x.name);simp only;rw [h1];cases hl:Jtw y.2 p with
    | none=>rw [hl] at ih;exact ih
    | some o =>
     rw [hl] at ih;obtain ⟨u,nm',b',g1,g2⟩:=ih;refine ⟨u,nm',b' ++ b,g1,?_⟩;have ho:o≤(y.2.enc x.name).length:=by
      have hpos:=Jso u nm';have:=congrArg List.length g2;rw [List.length_drop,List.length_append] at this;omega
     show ((RT.mk k s n c kids).enc nm).drop (1+y.1+o)=u.enc nm' ++ (b' ++ b)
     rw [Jqo,show 1+y.1+o=(y.1+o)+1 by omega,List.drop_succ_cons,← List.drop_drop,h2,List.drop_append_of_le_length ho,g2,List.append_assoc]
  ·rw [if_neg hk,if_neg hk]
theorem Kbj:∀ (p:List Step) (t:RT) (v:List YRow) (i:Nat) (nm:List UInt8) (rest:List YRow),v.length≤1000000→p.length≤1000000→v.drop i=t.enc nm ++ rest→Det cx 245 [.p (.sl (rowL v)),.p (.int .i64 i),.p (.sl (Bb p))] [] (.p (.int .i64 (Jw3 i (Jtw t p)))) []
 | [],t,v,i,nm,rest,hv,hp,h=>by
  have c0:(((Bb []).length:Int)=0)=True:=eq_true rfl;have hl0:Jw3 i (Jtw t [])=(i:Int):=by cases t;rfl
  rw [hl0];(refine bgo Tryz.func245 ?_;simp only [go_sem,simprocAttr,c0])
  skip
 | x :: p,.mk k s g e kids,v,i,nm,rest,hv,hp,h=>by
  have ih:=fun (t:RT) (i:Nat) (nm:List UInt8) (rest:List YRow) (h:v.drop i=t.enc nm ++ rest)=>Kbj p t v i nm rest hv (by simp at hp;omega) h
  rw [Jqo] at h;have hg0:=Jsa h;rw [Jq9] at hg0;have hb:=Jvf h sm;simp only [List.cons_append,List.length_cons,List.length_append] at hb;have hll:=Jq3 kids;have hp0:(Bb (x :: p))[0]? = some [.bool x.part,.str x.name,.int .i64 x.n]:=rfl;have hpl:(Bb (x :: p)).length=p.length+1:=by simp [Bb]
  have c0:(((p.length+1:Nat):Int)=0)=False:=eq_false omg;have hsl:((Bb (x :: p)).drop 1).take (p.length+1 - 1)=Bb p:=by
   rw [show Bb (x :: p)=x.cells :: Bb p from rfl,List.drop_succ_cons,List.drop_zero,Nat.add_sub_cancel,List.take_of_length_le (by simp [Bb])]
  have hel3:∀ q∈Bb (x :: p),q.length=3:=by
   intro q hq;obtain ⟨y,_,rfl⟩:=List.mem_map.1 hq;rfl
  have w0:=wj1 (i:=i) omg;by_cases hk:k=2
  ·have e2:=eq_true hk;cases hpt:x.part with
   | true =>
    rw [hpt] at hp0;rw [show Jw3 i (Jtw (.mk k s g e kids) (x :: p)) = -1 by rw [Jtw,if_neg (by rw [hpt];simp)];rfl];(refine bgo Tryz.func245 ?_;simp only [go_sem,simprocAttr,hg0,hp0,hpl,c0,e2,not_true_eq_false])
    skip
   | false =>
    rw [hpt] at hp0;rw [Jtw,if_pos ⟨hk,hpt⟩,show (RT.mk k s g e kids).kids=kids from rfl];(refine bgo Tryz.func245 ?_;simp only [go_sem,simprocAttr,hg0,hp0,hpl,c0,e2,w0,not_true_eq_false]);refine SWP.loop (fun y:Nat×Nat×RF=>⟨Ba 54 [(0,.p (.sl (rowL v))),(1,.p (.int .i64 i)),(2,.p (.sl (Bb (x :: p)))),(7,.p (.int .i64 y.2.1)),(8,.p (.int .i64 y.1))],[]⟩) (fun y=>y.1+y.2.2.len=kids.len∧v.drop y.2.1=y.2.2.enc ++ rest∧y.2.1+y.2.2.enc.length=i+1+kids.enc.length∧i+1≤y.2.1∧Juz x.name kids.list=(Juz x.name y.2.2.list).map fun z=>(z.1+(y.2.1 - (i+1)),z.2)) (fun y=>y.2.2.enc.length) (0,i+1,kids) Jqb ⟨by simp,by simp only;rw [← List.drop_drop,h];rfl,by simp only,Nat.le_refl _,by simp⟩ ?_;rintro ⟨j,a,F⟩ ⟨h1,h2,h3,h5,h4⟩;simp only at h1 h2 h3 h4 h5
    match F,h1,h2,h3,h4 with
    | .nil,h1,h2,h3,h4 =>
     simp only [RF.len] at h1;have c1:((j:Int)<(kids.len:Int))=False:=eq_false omg;have h4:Juz x.name kids.list=none:=h4;rw [h4];(refine lws ?_;simp only [go_sem,simprocAttr,hg0,decide_false,c1])
     all_goals rfl
    | .cons nm' t r,h1,h2,h3,h4 =>
     rw [Jr3] at h1;rw [Jqg] at h2 h3;have hp:=Jso t nm';simp only [List.length_append] at h3;have h2':v.drop a=t.enc nm' ++ (r.enc ++ rest):=by rw [h2,List.append_assoc]
     obtain ⟨k',n',s',g',e',hga⟩:=J1t h2';have c1:((j:Int)<(kids.len:Int))=True:=eq_true omg;rw [RF.list,Juz] at h4;simp only at h4;by_cases hn:nm'=x.name
     ·rw [if_pos hn] at h4;have en:=eq_true hn;have hL:=ih t a nm' (r.enc ++ rest) h2';have h4:Juz x.name kids.list=some (0+(a - (i+1)),t):=h4;rw [h4];have hres:Jw3 i ((Jtw t p).map fun o=>1+(0+(a - (i+1)))+o)=Jw3 a (Jtw t p):=by
       cases Jtw t p with
       | none=>rfl
       | some o=>simp only [Jw3,Option.map_some];omega
      simp only;rw [hres];(refine lws ?_;simp only [go_sem,simprocAttr,hg0,c1]);(repeat' (first | (refine And.intro hel3 ?_)|(refine Jqe ?_)|((first | (refine Jqk ?_)|(refine Jqa (hL) ?_));simp only [go_sem,simprocAttr,hp0,hpl,hga,en]) | fail))
     ·rw [if_neg hn] at h4;have en:=eq_false hn;have hNx:=J3e v a nm' t (r.enc ++ rest) hv h2';have w1:=wj1 (i:=j) omg;(refine lws ?_;simp only [go_sem,simprocAttr,hg0,c1]);(repeat' (first | ((first | (refine Jqk ?_)|(refine Jqa (hNx) ?_));simp only [go_sem,simprocAttr,hp0,hga,en,w1]) | fail));refine ⟨(j+1,a+(t.enc nm').length,r),⟨by simp only;omega,by simp only;rw [← List.drop_drop,h2',List.drop_left],by simp only;omega,by simp only;omega,?_⟩,by simp only [Jqg,List.length_append];omega,Jqb⟩;simp only;rw [h4,Option.map_map];congr 1;funext z;simp only [Function.comp];congr 1;omega
  ·have e2:=eq_false hk;rw [show Jw3 i (Jtw (.mk k s g e kids) (x :: p)) = -1 by rw [Jtw,if_neg (fun h=>hk h.1)];rfl];(refine bgo Tryz.func245 ?_;simp only [go_sem,simprocAttr,hg0,hpl,c0,e2,not_false_eq_true])
   skip
structure RowFit (r:YRow):Prop where
 s:r.s.length≤1000000
 name:r.name.length≤1000000
 c:NodeFitC r.c
theorem J2s (v:List YRow) (hv:v.length≤10000) (hf:∀ n∈v,RowFit n):Det cx 197 [.p (.sl (rowL v))] [] (.p (.bool (Jtk v))) []:=by
 cases v with
 | nil =>
  have hb:false=Jtk []:=Js8 (by
   rintro ⟨t,_,_,h⟩;have:=congrArg List.length h;have h1:=Jso t [];simp at this;omega)
  have c0:(((rowL []).length:Int)=0)=True:=eq_true rfl;rw [← hb];(refine bgo Tryz.func197 ?_;simp only [go_sem,simprocAttr,c0])
  skip
 | cons n r =>
  have hg0:=Jue (v:=n :: r) (i:=0) (n:=n) rfl;have c0:(((n :: r).length:Int)=0)=False:=eq_false (by simp;omega);have hN:=J5x (n :: r) hv;generalize hvv:n :: r=v at *
  by_cases hnm:n.name=[]
  ·have c2:=eq_true hnm;by_cases hn9:n.kind=9
   ·have c9:=eq_true hn9;have hb:=Js8 (v:=v) (by
     rintro ⟨t,_,h9,h⟩;cases t with
     | mk k s g e kids =>
      rw [Jqo,← hvv] at h;have:=(List.cons.inj h).1;rw [this] at hn9;exact h9 hn9)
    rw [← hb];(refine bgo Tryz.func197 ?_;simp only [go_sem,simprocAttr,Jqi,hg0,c0,c2,c9,not_true_eq_false])
    skip
   ·have c9:=eq_false hn9;by_cases hnx:Jsw v 0 1=v.length
    ·obtain ⟨nm,t,ht⟩:=J6w hnx;have htk:nm=[]∧t.kind≠9:=by
      cases t with
      | mk k s g e kids =>
       rw [Jqo,← hvv] at ht;have:=(List.cons.inj ht).1;rw [this] at hnm hn9;exact ⟨hnm,hn9⟩
     obtain ⟨rfl,ht9⟩:=htk;have c3:(Jsw v 0 1=(v.length:Int))=True:=eq_true hnx;(refine bgo Tryz.func197 ?_;simp only [go_sem,simprocAttr,Jqi,hg0,c0,c2,c9,not_true_eq_false]);(repeat' (first | ((refine Jqa (hN) ?_);simp only [go_sem,simprocAttr,Jqi,c3,not_true_eq_false]) | fail));have hB:∀ b:Bool,(b=true ↔ okR t)→b=Jtk v:=by
      intro b hb;rw [Bool.eq_iff_iff,hb,Jt4,ht,J5n];exact ⟨fun h=>⟨h,ht9⟩,fun h=>h.1⟩
     refine SWP.loop (fun x:Nat×RF=>⟨Ba 87 [(0,.p (.sl (rowL v))),(3,.p (.int .i64 x.1))],[]⟩) (fun x=>v.drop x.1=x.2.enc∧x.1+x.2.enc.length=v.length∧(okR t ↔ okRF x.2)) (fun x=>v.length - x.1) (0,.cons [] t .nil) Jqb ⟨by rw [Jqg,Jq2,List.append_nil,List.drop_zero,ht],by rw [Jqg,Jq2,List.append_nil,ht];simp,by rw [Jsp];exact ⟨fun h=>⟨h,Jtb⟩,fun h=>h.1⟩⟩ ?_;rintro ⟨i,F⟩ ⟨h1,h2,h3⟩;simp only at h1 h2 h3
     match F,h1,h2,h3 with
     | .nil,h1,h2,h3 =>
      rw [Jq2] at h2;have c4:((i:Int)<(v.length:Int))=False:=eq_false (by simp at h2;omega);(refine lws ?_;simp only [go_sem,simprocAttr,Jqi,decide_false,c4]);exact hB true (by rw [h3];simp [Jtb])
     | .cons nm' (.mk k s g e kids) r,h1,h2,h3 =>
      rw [Jqg,Jqo] at h1 h2;simp only [List.length_append,List.length_cons] at h2;have c4:((i:Int)<(v.length:Int))=True:=eq_true omg;have hga:=Jsa h1;rw [Jq9] at hga;have w1:=wj1 (i:=i) omg;rw [J2i] at h3;have hmem:(⟨k,kids.len,nm',s,g,e⟩:YRow)∈v:=by
       have:(⟨k,kids.len,nm',s,g,e⟩:YRow)∈v.drop i:=by rw [h1];simp
       exact List.mem_of_mem_drop this
      have hfn:=hf _ hmem;have hpl:=J8m k kids.len nm' s g e hfn.s hfn.c;have hri:=J8l v i nm' k s g e kids r.enc omg (by rw [h1,Jqo]) fun n hn=>(hf n hn).name
      have hcont:(okR t ↔ okRF (kids.app r))→∃ y:Nat×RF,(v.drop y.1=y.2.enc∧y.1+y.2.enc.length=v.length∧(okR t ↔ okRF y.2))∧v.length - y.1<v.length - i∧y=(i+1,kids.app r):=fun h =>
       ⟨(i+1,kids.app r),⟨by simp only;rw [← List.drop_drop,h1,Jqr];rfl,by simp only;rw [Jqr,List.length_append];omega,h⟩,by simp only;omega,rfl⟩
      by_cases hn1:Jri k s g e kids.len
      ·rw [decide_eq_true hn1] at hpl;by_cases hk1:Jr1 k kids.list
       ·rw [← J7i hk1] at hri;by_cases h78:k=7∨k=8
        ·have hm1:kids.len=1:=by
          have:=hn1;rcases h78 with rfl | rfl <;> simp [Jri] at this <;> omega
         obtain ⟨nm0,t0,kr,rfl⟩:∃ nm t0 kr,kids=.cons nm t0 kr:=by
          cases kids with
          | nil=>simp [RF.len] at hm1
          | cons a b c=>exact ⟨a,b,c,rfl⟩
         have hd1:v.drop (i+1)=t0.enc nm0 ++ (kr.enc ++ r.enc):=by
          rw [← List.drop_drop,h1,Jqg];simp
         have hP:=Jx7 s hfn.s;have hLd:=Kbj (Je s).1 t0 v (i+1) nm0 _ omg (by have:=(Jw0 s).1;omega) hd1;have hsp:=Jzs (p:=(Je s).1) (t:=t0) (nm:=nm0);cases hlo:Jtw t0 (Je s).1 with
         | none =>
          rw [hlo] at hsp hLd;have hnl:¬ Jwp k s (RF.cons nm0 t0 kr).list:=fun h=>by
           obtain ⟨u,hu,_⟩:=h h78 (nm0,t0) rfl;simp only at hsp hu;rw [hsp] at hu;cases hu
          simp only [Jw3] at hLd;rcases h78 with rfl | rfl
          ·(refine lws ?_;simp only [go_sem,simprocAttr,Jqi,decide_true,c4,hga]);(repeat' (first | ((first | (refine Jqa (hpl) ?_)|(refine Jqa (hri) ?_)|(refine Jqa (hP) ?_)|(refine Jqa (hLd) ?_));simp only [go_sem,simprocAttr,decide_true,hga,w1,Bool.not_true]) | fail));exact hB false (by rw [h3];simp [hnl])
          ·(refine lws ?_;simp only [go_sem,simprocAttr,Jqi,decide_true,c4,hga]);(repeat' (first | ((first | (refine Jqa (hpl) ?_)|(refine Jqa (hri) ?_)|(refine Jqa (hP) ?_)|(refine Jqa (hLd) ?_));simp only [go_sem,simprocAttr,decide_true,hga,w1,Bool.not_true]) | fail));exact hB false (by rw [h3];simp [hnl])
         | some o =>
          rw [hlo] at hsp hLd;obtain ⟨u,nm2,b,hu,hdo⟩:=hsp;have ho:o≤(t0.enc nm0).length:=by
           have hpos:=Jso u nm2;have:=congrArg List.length hdo;rw [List.length_drop,List.length_append] at this;omega
          have hdu:v.drop (i+1+o)=u.enc nm2 ++ (b ++ (kr.enc ++ r.enc)):=by
           rw [← List.drop_drop,hd1,List.drop_append_of_le_length ho,hdo,List.append_assoc]
          obtain ⟨n4,s4,g4,e4,hgu⟩:=Jz9 hdu;simp only [Jw3] at hLd;have c7:(((i+1+o:Nat):Int)<0)=False:=eq_false omg;by_cases hu1:u.kind=1
          ·have c8:=eq_true hu1;have hyl:Jwp k s (RF.cons nm0 t0 kr).list:=fun _ p hp=>by cases hp;exact ⟨u,hu,hu1⟩
           obtain ⟨y,p1,p2,rfl⟩:=hcont (h3.trans ⟨fun h=>h.2.2.2,fun h=>⟨hn1,hk1,hyl,h⟩⟩);rcases h78 with rfl | rfl
           ·(refine lws ?_;simp only [go_sem,simprocAttr,Jqi,decide_true,c4,hga]);(repeat' (first | ((first | (refine Jqa (hpl) ?_)|(refine Jqa (hri) ?_)|(refine Jqa (hP) ?_)|(refine Jqa (hLd) ?_));simp only [go_sem,simprocAttr,decide_false,not_true_eq_false,hga,w1,c7,c8,hgu,Bool.not_true]) | fail));exact ⟨_,p1,p2,Jqb⟩
           ·(refine lws ?_;simp only [go_sem,simprocAttr,Jqi,decide_true,c4,hga]);(repeat' (first | ((first | (refine Jqa (hpl) ?_)|(refine Jqa (hri) ?_)|(refine Jqa (hP) ?_)|(refine Jqa (hLd) ?_));simp only [go_sem,simprocAttr,decide_false,not_true_eq_false,hga,w1,c7,c8,hgu,Bool.not_true]) | fail));exact ⟨_,p1,p2,Jqb⟩
          ·have c8:=eq_false hu1;have hnl:¬ Jwp k s (RF.cons nm0 t0 kr).list:=fun h=>by
            obtain ⟨u',hu',hk'⟩:=h h78 (nm0,t0) rfl;simp only at hu';rw [hu] at hu';cases hu';exact hu1 hk'
           rcases h78 with rfl | rfl
           ·(refine lws ?_;simp only [go_sem,simprocAttr,Jqi,decide_true,c4,hga]);(repeat' (first | ((first | (refine Jqa (hpl) ?_)|(refine Jqa (hri) ?_)|(refine Jqa (hP) ?_)|(refine Jqa (hLd) ?_));simp only [go_sem,simprocAttr,decide_false,hga,w1,c7,c8,hgu,Bool.not_true]) | fail));exact hB false (by rw [h3];simp [hnl])
           ·(refine lws ?_;simp only [go_sem,simprocAttr,Jqi,decide_true,c4,hga]);(repeat' (first | ((first | (refine Jqa (hpl) ?_)|(refine Jqa (hri) ?_)|(refine Jqa (hP) ?_)|(refine Jqa (hLd) ?_));simp only [go_sem,simprocAttr,decide_false,hga,w1,c7,c8,hgu,Bool.not_true]) | fail));exact hB false (by rw [h3];simp [hnl])
        ·have c7:(k=7)=False:=eq_false (fun h=>h78 (.inl h));have c8:(k=8)=False:=eq_false (fun h=>h78 (.inr h));have hyl:Jwp k s kids.list:=fun h=>absurd h h78
         obtain ⟨y,p1,p2,rfl⟩:=hcont (h3.trans ⟨fun h=>h.2.2.2,fun h=>⟨hn1,hk1,hyl,h⟩⟩);(refine lws ?_;simp only [go_sem,simprocAttr,Jqi,decide_true,c4,hga]);(repeat' (first | ((first | (refine Jqa (hpl) ?_)|(refine Jqa (hri) ?_));simp only [go_sem,simprocAttr,hga,w1,c7,c8,Bool.not_true]) | fail));exact ⟨_,p1,p2,Jqb⟩
       ·rw [← J7o hk1] at hri;(refine lws ?_;simp only [go_sem,simprocAttr,Jqi,decide_true,c4,hga]);(repeat' (first | ((first | (refine Jqa (hpl) ?_)|(refine Jqa (hri) ?_));simp only [go_sem,simprocAttr,Bool.not_true,Bool.not_false]) | fail));exact hB false (by rw [h3];simp [hk1])
      ·rw [decide_eq_false hn1] at hpl;(refine lws ?_;simp only [go_sem,simprocAttr,Jqi,decide_true,c4,hga]);(repeat' (first | ((refine Jqa (hpl) ?_);simp only [go_sem,simprocAttr,Bool.not_false]) | fail));exact hB false (by rw [h3];simp [hn1])
    ·have c3:(Jsw v 0 1=(v.length:Int))=False:=eq_false hnx;have hb:=Js8 (v:=v) fun h=>hnx (J3n h)
     rw [← hb];(refine bgo Tryz.func197 ?_;simp only [go_sem,simprocAttr,Jqi,hg0,c0,c2,c9,not_true_eq_false]);(repeat' (first | ((refine Jqa (hN) ?_);simp only [go_sem,simprocAttr,Jqi,c3,not_false_eq_true]) | fail))
  ·have c2:=eq_false hnm;have hb:=Js8 (v:=v) (by
    rintro ⟨t,_,_,h⟩;cases t with
    | mk k s g e kids =>
     rw [Jqo,← hvv] at h;have:=(List.cons.inj h).1;rw [this] at hnm;exact hnm rfl)
   rw [← hb];(refine bgo Tryz.func197 ?_;simp only [go_sem,simprocAttr,Jqi,hg0,c0,c2,not_false_eq_true])
   skip
end Go.LX
namespace Go.LX
open Go
def incR:List UInt8→List UInt8
 | []=>[]
 | c :: r=>if c=57 then 48 :: incR r else (c+1) :: r
def decR:List UInt8→List UInt8
 | []=>[]
 | c :: r=>if c=48 then 57 :: decR r else (c - 1) :: r
def J2k (s:List UInt8):List UInt8:=(incR (48 :: s).reverse).reverse
def J1p (s:List UInt8):List UInt8:=(decR s.reverse).reverse
def Jsf (n:Node) (e:Int):List UInt8:=n.s ++ List.replicate (n.e - e).toNat 48
def topR (n:Node) (above:Bool):Int:=if (n.neg != above)=false∧n.s=[49] then (n.s.length:Int)+n.e - 1 else n.s.length+n.e
def Jq5 (n:Node) (above:Bool):Int:=max (topR n above - 100) (-1000)
def Js0 (n:Node) (above:Bool):List UInt8:=if (n.neg != above)=true then J2k (Jsf n (Jq5 n above)) else J1p (Jsf n (Jq5 n above))
def Jr6 (n:Node) (above:Bool):Option Node :=
 if n.s=[] then some ⟨3,0,[],[49],!above,-1000⟩
 else if (make n.neg (Js0 n above) (Jq5 n above)).2=0 then some (make n.neg (Js0 n above) (Jq5 n above)).1 else none
def numC (a:Int×Node):List Node:=if a.2.kind=3 then a.2 :: ((Jr6 a.2 true).toList ++ (Jr6 a.2 false).toList) else []
def strC (a:Int×Node):List Node:=if a.2.kind=4 then [a.2,⟨4,0,[],a.2.s ++ [0],false,0⟩] else []
def Ju6 (k:Int):Node:=⟨k,0,[],[],false,0⟩
def Jq7 (l:List (Int×Node)):List Node:=[Ju6 0,Ju6 1,Ju6 2,Ju6 3] ++ l.flatMap numC
def Js9 (l:List (Int×Node)):List Node:=Jq7 l ++ [Ju6 4] ++ l.flatMap strC
theorem J4z:∀ s,(incR s).length=s.length
 | []=>rfl
 | c :: r=>by unfold incR;split <;> simp [J4z r]
theorem J3k:∀ s,(decR s).length=s.length
 | []=>rfl
 | c :: r=>by unfold decR;split <;> simp [J3k r]
theorem J8c (s:List UInt8):(J2k s).length=s.length+1:=by simp [J2k,J4z]
theorem J84 (s:List UInt8):(J1p s).length=s.length:=by simp [J1p,J3k]
theorem J9j {g:Bool} {s:List UInt8} {e:Int} (h:(make g s e).2=0):(make g s e).1.s.length≤100∧(make g s e).1.name=[]∧-1000≤(make g s e).1.e∧(make g s e).1.e≤1000:=by
 unfold make at h ⊢;split
 ·rename_i h1;rw [if_pos h1] at h;cases h
 ·rename_i h1;rw [if_neg h1] at h;split
  ·exact ⟨by simp [Jth],rfl,by simp [Jth],by simp [Jth]⟩
  ·rename_i h2;rw [if_neg h2] at h;split
   ·rename_i h3;rw [if_pos h3] at h;cases h
   ·rename_i h3;rw [if_neg h3] at h;split
    ·rename_i h4;rw [if_pos h4] at h;cases h
    ·rename_i h4;rw [if_neg h4] at h;simp only at h ⊢;split
     ·rename_i h5;rw [if_pos h5] at h;cases h
     ·rename_i h5;rw [if_neg h5] at h;split
      ·rename_i h6;rw [if_pos h6] at h;cases h
      ·rename_i h6;rw [if_neg h6] at h;split
       ·rename_i h7;rw [if_pos h7] at h;cases h
       ·rename_i h7;refine ⟨by simp only;omega,rfl,by simp only;omega,by simp only;omega⟩
structure CandFit (n:Node):Prop where
 s:n.s.length≤1000
 name:n.name=[]
 e0:-1000≤n.e
 e1:n.e≤1000
theorem Jzf {n m:Node} {a:Bool} (h:Jr6 n a=some m):CandFit m:=by
 unfold Jr6 at h;split at h
 ·cases h;exact ⟨by simp,rfl,by simp,by simp⟩
 ·split at h
  ·rename_i h2;cases h;obtain ⟨g1,g2,g3,g4⟩:=J9j h2;exact ⟨by omega,g2,g3,g4⟩
  ·cases h
theorem Kb4 {l:List (Int×Node)} (hl:∀ a∈l,CandFit a.2∧a.2.s.length≤500) {n:Node} (h:n∈Js9 l):CandFit n:=by
 have hb:∀ k,CandFit (Ju6 k):=fun k=>⟨by simp [Ju6],rfl,by simp [Ju6],by simp [Ju6]⟩
 simp only [Js9,Jq7,List.mem_append,List.mem_cons,List.not_mem_nil,or_false,List.mem_flatMap] at h;rcases h with (((rfl | rfl | rfl | rfl) | ⟨a,ha,h⟩) | rfl) | ⟨a,ha,h⟩
 ·exact hb 0
 ·exact hb 1
 ·exact hb 2
 ·exact hb 3
 ·unfold numC at h;split at h
  ·simp only [List.mem_cons,List.mem_append,Option.mem_toList] at h;rcases h with rfl | h | h
   ·exact (hl a ha).1
   ·exact Jzf h
   ·exact Jzf h
  ·cases h
 ·exact hb 4
 ·unfold strC at h;split at h
  ·simp only [List.mem_cons,List.not_mem_nil,or_false] at h;rcases h with rfl | rfl
   ·exact (hl a ha).1
   ·have:=(hl a ha).2;exact ⟨by simp;omega,rfl,by simp,by simp⟩
  ·cases h
end Go.LX
