/- Membership: In. -/
import Derived.Test.YtpaiiekgdgjjnaaGreatDoorLxX
set_option linter.unusedSimpArgs false
set_option linter.unusedVariables false
set_option linter.unusedSectionVars false
set_option linter.unnecessarySimpa false
set_option maxRecDepth 100000
set_option maxHeartbeats 2000000
namespace Go.LX
open Go Go.RowKit Go.Proofs
attribute [local irreducible] Al SWP Bi
def SFit (t:RT):Prop:=∀ r∈t.enc [],r.s.length≤1000000
theorem J3o:∀ {f:RF} {p:RKT},p∈f.list→(p.2.enc []).length≤f.enc.length
 | .nil,p,h=>by cases h
 | .cons nm t r,p,h=>by
  rw [Jqf,List.length_append]
  rcases List.mem_cons.1 h with rfl | h
  ·simp only;rw [J4y t nm];omega
  ·have:=J3o h;omega
theorem senc {t:RT} {a b:List UInt8} (h:∀ r∈t.enc a,r.s.length≤1000000):∀ r∈t.enc b,r.s.length≤1000000:=by
 cases t with
 | mk k s n c kids =>
  rw [Jqk] at h ⊢
  intro r hr
  rcases List.mem_cons.1 hr with rfl | hr
  ·exact h ⟨k,kids.len,a,s,n,c⟩ List.mem_cons_self
  ·exact h r (List.mem_cons_of_mem _ hr)
theorem smem:∀ {f:RF} {p:RKT},(∀ r∈f.enc,r.s.length≤1000000)→p∈f.list→SFit p.2
 | .nil,p,_,h=>by cases h
 | .cons nm t r,p,hf,h=>by
  rw [Jqf] at hf
  rcases List.mem_cons.1 h with rfl | h
  ·exact senc (a:=nm) fun x hx=>hf x (List.mem_append_left _ hx)
  ·exact smem (fun x hx=>hf x (List.mem_append_right _ hx)) h
theorem J12 {p:RKT} (h1:okR p.2) (h2:p.2.kind=9):p.2.kids=.nil∧Jrb p.2.n p.2.c:=by
 obtain ⟨nm,⟨pk,ps,pn,pc,pkids⟩⟩:=p
 have h2:pk=9:=h2
 subst h2
 have h3:=(Jtm.1 h1).1
 simp [Jq6] at h3
 refine ⟨?_,h3.2.2⟩
 cases pkids with
 | nil=>rfl
 | cons a b c=>simp [RF.len] at h3
theorem inK2 {s:List UInt8} {n:Int} {rows:List RKT} {ps:List (Tree→Bool)} {v:Tree}:inK 2 s n rows ps v=(decide (v.kind=6) && ((decide (n≠0) || decide (v.kids.len=rows.length)) && objS v.kids.list rows ps)):=rfl
theorem inK3 {s:List UInt8} {n:Int} {rows:List RKT} {ps:List (Tree→Bool)} {v:Tree}:inK 3 s n rows ps v=(decide (v.kind=6) && allP (Jtk ps) v.kids.list):=rfl
theorem inK4 {s:List UInt8} {n:Int} {rows:List RKT} {ps:List (Tree→Bool)} {v:Tree}:inK 4 s n rows ps v=(decide (v.kind=5) && tupS ps v.kids.list):=rfl
theorem inK5 {s:List UInt8} {n:Int} {rows:List RKT} {ps:List (Tree→Bool)} {v:Tree}:inK 5 s n rows ps v=(decide (v.kind=5) && allP (Jtk ps) v.kids.list):=rfl
theorem inK6 {s:List UInt8} {n:Int} {rows:List RKT} {ps:List (Tree→Bool)} {v:Tree}:inK 6 s n rows ps v=(decide (v.kind=5) && entS (Jtk ps) none v.kids.list):=rfl
theorem inK7 {s:List UInt8} {n:Int} {rows:List RKT} {ps:List (Tree→Bool)} {v:Tree}:inK 7 s n rows ps v=(decide (v.kind=5) && (allP (Jtk ps) v.kids.list && Jrr (Jrh s v.kids.list))):=rfl
theorem inK8 {s:List UInt8} {n:Int} {rows:List RKT} {ps:List (Tree→Bool)} {v:Tree}:inK 8 s n rows ps v=(decide (v.kind=5) && Jtb (Jtk ps) s none v.kids.list):=rfl
theorem J7b {k:Int} {s:List UInt8} {n:Int} {c:Node} {m:Int} (h:Jq6 k s n c m) (h0:k≠0) (h1:k≠1) (h9:k≠9):k=2∨k=4∨((k=3∨k=5∨k=6∨k=7∨k=8)∧m=1):=by
 unfold Jq6 at h
 rw [if_neg h0,if_neg h1,if_neg h9] at h
 split at h
 ·exact .inl (by assumption)
 ·split at h
  ·exact .inr (.inl (by assumption))
  ·split at h
   ·exact .inr (.inr ⟨by omega,h.1⟩)
   ·split at h
    ·exact .inr (.inr ⟨by omega,h.1⟩)
    ·exact h.elim
theorem Kcp {k:Int} {s:List UInt8} {g:Bool} {e:Int} {kids:Forest}:J0z (.mk k s g e kids)=decide (kids.enc.length=0):=by
 cases kids with
 | nil=>simp [J0z,Bl]
 | cons a b c =>
  have:=Et b a
  simp [J0z,A0];intro h;rw [h] at this;simp at this
theorem Ka5 (n:Nat):∀ t:RT,(t.enc []).length≤n→okR t→t.kind≠9→SFit t→(t.enc []).length≤1000000→InOK t:=by
 induction n with
 | zero=>intro t h;have:=Jr9 t [];omega
 | succ n ih =>
 intro t hn hok h9 hsf hsz
 obtain ⟨k,s,m,c,kids⟩:=t
 have hok:=Jtm.1 hok
 obtain ⟨hro,hkd,hld,hkr⟩:=hok
 rw [Jqk,List.length_cons] at hn hsz
 have hll:=RF.len_le kids
 have hkl:=RF.list_len kids
 have hsk:∀ r∈kids.enc,r.s.length≤1000000:=fun r hr=>hsf r (by rw [Jqk];exact List.mem_cons_of_mem _ hr)
 have hs0:s.length≤1000000:=hsf ⟨k,kids.len,[],s,m,c⟩ (by rw [Jqk];exact List.mem_cons_self)
 have h9:k≠9:=h9
 have hgt:(rowL ((RT.mk k s m c kids).enc []))[0]? = some [.int .i64 k,.int .i64 kids.len,.str [],.str s,.int .i64 m,.int .i64 c.kind,.int .i64 c.many,.str c.name,.str c.s,.bool c.neg,.int .i64 c.e]:=by rw [Jqk];rfl
 have hIk:k≠1→∀ r∈kids.list,InOK r.2:=fun hk1 r hr=>by
  have:=J3o hr
  refine ih r.2 (by omega) (Jtq.1 hkr r hr) (fun h=>hk1 ((hkd.1 r hr).1.1 h)) (smem hsk hr) (by omega)
 intro x hx
 obtain ⟨vk,vs,vg,ve,vkids⟩:=x
 have hgv:=Cc [] vk vs vg ve vkids
 have hvl:=hx.len
 rw [A6,List.length_cons] at hvl
 have hvll:=Forest.len_le vkids
 have hvkl:=Forest.list_len vkids
 have hvx:∀ q∈vkids.list,VFit q.2:=fun q hq=>hx.kid hq
 have hvlen:(valL ((Tree.mk vk vs vg ve vkids).enc [])).length=vkids.enc.length+1:=by rw [A7,A6];rfl
 rw [Juw]
 by_cases hk0:k=0
 ·subst hk0
  have hP:=Jzg [] 0 s m c kids (by omega) (by decide)
  rw [show inK 0 s m kids.list (inL kids) (Tree.mk vk vs vg ve vkids)=true from if_pos rfl]
  (refine Jqa false [] Tryz.func17 ?_;refine Ae hm _ _ _ ?_;simp only [Tryz.ntmps17,Tryz.results17,go_sem,simprocAttr,hgt,hgv])
  (repeat' (first | ((refine Det.use (hP) ?_);simp only [go_sem,simprocAttr]) | fail))
 ·by_cases hk1:k=1
  ·subst hk1
   have hP:=J61 [] s m c kids (by omega)
   have hlk:J0b kids.list:=fun p hp=>(J12 (Jtq.1 hkr p hp) ((hkd.1 p hp).1.2 rfl)).1
   have hAt:=J92 [] s m c kids (by omega) hlk
   have hrow:=hro
   simp [Jq6] at hrow
   have hat:∀ a∈Jqx kids.list,Jrb a.1 a.2:=fun a ha=>by
    obtain ⟨p,hp,rfl⟩:=List.mem_map.1 ha
    exact (J12 (Jtq.1 hkr p hp) ((hkd.1 p hp).1.2 rfl)).2
   rw [show inK 1 s m kids.list (inL kids) (Tree.mk vk vs vg ve vkids)=(J0z (Tree.mk vk vs vg ve vkids) && Jqs m (Jqx kids.list) (J7y (Tree.mk vk vs vg ve vkids))) from rfl,Kcp]
   by_cases hlf:vkids.enc.length=0
   ·have c3:(((vkids.enc.length+1:Nat):Int)=1)=True:=eq_true (by omega)
    have hnode:=(Lu.1 hx.ok).1
    have hfit:=hx.fit ⟨vk,vkids.len,[],vs,vg,ve⟩ (by rw [A6];exact List.mem_cons_self)
    have hM:=J7v m (Jqx kids.list) ⟨vk,vkids.len,[],vs,vg,ve⟩ (by omega) (by omega) (by simp [Jqx];omega) hat (fun hk5=>⟨hk5,rfl,hnode⟩) hfit.s (by
     have:=hnode
     unfold G3 at this
     split at this
     ·simp only;omega
     ·split at this
      ·simp only;omega
      ·split at this
       ·simp only;omega
       ·split at this
        ·simp only;omega
        ·exact this.elim)
    simp only at hM
    rw [decide_eq_true hlf,Bool.true_and]
    (refine Jqa false [] Tryz.func17 ?_;refine Ae hm _ _ _ ?_;simp only [Tryz.ntmps17,Tryz.results17,go_sem,simprocAttr,hgt,hgv,hvlen,c3,decide_true])
    (repeat' (first | ((first | (refine Jqd hm ?_)|(refine Det.use (hP) ?_)|(refine Det.useQ (hAt) ?_)|(refine Det.useQ (hM) ?_));simp only [go_sem,simprocAttr,hgv,hvlen,c3]) | fail))
    rfl
   ·have c3:(((vkids.enc.length+1:Nat):Int)=1)=False:=eq_false (by omega)
    rw [decide_eq_false hlf,Bool.false_and]
    (refine Jqa false [] Tryz.func17 ?_;refine Ae hm _ _ _ ?_;simp only [Tryz.ntmps17,Tryz.results17,go_sem,simprocAttr,hgt,hgv,hvlen,c3,decide_false])
    (repeat' (first | ((first | (refine Jqd hm ?_)|(refine Det.use (hP) ?_));simp only [go_sem,simprocAttr,hvlen,c3]) | fail))
  ·have hP:=Jzg [] k s m c kids (by omega) hk1
   have hI:=hIk hk1
   have hPv:=Px [] vk vs vg ve vkids (by omega)
   rcases J7b hro hk0 hk1 h9 with rfl | rfl | ⟨hkk,hm1⟩
   ·rw [inK2]
    by_cases hv6:vk=6
    ·subst hv6
     have hO:=J9e m c s kids (by omega) hI vs vg ve vkids hx
     rw [show decide ((Tree.mk 6 vs vg ve vkids).kind=6)=true from rfl,Bool.true_and]
     (refine Jqa false [] Tryz.func17 ?_;refine Ae hm _ _ _ ?_;simp only [Tryz.ntmps17,Tryz.results17,go_sem,simprocAttr,hgt,hgv])
     (repeat' (first | ((first | (refine Det.use (hP) ?_)|(refine Det.use (hPv) ?_)|(refine Det.use (hO) ?_));simp only [go_sem,simprocAttr,hgv]) | fail))
     all_goals rfl
    ·have c6:=eq_false hv6
     rw [show decide ((Tree.mk vk vs vg ve vkids).kind=6)=false from decide_eq_false hv6,Bool.false_and]
     (refine Jqa false [] Tryz.func17 ?_;refine Ae hm _ _ _ ?_;simp only [Tryz.ntmps17,Tryz.results17,go_sem,simprocAttr,hgt,hgv,c6,not_false_eq_true,decide_true])
     (repeat' (first | ((refine Det.use (hP) ?_);simp only [go_sem,simprocAttr,hgv,c6,not_false_eq_true]) | fail))
   ·rw [inK4]
    by_cases hv5:vk=5
    ·subst hv5
     have hE:=J3d kids.list vkids.list (by omega) (by omega) hI hvx
     rw [show decide ((Tree.mk 5 vs vg ve vkids).kind=5)=true from rfl,Bool.true_and,Jxq]
     (refine Jqa false [] Tryz.func17 ?_;refine Ae hm _ _ _ ?_;simp only [Tryz.ntmps17,Tryz.results17,go_sem,simprocAttr,hgt,hgv])
     (repeat' (first | ((first | (refine Det.use (hP) ?_)|(refine Det.use (hPv) ?_)|(refine Det.use (hE) ?_));simp only [go_sem,simprocAttr,hgv]) | fail))
     all_goals rfl
    ·have c6:=eq_false hv5
     rw [show decide ((Tree.mk vk vs vg ve vkids).kind=5)=false from decide_eq_false hv5,Bool.false_and]
     (refine Jqa false [] Tryz.func17 ?_;refine Ae hm _ _ _ ?_;simp only [Tryz.ntmps17,Tryz.results17,go_sem,simprocAttr,hgt,hgv,c6,not_false_eq_true,decide_true])
     (repeat' (first | ((refine Det.use (hP) ?_);simp only [go_sem,simprocAttr,hgv,c6,not_false_eq_true]) | fail))
   ·obtain ⟨nm,t0,kr,rfl⟩:∃ nm t0 kr,kids=.cons nm t0 kr:=by
     cases kids with
     | nil=>simp [RF.len] at hm1
     | cons a b c=>exact ⟨a,b,c,rfl⟩
    have hI0:InOK t0:=hI (nm,t0) List.mem_cons_self
    have hgr:(Jqo (RF.cons nm t0 kr).list)[0]? = some [.sl (rowL (t0.enc []))]:=rfl
    have hph:Jtk (inL (RF.cons nm t0 kr))=inTy t0:=by rw [Jt8];rfl
    have hA:=Kam (RF.cons nm t0 kr).list (nm,t0) rfl hI0 vkids.list (by omega) hvx
    simp only at hA
    have hL:k=7∨k=8→Jr7 t0 (Je s).1:=fun hh=>hld hh (nm,t0) rfl
    rcases hkk with rfl | rfl | rfl | rfl | rfl
    ·rw [inK3,hph]
     by_cases hv6:vk=6
     ·subst hv6
      rw [show decide ((Tree.mk 6 vs vg ve vkids).kind=6)=true from rfl,Bool.true_and]
      (refine Jqa false [] Tryz.func17 ?_;refine Ae hm _ _ _ ?_;simp only [Tryz.ntmps17,Tryz.results17,go_sem,simprocAttr,hgt,hgv])
      (repeat' (first | ((first | (refine Det.use (hP) ?_)|(refine Det.use (hPv) ?_)|(refine Det.use (hA) ?_));simp only [go_sem,simprocAttr,hgv]) | fail))
      all_goals rfl
     ·have c6:=eq_false hv6
      rw [show decide ((Tree.mk vk vs vg ve vkids).kind=6)=false from decide_eq_false hv6,Bool.false_and]
      (refine Jqa false [] Tryz.func17 ?_;refine Ae hm _ _ _ ?_;simp only [Tryz.ntmps17,Tryz.results17,go_sem,simprocAttr,hgt,hgv,c6,not_false_eq_true,decide_true])
      (repeat' (first | ((refine Det.use (hP) ?_);simp only [go_sem,simprocAttr,hgv,c6,not_false_eq_true]) | fail))
    ·rw [inK5,hph]
     by_cases hv5:vk=5
     ·subst hv5
      rw [show decide ((Tree.mk 5 vs vg ve vkids).kind=5)=true from rfl,Bool.true_and]
      (refine Jqa false [] Tryz.func17 ?_;refine Ae hm _ _ _ ?_;simp only [Tryz.ntmps17,Tryz.results17,go_sem,simprocAttr,hgt,hgv])
      (repeat' (first | ((first | (refine Det.use (hP) ?_)|(refine Det.use (hPv) ?_)|(refine Det.use (hA) ?_));simp only [go_sem,simprocAttr,hgv]) | fail))
      all_goals rfl
     ·have c6:=eq_false hv5
      rw [show decide ((Tree.mk vk vs vg ve vkids).kind=5)=false from decide_eq_false hv5,Bool.false_and]
      (refine Jqa false [] Tryz.func17 ?_;refine Ae hm _ _ _ ?_;simp only [Tryz.ntmps17,Tryz.results17,go_sem,simprocAttr,hgt,hgv,c6,not_false_eq_true,decide_true])
      (repeat' (first | ((refine Det.use (hP) ?_);simp only [go_sem,simprocAttr,hgv,c6,not_false_eq_true]) | fail))
    ·rw [inK6,hph]
     by_cases hv5:vk=5
     ·subst hv5
      have hE:=J6a t0 hI0 vkids.list (by omega) hvx
      rw [show decide ((Tree.mk 5 vs vg ve vkids).kind=5)=true from rfl,Bool.true_and]
      (refine Jqa false [] Tryz.func17 ?_;refine Ae hm _ _ _ ?_;simp only [Tryz.ntmps17,Tryz.results17,go_sem,simprocAttr,hgt,hgv,hgr])
      (repeat' (first | ((first | (refine Det.use (hP) ?_)|(refine Det.use (hPv) ?_)|(refine Det.use (hE) ?_));simp only [go_sem,simprocAttr,hgv,hgr]) | fail))
      all_goals rfl
     ·have c6:=eq_false hv5
      rw [show decide ((Tree.mk vk vs vg ve vkids).kind=5)=false from decide_eq_false hv5,Bool.false_and]
      (refine Jqa false [] Tryz.func17 ?_;refine Ae hm _ _ _ ?_;simp only [Tryz.ntmps17,Tryz.results17,go_sem,simprocAttr,hgt,hgv,c6,not_false_eq_true,decide_true])
      (repeat' (first | ((refine Det.use (hP) ?_);simp only [go_sem,simprocAttr,hgv,c6,not_false_eq_true]) | fail))
    ·rw [inK7,hph]
     by_cases hv5:vk=5
     ·subst hv5
      rw [show decide ((Tree.mk 5 vs vg ve vkids).kind=5)=true from rfl,Bool.true_and]
      rw [show (Tree.mk 5 vs vg ve vkids).kids=vkids from rfl]
      cases hall:allP (inTy t0) vkids.list with
      | false =>
       rw [hall] at hA
       rw [Bool.false_and]
       (refine Jqa false [] Tryz.func17 ?_;refine Ae hm _ _ _ ?_;simp only [Tryz.ntmps17,Tryz.results17,go_sem,simprocAttr,hgt,hgv])
       (repeat' (first | ((first | (refine Det.use (hP) ?_)|(refine Det.use (hPv) ?_)|(refine Det.use (hA) ?_));simp only [go_sem,simprocAttr,hgv]) | fail))
      | true =>
       rw [hall] at hA
       obtain ⟨hkt,hks⟩:=Jwp (hL (.inl rfl)) hvx hall
       have hK:=J29 s vkids.list hs0 (by omega) (fun q hq=>by have:=Jd7 hq;omega)
       rw [hkt] at hK
       have hRi:=Kdn (Jrh s vkids.list) ⟨by simp [Jrh];omega,fun w hw=>⟨(hks w hw).1,by have:=(hks w hw).2;omega⟩⟩
       rw [Bool.true_and]
       (refine Jqa false [] Tryz.func17 ?_;refine Ae hm _ _ _ ?_;simp only [Tryz.ntmps17,Tryz.results17,go_sem,simprocAttr,hgt,hgv])
       (repeat' (first | ((first | (refine Det.use (hP) ?_)|(refine Det.use (hPv) ?_)|(refine Det.use (hA) ?_)|(refine Det.use (hK) ?_)|(refine Det.use (hRi) ?_));simp only [go_sem,simprocAttr,hgv]) | fail))
     ·have c6:=eq_false hv5
      rw [show decide ((Tree.mk vk vs vg ve vkids).kind=5)=false from decide_eq_false hv5,Bool.false_and]
      (refine Jqa false [] Tryz.func17 ?_;refine Ae hm _ _ _ ?_;simp only [Tryz.ntmps17,Tryz.results17,go_sem,simprocAttr,hgt,hgv,c6,not_false_eq_true,decide_true])
      (repeat' (first | ((refine Det.use (hP) ?_);simp only [go_sem,simprocAttr,hgv,c6,not_false_eq_true]) | fail))
    ·rw [inK8,hph]
     by_cases hv5:vk=5
     ·subst hv5
      have hG:=J7i t0 hI0 s hs0 (hL (.inr rfl)) vkids.list (by omega) hvx
      rw [show decide ((Tree.mk 5 vs vg ve vkids).kind=5)=true from rfl,Bool.true_and]
      (refine Jqa false [] Tryz.func17 ?_;refine Ae hm _ _ _ ?_;simp only [Tryz.ntmps17,Tryz.results17,go_sem,simprocAttr,hgt,hgv,hgr])
      (repeat' (first | ((first | (refine Jqd hm ?_)|(refine Det.use (hP) ?_)|(refine Det.use (hPv) ?_)|(refine Det.useQ (hG) ?_));simp only [go_sem,simprocAttr,hgv,hgr]) | fail))
      all_goals rfl
     ·have c6:=eq_false hv5
      rw [show decide ((Tree.mk vk vs vg ve vkids).kind=5)=false from decide_eq_false hv5,Bool.false_and]
      (refine Jqa false [] Tryz.func17 ?_;refine Ae hm _ _ _ ?_;simp only [Tryz.ntmps17,Tryz.results17,go_sem,simprocAttr,hgt,hgv,c6,not_false_eq_true,decide_true])
      (repeat' (first | ((refine Det.use (hP) ?_);simp only [go_sem,simprocAttr,hgv,c6,not_false_eq_true]) | fail))
end Go.LX
set_option maxRecDepth 100000
set_option maxHeartbeats 2000000
namespace Go.LX
open Go Go.RowKit Go.Proofs
attribute [local irreducible] Al SWP Bi
theorem J8y (k:Int) (s:List UInt8) (g:Bool) (e:Int) (kids:Forest) (hk:k≠6):Det cx 27 [.p (.sl (valL ((Tree.mk k s g e kids).enc [])))] [] (.p (.sl [])) []:=by
 have hg:=Cc [] k s g e kids
 have c1:=eq_false hk
 generalize hvv:(Tree.mk k s g e kids).enc []=v at hg ⊢
 (refine Jqa false [] Tryz.func27 ?_;refine Ae hm _ _ _ ?_;simp only [Tryz.ntmps27,Tryz.results27,go_sem,simprocAttr,hg,c1,decide_false])
 skip
 refine SWP.loop (fun _:Unit=>⟨Ba 34 [(0,.p (.sl (valL v))),(3,.own 6 0 0),(4,.p (.int .i64 1)),(5,.p (.int .i64 0))],[(6,.row 9 1 [])]⟩) (fun _=>True) (fun _=>0) () Jqb trivial ?_
 rintro _ _
 (refine Ae hm _ _ _ ?_;simp only [go_sem,simprocAttr,hg,c1])
 (repeat' (first | (refine iteI (fun h=>?_) (fun h=>?_))|(exact True.intro)))
theorem Kaq (t:Tree) (name:List UInt8) (hv:(t.enc []).length≤1000000):Det cx 114 [.p (.sl (valL (t.enc []))),.p (.str name)] [] (Oo (Jx4 t name)) []:=by
 cases t with
 | mk k s g e kids =>
 rw [A6,List.length_cons] at hv
 by_cases hk:k=6
 ·subst hk
  exact Re [] s g e kids name (by omega)
 ·rw [show Jx4 (.mk k s g e kids) name=none from if_neg hk,Oo]
  have hN:=J8y k s g e kids hk
  (refine Jqa false [] Tryz.func114 ?_;refine Ae hm _ _ _ ?_;simp only [Tryz.ntmps114,Tryz.results114,go_sem,simprocAttr])
  (repeat' (first | ((refine Det.use (hN) ?_);simp only [go_sem,simprocAttr]) | fail))
  refine SWP.loop (fun _:Unit=>⟨Ba 27 [(6,.p (.sl [])),(7,.p (.int .i64 0))],[]⟩) (fun _=>True) (fun _=>0) () Jqb trivial ?_
  rintro _ _
  have e0:((0:Int)<((0:Nat):Int))=False:=eq_false (by omega)
  (refine Ae hm _ _ _ ?_;simp only [go_sem,simprocAttr])
  skip
theorem Kbc (n:Int) (hn01:n=0∨n=1) (c:Node) (s:List UInt8) (f:RF) (hv:f.enc.length≤999999) (hI:∀ r∈f.list,Ka8 r.2) (vs:List UInt8) (vg:Bool) (ve:Int) (kids:Forest) (hx:VFit (.mk 6 vs vg ve kids)):Det cx 63 [.p (.sl (rowL ((RT.mk 2 s n c f).enc []))),.p (.sl (valL ((Tree.mk 6 vs vg ve kids).enc [])))] [] (.p (.bool ((decide (n≠0) || decide (kids.len=f.list.length)) && objS kids.list f.list (inL f)))) []:=by
 have hfl:=RF.list_len f
 have hll:=RF.len_le f
 have hN:=Kbs [] s n c f hv
 have hP:=J3q [] 2 s n c f hv (by decide)
 have hgt:(rowL ((RT.mk 2 s n c f).enc []))[0]? = some [.int .i64 2,.int .i64 f.len,.str [],.str s,.int .i64 n,.int .i64 c.kind,.int .i64 c.many,.str c.name,.str c.s,.bool c.neg,.int .i64 c.e]:=by rw [Jqk];rfl
 have hgv:=Cc [] 6 vs vg ve kids
 rw [Bool.and_comm,Jxq,← J3a (kids:=kids.list) (rows:=f.list) (m:=f.list) (i:=0) rfl]
 (refine Jqa false [] Tryz.func63 ?_;refine Ae hm _ _ _ ?_;simp only [Tryz.ntmps63,Tryz.results63,go_sem,simprocAttr,Kap,Jq9])
 (repeat' (first | ((first | (refine Det.use (hN) ?_)|(refine Det.use (hP) ?_));simp only [go_sem,simprocAttr]) | fail))
 refine SWP.loop (fun i:Nat=>⟨Ba 54 [(0,.p (.sl (rowL ((RT.mk 2 s n c f).enc [])))),(1,.p (.sl (valL ((Tree.mk 6 vs vg ve kids).enc [])))),(5,.p (.sl (J47 f.list))),(6,.p (.sl (Jqo f.list))),(7,.p (.int .i64 i))],[]⟩) (fun i=>i≤f.list.length∧allF (objB kids.list f.list) f.list.length 0=allF (objB kids.list f.list) (f.list.length - i) i) (fun i=>f.list.length - i) 0 Jqb ⟨Nat.zero_le _,rfl⟩ ?_
 rintro i ⟨h2,h4⟩
 by_cases hi:¬ i<f.list.length
 ·have c9:((i:Int)<(f.list.length:Int))=False:=eq_false (by omega)
  rw [show f.list.length - i=0 by omega,allF] at h4
  rw [h4,Bool.true_and]
  by_cases hn1:n=1
  ·subst hn1
   (refine Ae hm _ _ _ ?_;simp only [go_sem,simprocAttr,Kap,c9,hgt])
   skip
   rfl
  ·have c2:=eq_false hn1
   have hn0:n=0:=by omega
   subst hn0
   (refine Ae hm _ _ _ ?_;simp only [go_sem,simprocAttr,Kap,c9,hgt,hgv,decide_false])
   skip
   rw [Bool.eq_iff_iff];simp;omega
 ·have hi:=Decidable.not_not.1 hi
  have c9:((i:Int)<(f.list.length:Int))=True:=eq_true (by omega)
  obtain ⟨r,hr⟩:∃ r,f.list[i]? = some r:=⟨_,List.getElem?_eq_getElem hi⟩
  obtain ⟨k,hk1⟩:∃ k,f.list.length - i=k+1:=⟨f.list.length - i - 1,by omega⟩
  have hgp:=Jye hr
  have hgn:(J47 f.list)[i]? = some [.str r.1]:=by simp [J47,hr]
  have hF:=Kaq (.mk 6 vs vg ve kids) r.1 hx.len
  rw [show Jx4 (.mk 6 vs vg ve kids) r.1=Ch r.1 kids.list from if_pos rfl] at hF
  rw [hk1,allF,show objB kids.list f.list i=Jv4 kids.list r.1 (inTy r.2) by unfold objB;rw [hr]] at h4
  cases hf:Ch r.1 kids.list with
  | none =>
   rw [hf,Oo] at hF
   rw [show Jv4 kids.list r.1 (inTy r.2)=false by unfold Jv4;rw [hf],Bool.false_and] at h4
   rw [h4,Bool.false_and]
   (refine Ae hm _ _ _ ?_;simp only [go_sem,simprocAttr,Kap,c9,hgn])
   (repeat' (first | ((refine Det.use (hF) ?_);simp only [go_sem,simprocAttr]) | fail))
  | some u =>
   rw [hf,Oo] at hF
   rw [show Jv4 kids.list r.1 (inTy r.2)=inTy r.2 u by unfold Jv4;rw [hf]] at h4
   obtain ⟨p,hp,rfl,_⟩:=H2 hf
   have hC:=hI r (List.mem_of_getElem? hr) p.2 (hx.kid hp)
   cases hb:inTy r.2 p.2 with
   | false =>
    rw [hb] at hC h4
    rw [Bool.false_and] at h4
    rw [h4,Bool.false_and]
    (refine Ae hm _ _ _ ?_;simp only [go_sem,simprocAttr,Kap,c9,hgn])
    (repeat' (first | ((first | (refine Det.use (hF) ?_)|(refine Det.use (hC) ?_));simp only [go_sem,simprocAttr,hgp,Bool.not_false]) | fail))
   | true =>
    rw [hb,Bool.true_and] at h4
    rw [hb] at hC
    (refine Ae hm _ _ _ ?_;simp only [go_sem,simprocAttr,Kap,c9,hgn,wj1 (i:=i) (by omega)])
    (repeat' (first | ((first | (refine Det.use (hF) ?_)|(refine Det.use (hC) ?_));simp only [go_sem,simprocAttr,hgp,wj1 (i:=i) (by omega),Bool.not_true]) | fail))
    exact ⟨i+1,⟨by omega,by rw [h4,show f.list.length - (i+1)=k by omega]⟩,by omega,Jqb⟩
theorem Kbh (t:RT) (hI:Ka8 t) (l:List KT) (hl:l.length≤1000000) (hx:∀ q∈l,VFit q.2):Det cx 65 [.p (.sl (rowL (t.enc []))),.p (.sl (A4 l))] [] (.p (.bool (entS (inTy t) none l))) []:=by
 rw [← J2r (P:=inTy t) (l:=l) (m:=l) (i:=0) (last:=none) rfl rfl]
 (refine Jqa false [] Tryz.func65 ?_;refine Ae hm _ _ _ ?_;simp only [Tryz.ntmps65,Tryz.results65,go_sem,simprocAttr,A5])
 skip
 refine SWP.loop (fun i:Nat=>⟨Ba 78 [(0,.p (.sl (rowL (t.enc [])))),(1,.p (.sl (A4 l))),(5,.p (.str (if i=0 then [] else keyK (l.getD (i - 1) kd0).2))),(6,.p (.int .i64 i))],[]⟩) (fun i=>i≤l.length∧allF (entB (inTy t) l) l.length 0=allF (entB (inTy t) l) (l.length - i) i) (fun i=>l.length - i) 0 (by rw [if_pos rfl];exact Jqb) ⟨Nat.zero_le _,rfl⟩ ?_
 rintro i ⟨h2,h4⟩
 by_cases hi:¬ i<l.length
 ·have c9:((i:Int)<(l.length:Int))=False:=eq_false (by omega)
  rw [show l.length - i=0 by omega,allF] at h4
  (refine Ae hm _ _ _ ?_;simp only [go_sem,simprocAttr,A5,c9])
  skip
  rw [h4]
 ·have hi:=Decidable.not_not.1 hi
  have c9:((i:Int)<(l.length:Int))=True:=eq_true (by omega)
  obtain ⟨⟨nm,x⟩,hq⟩:∃ q,l[i]? = some q:=⟨_,List.getElem?_eq_getElem hi⟩
  obtain ⟨j,hk1⟩:∃ k,l.length - i=k+1:=⟨l.length - i - 1,by omega⟩
  have hgq:=Hx hq
  simp only at hgq
  have hg:l.getD i kd0=(nm,x):=Jt0 hq
  have hx:VFit x:=hx _ (List.mem_of_getElem? hq)
  have hE:entB (inTy t) l i=match entK x with
    | none=>false
    | some (key,u)=>(if i=0 then true else Op.bytesLess (keyK (l.getD (i - 1) kd0).2) key) && inTy t u:=by
   unfold entB;rw [hg];rfl
  have hnext:(if i+1=0 then ([]:List UInt8) else keyK (l.getD (i+1 - 1) kd0).2)=keyK x:=by
   rw [if_neg (by omega),Nat.add_sub_cancel,hg]
  rw [hk1,allF,hE] at h4
  generalize hlast:(if i=0 then ([]:List UInt8) else keyK (l.getD (i - 1) kd0).2)=last
  have hF1:=Kaq x sKey hx.len
  have hF2:=Kaq x sVal hx.len
  unfold sKey at hF1
  unfold sVal at hF2
  cases x with
  | mk k s g e kids =>
  have hgx:=Cc [] k s g e kids
  by_cases hk:k=6
  ·subst hk
   rw [show Jx4 (.mk 6 s g e kids) [107,101,121]=Ch sKey kids.list from if_pos rfl] at hF1
   rw [show Jx4 (.mk 6 s g e kids) [118,97,108,117,101]=Ch sVal kids.list from if_pos rfl] at hF2
   cases h1:Ch sKey kids.list with
   | none =>
    rw [h1,Oo] at hF1
    rw [show entK (.mk 6 s g e kids)=none by rw [Jtu,h1];split <;> rfl] at h4
    have h4:allF (entB (inTy t) l) l.length 0=false:=h4
    rw [h4]
    cases h2:Ch sVal kids.list with
    | none =>
     rw [h2,Oo] at hF2
     (refine Ae hm _ _ _ ?_;simp only [go_sem,simprocAttr,A5,c9,hgq])
     (repeat' (first | ((first | (refine Det.use (hF1) ?_)|(refine Det.use (hF2) ?_));simp only [go_sem,simprocAttr,hgq]) | fail))
    | some u =>
     rw [h2,Oo] at hF2
     (refine Ae hm _ _ _ ?_;simp only [go_sem,simprocAttr,A5,c9,hgq])
     (repeat' (first | ((first | (refine Det.use (hF1) ?_)|(refine Det.use (hF2) ?_));simp only [go_sem,simprocAttr,hgq]) | fail))
   | some kt =>
    rw [h1,Oo] at hF1
    cases h2:Ch sVal kids.list with
    | none =>
     rw [h2,Oo] at hF2
     rw [show entK (.mk 6 s g e kids)=none by rw [Jtu,h1,h2];cases kt;split <;> rfl] at h4
     have h4:allF (entB (inTy t) l) l.length 0=false:=h4
     rw [h4]
     (refine Ae hm _ _ _ ?_;simp only [go_sem,simprocAttr,A5,c9,hgq])
     (repeat' (first | ((first | (refine Det.use (hF1) ?_)|(refine Det.use (hF2) ?_));simp only [go_sem,simprocAttr,hgq]) | fail))
    | some u =>
     rw [h2,Oo] at hF2
     obtain ⟨kk,ks,kg,ke,kkids⟩:=kt
     have hgk:=Cc [] kk ks kg ke kkids
     by_cases hm2:kids.len=2
     ·have c3:((kids.len:Int)=2)=True:=eq_true (by omega)
      by_cases hk4:kk=4
      ·subst hk4
       rw [show entK (.mk 6 s g e kids)=some (ks,u) by rw [Jtu,if_pos ⟨rfl,hm2⟩,h1,h2];rfl] at h4
       rw [show keyK (.mk 6 s g e kids)=ks by unfold keyK;rw [Jtu,if_pos ⟨rfl,hm2⟩,h1,h2];rfl] at hnext
       obtain ⟨p,hp,rfl,_⟩:=H2 h2
       have hC:=hI p.2 (hx.kid hp)
       simp only at h4
       have hle:=J5m ks last
       cases hin:inTy t p.2 with
       | false =>
        rw [hin] at hC h4
        rw [Bool.and_false,Bool.false_and] at h4
        rw [h4]
        (refine Ae hm _ _ _ ?_;simp only [go_sem,simprocAttr,A5,c9,hgq])
        (repeat' (first | ((first | (refine Det.use (hF1) ?_)|(refine Det.use (hF2) ?_)|(refine Det.use (hC) ?_));simp only [go_sem,simprocAttr,hgq,hgx,hgk,c3,Bool.not_false,Bool.not_true]) | fail))
       | true =>
        rw [hin] at hC h4
        rw [Bool.and_true] at h4
        by_cases hi0:i=0
        ·rw [if_pos hi0,Bool.true_and] at h4
         have c4:((0:Int)<(i:Int))=False:=eq_false (by omega)
         (refine Ae hm _ _ _ ?_;simp only [go_sem,simprocAttr,A5,c9,hgq,wj1 (i:=i) (by omega)])
         (repeat' (first | ((first | (refine Det.use (hF1) ?_)|(refine Det.use (hF2) ?_)|(refine Det.use (hC) ?_));simp only [go_sem,simprocAttr,hgq,hgx,hgk,c3,c4,wj1 (i:=i) (by omega),Bool.not_true]) | fail))
         exact ⟨i+1,⟨by omega,by rw [h4,show l.length - (i+1)=j by omega]⟩,by omega,by rw [hnext];exact Jqb⟩
        ·rw [if_neg hi0] at h4 hlast
         rw [hlast] at h4
         have c4:((0:Int)<(i:Int))=True:=eq_true (by omega)
         cases hbl:Op.bytesLess last ks with
         | true =>
          rw [hbl,Bool.not_true] at hle
          rw [hbl,Bool.true_and] at h4
          (refine Ae hm _ _ _ ?_;simp only [go_sem,simprocAttr,A5,c9,hgq,wj1 (i:=i) (by omega)])
          (repeat' (first | ((first | (refine Det.use (hF1) ?_)|(refine Det.use (hF2) ?_)|(refine Det.use (hC) ?_));simp only [go_sem,simprocAttr,hgq,hgx,hgk,c3,c4,hle,wj1 (i:=i) (by omega),Bool.not_true]) | fail))
          exact ⟨i+1,⟨by omega,by rw [h4,show l.length - (i+1)=j by omega]⟩,by omega,by rw [hnext];exact Jqb⟩
         | false =>
          rw [hbl,Bool.not_false] at hle
          rw [hbl,Bool.false_and] at h4
          rw [h4]
          (refine Ae hm _ _ _ ?_;simp only [go_sem,simprocAttr,A5,c9,hgq])
          (repeat' (first | ((first | (refine Det.use (hF1) ?_)|(refine Det.use (hF2) ?_)|(refine Det.use (hC) ?_));simp only [go_sem,simprocAttr,hgq,hgx,hgk,c3,c4,hle,Bool.not_true]) | fail))
      ·rw [show entK (.mk 6 s g e kids)=none by rw [Jtu,if_pos ⟨rfl,hm2⟩,h1,h2];exact if_neg hk4] at h4
       have h4:allF (entB (inTy t) l) l.length 0=false:=h4
       have c5:(kk=4)=False:=eq_false hk4
       rw [h4]
       (refine Ae hm _ _ _ ?_;simp only [go_sem,simprocAttr,A5,c9,hgq,decide_true])
       (repeat' (first | ((first | (refine Det.use (hF1) ?_)|(refine Det.use (hF2) ?_));simp only [go_sem,simprocAttr,hgq,hgx,hgk,c3,c5,not_false_eq_true]) | fail))
     ·rw [show entK (.mk 6 s g e kids)=none by rw [Jtu,if_neg (fun h=>hm2 h.2)]] at h4
      have h4:allF (entB (inTy t) l) l.length 0=false:=h4
      have c3:((kids.len:Int)=2)=False:=eq_false (by omega)
      rw [h4]
      (refine Ae hm _ _ _ ?_;simp only [go_sem,simprocAttr,A5,c9,hgq,decide_true])
      (repeat' (first | ((first | (refine Det.use (hF1) ?_)|(refine Det.use (hF2) ?_));simp only [go_sem,simprocAttr,hgq,hgx,c3,not_false_eq_true]) | fail))
  ·rw [show Jx4 (.mk k s g e kids) [107,101,121]=none from if_neg hk,Oo] at hF1
   rw [show Jx4 (.mk k s g e kids) [118,97,108,117,101]=none from if_neg hk,Oo] at hF2
   rw [show entK (.mk k s g e kids)=none by rw [Jtu,if_neg (fun h=>hk h.1)]] at h4
   have h4:allF (entB (inTy t) l) l.length 0=false:=h4
   rw [h4]
   (refine Ae hm _ _ _ ?_;simp only [go_sem,simprocAttr,A5,c9,hgq])
   (repeat' (first | ((first | (refine Det.use (hF1) ?_)|(refine Det.use (hF2) ?_));simp only [go_sem,simprocAttr,hgq]) | fail))
end Go.LX
set_option maxRecDepth 100000
set_option maxHeartbeats 2000000
namespace Go.LX
open Go Go.RowKit Go.Proofs
attribute [local irreducible] Al SWP Bi
theorem Kcu {t:RT} {q:KT} (h:Jrz (inTy t) q=true):q.2.kind=5∧q.2.kids.len≠0∧allP (inTy t) q.2.kids.list=true:=by
 unfold Jrz at h
 simp only [Bool.and_eq_true,decide_eq_true_eq] at h
 exact ⟨h.1,h.2.1,h.2.2⟩
theorem Kb1 (t:RT) (hI:Ka8 t) (s:List UInt8) (hs:s.length≤1000000) (hL:Jr7 t (Je s).1) (l:List KT) (hl:l.length≤1000000) (hx:∀ q∈l,VFit q.2):Det cx 66 [.p (.sl (rowL (t.enc []))),.p (.str s),.p (.sl (A4 l))] [] (.p (.bool (Jtb (inTy t) s none l))) []:=by
 rw [← Jyx (P:=inTy t) (s:=s) (l:=l) (m:=l) (i:=0) (last:=none) rfl rfl]
 (refine Jqa false [] Tryz.func66 ?_;refine Ae hm _ _ _ ?_;simp only [Tryz.ntmps66,Tryz.results66,go_sem,simprocAttr,A5])
 refine SWP.loop (fun i:Nat=>⟨Ba 85 [(0,.p (.sl (rowL (t.enc [])))),(1,.p (.str s)),(2,.p (.sl (A4 l))),(7,.p (.int .i64 i))],[]⟩) (fun i=>i≤l.length∧allF (grpB (inTy t) s l) l.length 0=allF (grpB (inTy t) s l) (l.length - i) i∧(i≠0→Jrz (inTy t) (l.getD (i - 1) kd0)=true)) (fun i=>l.length - i) 0 Jqb ⟨Nat.zero_le _,rfl,fun h=>absurd rfl h⟩ ?_
 rintro i ⟨h2,h4,hpv⟩
 by_cases hi:¬ i<l.length
 ·have c9:((i:Int)<(l.length:Int))=False:=eq_false (by omega)
  rw [show l.length - i=0 by omega,allF] at h4
  (refine Ae hm _ _ _ ?_;simp only [go_sem,simprocAttr,A5,c9])
  skip
  rw [h4]
 ·have hi:=Decidable.not_not.1 hi
  have c9:((i:Int)<(l.length:Int))=True:=eq_true (by omega)
  obtain ⟨⟨nm,x⟩,hq⟩:∃ q,l[i]? = some q:=⟨_,List.getElem?_eq_getElem hi⟩
  obtain ⟨j,hk1⟩:∃ k,l.length - i=k+1:=⟨l.length - i - 1,by omega⟩
  have hgq:=Hx hq
  simp only at hgq
  have hg:l.getD i kd0=(nm,x):=Jt0 hq
  have hxx:VFit x:=hx _ (List.mem_of_getElem? hq)
  have hE:grpB (inTy t) s l i=(Jrz (inTy t) (nm,x) && (((Jrh s x.kids.list).all fun k=>Ju8 k (grpH s (nm,x))) && (if i=0 then true else decide (cmpT (grpH s (l.getD (i - 1) kd0)) (grpH s (nm,x))<0)))):=by
   unfold grpB
   rw [hg]
  rw [hk1,allF,hE] at h4
  cases x with
  | mk k vs vg ve kids =>
  have hxl:=hxx.len
  rw [A6,List.length_cons] at hxl
  have hll:=Forest.len_le kids
  have hkl:=Forest.list_len kids
  have hgx:=Cc [] k vs vg ve kids
  by_cases hk:k=5
  ·subst hk
   by_cases hn0:kids.len=0
   ·have c3:((kids.len:Int)=0)=True:=eq_true (by omega)
    rw [show Jrz (inTy t) (nm,Tree.mk 5 vs vg ve kids)=false by unfold Jrz;simp only [Tree.kids];simp [hn0],Bool.false_and,Bool.false_and] at h4
    rw [h4]
    (refine Ae hm _ _ _ ?_;simp only [go_sem,simprocAttr,A5,c9,hgq,hgx,c3,decide_true])
    skip
   ·have c3:((kids.len:Int)=0)=False:=eq_false (by omega)
    have hPt:=Dy [] 5 vs vg ve kids (by omega)
    have hA:=Kbx t hI kids.list (by omega) (fun q hq=>hxx.kid hq)
    cases hall:allP (inTy t) kids.list with
    | false =>
     rw [hall] at hA
     rw [show Jrz (inTy t) (nm,Tree.mk 5 vs vg ve kids)=false by unfold Jrz;simp only [Tree.kids];rw [show (kids.list.all fun x=>inTy t x.2)=false from hall];simp,Bool.false_and,Bool.false_and] at h4
     rw [h4]
     (refine Ae hm _ _ _ ?_;simp only [go_sem,simprocAttr,A5,c9,hgq,hgx,c3])
     (repeat' (first | ((first | (refine Det.use (hPt) ?_)|(refine Det.use (hA) ?_));simp only [go_sem,simprocAttr,Bool.not_false]) | fail))
    | true =>
     rw [hall] at hA
     obtain ⟨hkt,hks⟩:=Jwp hL (fun q hq=>hxx.kid hq) hall
     have hK:=Kbe s kids.list hs (by omega) (fun q hq=>by have:=Jd7 hq;omega)
     rw [hkt] at hK
     have hgo:Jrz (inTy t) (nm,Tree.mk 5 vs vg ve kids)=true:=by unfold Jrz;simp only [Tree.kids];rw [show (kids.list.all fun x=>inTy t x.2)=true from hall];simp [Tree.kind,hn0]
     rw [hgo,Bool.true_and] at h4
     have hgo':Jrz (inTy t) (l.getD (i+1 - 1) kd0)=true:=by rw [Nat.add_sub_cancel,hg];exact hgo
     have hgh:grpH s (nm,Tree.mk 5 vs vg ve kids)=Ju5 (Jrh s kids.list):=rfl
     simp only [Tree.kids] at h4
     rw [hgh] at h4
     have hne:Jrh s kids.list≠[]:=by
      intro e
      have:=congrArg List.length e
      simp [Jrh,hkl,hn0] at this
     generalize hksE:Jrh s kids.list=ks at *
     obtain ⟨w,ks',rfl⟩:∃ w ks',ks=w :: ks':=by
      cases ks with
      | nil=>exact absurd rfl hne
      | cons a b=>exact ⟨a,b,rfl⟩
     rw [show Ju5 (w :: ks')=w from rfl] at h4
     obtain ⟨hw1,hw2⟩:=hks w List.mem_cons_self
     have hkk:(w :: ks').length≤1000000:=by rw [← hksE];simp [Jrh];omega
     have hg0:(Jqh (w :: ks'))[0]? = some [.sl (valL (w.enc []))]:=rfl
     rw [← Jwm (P:=fun k=>Ju8 k w) (d:=tr0) (l:=w :: ks') (m:=w :: ks') (i:=0) rfl] at h4
     generalize hkse:w :: ks'=ks at *
     (refine Ae hm _ _ _ ?_;simp only [go_sem,simprocAttr,A5,c9,hgq,hgx,c3])
     (repeat' (first | ((first | (refine Det.use (hPt) ?_)|(refine Det.use (hA) ?_)|(refine Det.use (hK) ?_));simp only [go_sem,simprocAttr,hgq,Bool.not_true]) | fail))
     refine SWP.loop (fun m:Nat=>⟨Ba 85 [(0,.p (.sl (rowL (t.enc [])))),(1,.p (.str s)),(2,.p (.sl (A4 l))),(7,.p (.int .i64 i)),(8,.p (.sl (Jqh ks))),(9,.p (.int .i64 m))],[]⟩) (fun m=>m≤ks.length∧allF (fun j=>Ju8 (ks.getD j tr0) w) ks.length 0=allF (fun j=>Ju8 (ks.getD j tr0) w) (ks.length - m) m) (fun m=>ks.length - m) 0 Jqb ⟨Nat.zero_le _,rfl⟩ ?_
     rintro m ⟨m1,m2⟩
     by_cases hm1:m<ks.length
     ·have d9:((m:Int)<(ks.length:Int))=True:=eq_true (by omega)
      obtain ⟨v,hv⟩:∃ v,ks[m]? = some v:=⟨_,List.getElem?_eq_getElem hm1⟩
      have hgv:=Jro hv
      obtain ⟨o,ho⟩:∃ o,ks.length - m=o+1:=⟨ks.length - m - 1,by omega⟩
      rw [ho,allF,Jt0 hv] at m2
      have hS:=E2 (v.enc []) (w.enc []) (by have:=(hks v (List.mem_of_getElem? hv)).2;omega) (by omega)
      rw [show decide (v.enc []=w.enc [])=Ju8 v w from rfl] at hS
      cases hb:Ju8 v w with
      | false =>
       rw [hb] at hS m2
       rw [Bool.false_and] at m2
       rw [m2,Bool.false_and,Bool.false_and] at h4
       rw [h4]
       (refine Ae hm _ _ _ ?_;simp only [go_sem,simprocAttr,Jqj,d9])
       (repeat' (first | ((first | (refine Jqd hm ?_)|(refine Det.useQ (hS) ?_));simp only [go_sem,simprocAttr,hgv,hg0,Bool.not_false]) | fail))
      | true =>
       rw [hb] at hS m2
       rw [Bool.true_and] at m2
       (refine Ae hm _ _ _ ?_;simp only [go_sem,simprocAttr,Jqj,d9,wj1 (i:=m) (by omega)])
       (repeat' (first | ((first | (refine Jqd hm ?_)|(refine Det.useQ (hS) ?_));simp only [go_sem,simprocAttr,Bool.not_true,hgv,hg0,wj1 (i:=m) (by omega),Bool.not_true]) | fail))
       exact ⟨m+1,⟨by omega,by rw [m2,show ks.length - (m+1)=o by omega]⟩,by omega,Jqb⟩
     ·have d9:((m:Int)<(ks.length:Int))=False:=eq_false (by omega)
      rw [show ks.length - m=0 by omega,allF] at m2
      rw [m2,Bool.true_and] at h4
      by_cases hi0:i=0
      ·rw [if_pos hi0,Bool.true_and] at h4
       have c4:((0:Int)<(i:Int))=False:=eq_false (by omega)
       (refine Ae hm _ _ _ ?_;simp only [go_sem,simprocAttr,decide_false,Jqj,d9,wj1 (i:=i) (by omega)])
       (repeat' (first | ((refine Jqd hm ?_);simp only [go_sem,simprocAttr,decide_false,c4,wj1 (i:=i) (by omega)]) | fail))
       exact ⟨i+1,⟨by omega,by rw [h4,show l.length - (i+1)=j by omega],fun _=>hgo'⟩,by omega,Jqb⟩
      ·rw [if_neg hi0] at h4
       have c4:((0:Int)<(i:Int))=True:=eq_true (by omega)
       have hpg:=Kcu (hpv hi0)
       obtain ⟨⟨nm',x'⟩,hq'⟩:∃ q,l[i - 1]? = some q:=⟨_,List.getElem?_eq_getElem (by omega)⟩
       rw [Jt0 hq'] at hpg h4
       have hx':VFit x':=hx _ (List.mem_of_getElem? hq')
       obtain ⟨k',vs',vg',ve',kids'⟩:=x'
       obtain ⟨p1,p2,p3⟩:=hpg
       have p1:k'=5:=p1
       subst p1
       simp only [Tree.kids] at p2 p3
       have hxl':=hx'.len
       rw [A6,List.length_cons] at hxl'
       have hll':=Forest.len_le kids'
       have hkl':=Forest.list_len kids'
       have hPt':=Dy [] 5 vs' vg' ve' kids' (by omega)
       obtain ⟨f0,hf0⟩:∃ f0,kids'.list[0]? = some f0:=⟨_,List.getElem?_eq_getElem (by omega)⟩
       have hfm:=List.mem_of_getElem? hf0
       have hgf:=Hx hf0
       have hfin:inTy t f0.2=true:=by
        have:=List.all_eq_true.1 p3 f0 hfm
        exact this
       obtain ⟨wl,_,q2,q3,q4,q5⟩:=J1i hL (hx'.kid hfm) hfin
       have hK':=Kbb s f0.2 hs (hx'.kid hfm).len
       rw [q4] at hK'
       have hghl:grpH s (nm',Tree.mk 5 vs' vg' ve' kids')=wl:=by
        unfold grpH Ju5 Jrh
        simp only [Tree.kids]
        cases hkk':kids'.list with
        | nil=>rw [hkk'] at hf0;cases hf0
        | cons a b =>
         rw [hkk'] at hf0
         cases hf0
         exact q5
       rw [hghl] at h4
       have hC:=Jwx (wl.enc []).length wl w (Nat.le_refl _) q2 hw1 (by omega) (by omega)
       have hgq':=Hx hq'
       simp only at hgq'
       have w1:IntKind.i64.wrap ((i:Int) - 1)=((i - 1:Nat):Int):=by rw [Aa (by omega) (by omega)];omega
       by_cases hlt:cmpT wl w<0
       ·have c5:(0≤cmpT wl w)=False:=eq_false (by omega)
        rw [decide_eq_true hlt,Bool.true_and] at h4
        (refine Ae hm _ _ _ ?_;simp only [go_sem,simprocAttr,decide_false,Jqj,d9,wj1 (i:=i) (by omega)])
        (repeat' (first | ((first | (refine Jqd hm ?_)|(refine Det.useQ (hPt') ?_)|(refine Det.useQ (hK') ?_)|(refine Det.useQ (hC) ?_));simp only [go_sem,simprocAttr,decide_false,c4,c5,w1,hgq',hgf,hg0,wj1 (i:=i) (by omega)]) | fail))
        exact ⟨i+1,⟨by omega,by rw [h4,show l.length - (i+1)=j by omega],fun _=>hgo'⟩,by omega,Jqb⟩
       ·have c5:(0≤cmpT wl w)=True:=eq_true (by omega)
        rw [decide_eq_false hlt,Bool.false_and] at h4
        rw [h4]
        (refine Ae hm _ _ _ ?_;simp only [go_sem,simprocAttr,decide_false,Jqj,d9])
        (repeat' (first | ((first | (refine Jqd hm ?_)|(refine Det.useQ (hPt') ?_)|(refine Det.useQ (hK') ?_)|(refine Det.useQ (hC) ?_));simp only [go_sem,simprocAttr,c4,c5,w1,hgq',hgf,hg0]) | fail))
  ·have c3:(k=5)=False:=eq_false hk
   rw [show Jrz (inTy t) (nm,Tree.mk k vs vg ve kids)=false by unfold Jrz;simp [Tree.kind,hk],Bool.false_and,Bool.false_and] at h4
   rw [h4]
   (refine Ae hm _ _ _ ?_;simp only [go_sem,simprocAttr,A5,c9,hgq,hgx,c3,not_false_eq_true,decide_true])
   skip
end Go.LX
set_option maxRecDepth 100000
set_option maxHeartbeats 2000000
namespace Go.LX
open Go Go.RowKit Go.Proofs
attribute [local irreducible] Al SWP Bi
theorem Kc8 {ps:List (Tree→Bool)} {l:List KT} {i:Nat} {p:Tree→Bool} {q:KT} (h1:ps[i]? = some p) (h2:l[i]? = some q):tupS (ps.drop i) (l.drop i)=(p q.2 && tupS (ps.drop (i+1)) (l.drop (i+1))):=by
 obtain ⟨g1,rfl⟩:=List.getElem?_eq_some_iff.1 h1
 obtain ⟨g2,rfl⟩:=List.getElem?_eq_some_iff.1 h2
 rw [List.drop_eq_getElem_cons g1,List.drop_eq_getElem_cons g2,tupS]
theorem Kcx (n:Nat):∀ t:RT,(t.enc []).length≤n→okR t→t.kind≠9→SFit t→(t.enc []).length≤1000000→Ka8 t:=by
 induction n with
 | zero=>intro t h;have:=Jr9 t [];omega
 | succ n ih =>
 intro t hn hok h9 hsf hsz
 obtain ⟨k,s,m,c,kids⟩:=t
 have hok:=Jtm.1 hok
 obtain ⟨hro,hkd,hld,hkr⟩:=hok
 rw [Jqk,List.length_cons] at hn hsz
 have hll:=RF.len_le kids
 have hkl:=RF.list_len kids
 have hsk:∀ r∈kids.enc,r.s.length≤1000000:=fun r hr=>hsf r (by rw [Jqk];exact List.mem_cons_of_mem _ hr)
 have hs0:s.length≤1000000:=hsf ⟨k,kids.len,[],s,m,c⟩ (by rw [Jqk];exact List.mem_cons_self)
 have h9:k≠9:=h9
 have hgt:(rowL ((RT.mk k s m c kids).enc []))[0]? = some [.int .i64 k,.int .i64 kids.len,.str [],.str s,.int .i64 m,.int .i64 c.kind,.int .i64 c.many,.str c.name,.str c.s,.bool c.neg,.int .i64 c.e]:=by rw [Jqk];rfl
 have hIk:k≠1→∀ r∈kids.list,Ka8 r.2:=fun hk1 r hr=>by
  have:=J3o hr
  refine ih r.2 (by omega) (Jtq.1 hkr r hr) (fun h=>hk1 ((hkd.1 r hr).1.1 h)) (smem hsk hr) (by omega)
 intro x hx
 obtain ⟨vk,vs,vg,ve,vkids⟩:=x
 have hgv:=Cc [] vk vs vg ve vkids
 have hvl:=hx.len
 rw [A6,List.length_cons] at hvl
 have hvll:=Forest.len_le vkids
 have hvkl:=Forest.list_len vkids
 have hvx:∀ q∈vkids.list,VFit q.2:=fun q hq=>hx.kid hq
 have hvlen:(valL ((Tree.mk vk vs vg ve vkids).enc [])).length=vkids.enc.length+1:=by rw [A7,A6];rfl
 rw [Juw]
 by_cases hk0:k=0
 ·subst hk0
  rw [show inK 0 s m kids.list (inL kids) (Tree.mk vk vs vg ve vkids)=true from if_pos rfl]
  (refine Jqa false [] Tryz.func18 ?_;refine Ae hm _ _ _ ?_;simp only [Tryz.ntmps18,Tryz.results18,go_sem,simprocAttr,hgt,hgv])
  skip
 ·by_cases hk1:k=1
  ·subst hk1
   have hlk:J0b kids.list:=fun p hp=>(J12 (Jtq.1 hkr p hp) ((hkd.1 p hp).1.2 rfl)).1
   have hAt:=Kbq [] s m c kids (by omega) hlk
   have hrow:=hro
   simp [Jq6] at hrow
   have hat:∀ a∈Jqx kids.list,Jrb a.1 a.2:=fun a ha=>by
    obtain ⟨p,hp,rfl⟩:=List.mem_map.1 ha
    exact (J12 (Jtq.1 hkr p hp) ((hkd.1 p hp).1.2 rfl)).2
   rw [show inK 1 s m kids.list (inL kids) (Tree.mk vk vs vg ve vkids)=(J0z (Tree.mk vk vs vg ve vkids) && Jqs m (Jqx kids.list) (J7y (Tree.mk vk vs vg ve vkids))) from rfl,Kcp]
   by_cases hlf:vkids.enc.length=0
   ·have c3:(((vkids.enc.length+1:Nat):Int)=1)=True:=eq_true (by omega)
    have hnode:=(Lu.1 hx.ok).1
    have hfit:=hx.fit ⟨vk,vkids.len,[],vs,vg,ve⟩ (by rw [A6];exact List.mem_cons_self)
    obtain ⟨mm,hmm,hm31⟩:∃ mm:Nat,m=mm∧mm≤1000:=⟨m.toNat,by omega,by omega⟩
    subst hmm
    have hM:=J14 mm (Jqx kids.list) ⟨vk,vkids.len,[],vs,vg,ve⟩ hm31 (by simp [Jqx];omega) hat hfit
    simp only at hM
    rw [decide_eq_true hlf,Bool.true_and]
    (refine Jqa false [] Tryz.func18 ?_;refine Ae hm _ _ _ ?_;simp only [Tryz.ntmps18,Tryz.results18,go_sem,simprocAttr,hgt,hgv,hvlen,c3,decide_true])
    (repeat' (first | ((first | (refine Jqd hm ?_)|(refine Det.useQ (hAt) ?_)|(refine Det.useQ (hM) ?_));simp only [go_sem,simprocAttr,hgv,hvlen,c3]) | fail))
    rfl
   ·have c3:(((vkids.enc.length+1:Nat):Int)=1)=False:=eq_false (by omega)
    rw [decide_eq_false hlf,Bool.false_and]
    (refine Jqa false [] Tryz.func18 ?_;refine Ae hm _ _ _ ?_;simp only [Tryz.ntmps18,Tryz.results18,go_sem,simprocAttr,hgt,hgv,hvlen,c3,decide_false])
    (repeat' (first | ((refine Jqd hm ?_);simp only [go_sem,simprocAttr,hvlen,c3]) | fail))
  ·have hP:=J3q [] k s m c kids (by omega) hk1
   have hI:=hIk hk1
   have hPv:=Dy [] vk vs vg ve vkids (by omega)
   rcases J7b hro hk0 hk1 h9 with rfl | rfl | ⟨hkk,hm1⟩
   ·rw [inK2]
    by_cases hv6:vk=6
    ·subst hv6
     have hO:=Kbc m (by have:=hro;simp [Jq6] at this;omega) c s kids (by omega) hI vs vg ve vkids hx
     rw [show decide ((Tree.mk 6 vs vg ve vkids).kind=6)=true from rfl,Bool.true_and,show (Tree.mk 6 vs vg ve vkids).kids=vkids from rfl]
     generalize ((decide (m≠0) || decide (vkids.len=kids.list.length)) && objS vkids.list kids.list (inL kids))=one at hO ⊢
     (refine Jqa false [] Tryz.func18 ?_;refine Ae hm _ _ _ ?_;simp only [Tryz.ntmps18,Tryz.results18,go_sem,simprocAttr,hgt,hgv])
     (repeat' (first | (refine iteI (fun h=>?_) (fun h=>?_))|((first | (refine Det.use (hP) ?_)|(refine Det.use (hPv) ?_)|(refine Det.use (hO) ?_));simp only [go_sem,simprocAttr,hgv]) | fail))
     all_goals first
      | rfl
      | exact (show one=true by assumption).symm
      | exact (Bool.eq_false_iff.2 (show one≠true by assumption)).symm
    ·have c6:=eq_false hv6
     rw [show decide ((Tree.mk vk vs vg ve vkids).kind=6)=false from decide_eq_false hv6,Bool.false_and]
     (refine Jqa false [] Tryz.func18 ?_;refine Ae hm _ _ _ ?_;simp only [Tryz.ntmps18,Tryz.results18,go_sem,simprocAttr,hgt,hgv,c6,not_false_eq_true,decide_true])
     (repeat' (first | ((first | (refine Det.use (hP) ?_)|(refine Det.use (hPv) ?_));simp only [go_sem,simprocAttr,hgv,c6]) | fail))
   ·rw [inK4]
    by_cases hv5:vk=5
    ·subst hv5
     rw [show decide ((Tree.mk 5 vs vg ve vkids).kind=5)=true from rfl,Bool.true_and,Jxq,show (Tree.mk 5 vs vg ve vkids).kids=vkids from rfl]
     have hpm:(kids.list.map fun p=>inTy p.2).length=kids.list.length:=List.length_map ..
     (refine Jqa false [] Tryz.func18 ?_;refine Ae hm _ _ _ ?_;simp only [Tryz.ntmps18,Tryz.results18,go_sem,simprocAttr,hgt,hgv,Jq9,A5])
     (repeat' (first | ((first | (refine Det.use (hP) ?_)|(refine Det.use (hPv) ?_));simp only [go_sem,simprocAttr,hgv]) | fail))
     refine SWP.loop (fun i:Nat=>⟨Ba 141 [(6,.p (.sl (A4 vkids.list))),(7,.p (.sl (Jqo kids.list))),(8,.p (.int .i64 i))],[]⟩) (fun i=>i≤vkids.list.length∧i≤kids.list.length∧tupS (kids.list.map fun p=>inTy p.2) vkids.list=tupS ((kids.list.map fun p=>inTy p.2).drop i) (vkids.list.drop i)) (fun i=>vkids.list.length - i) 0 Jqb ⟨Nat.zero_le _,Nat.zero_le _,rfl⟩ ?_
     rintro i ⟨q1,q2,q3⟩
     by_cases hi:i<vkids.list.length
     ·have c9:((i:Int)<(vkids.list.length:Int))=True:=eq_true (by omega)
      by_cases hj:i<kids.list.length
      ·have c8:((i:Int)<(kids.list.length:Int))=True:=eq_true (by omega)
       obtain ⟨q,hq⟩:∃ q,vkids.list[i]? = some q:=⟨_,List.getElem?_eq_getElem hi⟩
       obtain ⟨r,hr⟩:∃ r,kids.list[i]? = some r:=⟨_,List.getElem?_eq_getElem hj⟩
       have hgr:=Jye hr
       have hgq:=Hx hq
       have hC:=hI r (List.mem_of_getElem? hr) q.2 (hvx q (List.mem_of_getElem? hq))
       rw [Kc8 (ps:=kids.list.map fun p=>inTy p.2) (p:=inTy r.2) (by simp [hr]) hq] at q3
       cases hb:inTy r.2 q.2 with
       | false =>
        rw [hb] at hC q3
        rw [q3,Bool.false_and]
        (refine Ae hm _ _ _ ?_;simp only [go_sem,simprocAttr,Jq9,A5,c9,c8,decide_true])
        (repeat' (first | ((first | (refine Jqd hm ?_)|(refine Det.useQ (hC) ?_));simp only [go_sem,simprocAttr,hgr,hgq,Bool.not_false]) | fail))
       | true =>
        rw [hb,Bool.true_and] at q3
        rw [hb] at hC
        (refine Ae hm _ _ _ ?_;simp only [go_sem,simprocAttr,Jq9,A5,c9,c8,wj1 (i:=i) (by omega),decide_true])
        (repeat' (first | ((first | (refine Jqd hm ?_)|(refine Det.useQ (hC) ?_));simp only [go_sem,simprocAttr,hgr,hgq,wj1 (i:=i) (by omega),Bool.not_true]) | fail))
        exact ⟨i+1,⟨by omega,by omega,q3⟩,by omega,Jqb⟩
      ·have c8:((i:Int)<(kids.list.length:Int))=False:=eq_false (by omega)
       rw [J3t (ps:=(kids.list.map fun p=>inTy p.2).drop i) (l:=vkids.list.drop i) (by rw [List.length_drop,List.length_drop,hpm];omega)] at q3
       have c7:((vkids.list.length:Int)=(kids.list.length:Int))=False:=eq_false (by omega)
       rw [q3]
       (refine Ae hm _ _ _ ?_;simp only [go_sem,simprocAttr,Jq9,A5,c9,c8,c7,decide_true,decide_false])
       skip
       all_goals first
        | rfl
        | (symm;simp;omega)
        | (simp;omega)
     ·have c9:((i:Int)<(vkids.list.length:Int))=False:=eq_false (by omega)
      by_cases hll2:vkids.list.length=kids.list.length
      ·have c7:((vkids.list.length:Int)=(kids.list.length:Int))=True:=eq_true (by omega)
       rw [List.drop_eq_nil_of_le (show (kids.list.map fun p=>inTy p.2).length≤i by rw [hpm];omega),List.drop_eq_nil_of_le (by omega),tupS] at q3
       rw [q3]
       (refine Ae hm _ _ _ ?_;simp only [go_sem,simprocAttr,Jq9,A5,c9,c7,decide_false])
       skip
       all_goals first
        | rfl
        | (simp;omega)
      ·have c7:((vkids.list.length:Int)=(kids.list.length:Int))=False:=eq_false (by omega)
       rw [J3t (ps:=(kids.list.map fun p=>inTy p.2).drop i) (l:=vkids.list.drop i) (by rw [List.length_drop,List.length_drop,hpm];omega)] at q3
       rw [q3]
       (refine Ae hm _ _ _ ?_;simp only [go_sem,simprocAttr,Jq9,A5,c9,c7,decide_false])
       skip
       all_goals first
        | rfl
        | (symm;simp;omega)
        | (simp;omega)
    ·have c6:=eq_false hv5
     rw [show decide ((Tree.mk vk vs vg ve vkids).kind=5)=false from decide_eq_false hv5,Bool.false_and]
     (refine Jqa false [] Tryz.func18 ?_;refine Ae hm _ _ _ ?_;simp only [Tryz.ntmps18,Tryz.results18,go_sem,simprocAttr,hgt,hgv,c6,not_false_eq_true,decide_true])
     (repeat' (first | ((first | (refine Det.use (hP) ?_)|(refine Det.use (hPv) ?_));simp only [go_sem,simprocAttr,hgv,c6,not_false_eq_true]) | fail))
   ·obtain ⟨nm,t0,kr,rfl⟩:∃ nm t0 kr,kids=.cons nm t0 kr:=by
     cases kids with
     | nil=>simp [RF.len] at hm1
     | cons a b c=>exact ⟨a,b,c,rfl⟩
    have hI0:Ka8 t0:=hI (nm,t0) List.mem_cons_self
    have hgr:(Jqo (RF.cons nm t0 kr).list)[0]? = some [.sl (rowL (t0.enc []))]:=rfl
    have hph:Jtk (inL (RF.cons nm t0 kr))=inTy t0:=by rw [Jt8];rfl
    have hA:=Kbx t0 hI0 vkids.list (by omega) hvx
    have hL:k=7∨k=8→Jr7 t0 (Je s).1:=fun hh=>hld hh (nm,t0) rfl
    rcases hkk with rfl | rfl | rfl | rfl | rfl
    ·rw [inK3,hph]
     by_cases hv6:vk=6
     ·subst hv6
      rw [show decide ((Tree.mk 6 vs vg ve vkids).kind=6)=true from rfl,Bool.true_and]
      (refine Jqa false [] Tryz.func18 ?_;refine Ae hm _ _ _ ?_;simp only [Tryz.ntmps18,Tryz.results18,go_sem,simprocAttr,hgt,hgv,hgr])
      (repeat' (first | ((first | (refine Det.use (hP) ?_)|(refine Det.use (hPv) ?_)|(refine Det.use (hA) ?_));simp only [go_sem,simprocAttr,hgv,hgr]) | fail))
      all_goals rfl
     ·have c6:=eq_false hv6
      rw [show decide ((Tree.mk vk vs vg ve vkids).kind=6)=false from decide_eq_false hv6,Bool.false_and]
      (refine Jqa false [] Tryz.func18 ?_;refine Ae hm _ _ _ ?_;simp only [Tryz.ntmps18,Tryz.results18,go_sem,simprocAttr,hgt,hgv,c6,not_false_eq_true,decide_true])
      (repeat' (first | ((first | (refine Det.use (hP) ?_)|(refine Det.use (hPv) ?_));simp only [go_sem,simprocAttr,hgv,c6]) | fail))
    ·rw [inK5,hph]
     by_cases hv5:vk=5
     ·subst hv5
      rw [show decide ((Tree.mk 5 vs vg ve vkids).kind=5)=true from rfl,Bool.true_and]
      (refine Jqa false [] Tryz.func18 ?_;refine Ae hm _ _ _ ?_;simp only [Tryz.ntmps18,Tryz.results18,go_sem,simprocAttr,hgt,hgv,hgr])
      (repeat' (first | ((first | (refine Det.use (hP) ?_)|(refine Det.use (hPv) ?_)|(refine Det.use (hA) ?_));simp only [go_sem,simprocAttr,hgv,hgr]) | fail))
      all_goals rfl
     ·have c6:=eq_false hv5
      rw [show decide ((Tree.mk vk vs vg ve vkids).kind=5)=false from decide_eq_false hv5,Bool.false_and]
      (refine Jqa false [] Tryz.func18 ?_;refine Ae hm _ _ _ ?_;simp only [Tryz.ntmps18,Tryz.results18,go_sem,simprocAttr,hgt,hgv,c6,not_false_eq_true,decide_true])
      (repeat' (first | ((first | (refine Det.use (hP) ?_)|(refine Det.use (hPv) ?_));simp only [go_sem,simprocAttr,hgv,c6,not_false_eq_true]) | fail))
    ·rw [inK6,hph]
     by_cases hv5:vk=5
     ·subst hv5
      have hE:=Kbh t0 hI0 vkids.list (by omega) hvx
      rw [show decide ((Tree.mk 5 vs vg ve vkids).kind=5)=true from rfl,Bool.true_and]
      (refine Jqa false [] Tryz.func18 ?_;refine Ae hm _ _ _ ?_;simp only [Tryz.ntmps18,Tryz.results18,go_sem,simprocAttr,hgt,hgv,hgr])
      (repeat' (first | ((first | (refine Det.use (hP) ?_)|(refine Det.use (hPv) ?_)|(refine Det.use (hE) ?_));simp only [go_sem,simprocAttr,hgv,hgr]) | fail))
      all_goals rfl
     ·have c6:=eq_false hv5
      rw [show decide ((Tree.mk vk vs vg ve vkids).kind=5)=false from decide_eq_false hv5,Bool.false_and]
      (refine Jqa false [] Tryz.func18 ?_;refine Ae hm _ _ _ ?_;simp only [Tryz.ntmps18,Tryz.results18,go_sem,simprocAttr,hgt,hgv,c6,not_false_eq_true,decide_true])
      (repeat' (first | ((first | (refine Det.use (hP) ?_)|(refine Det.use (hPv) ?_));simp only [go_sem,simprocAttr,hgv,c6,not_false_eq_true]) | fail))
    ·rw [inK7,hph]
     by_cases hv5:vk=5
     ·subst hv5
      rw [show decide ((Tree.mk 5 vs vg ve vkids).kind=5)=true from rfl,Bool.true_and]
      rw [show (Tree.mk 5 vs vg ve vkids).kids=vkids from rfl]
      cases hall:allP (inTy t0) vkids.list with
      | false =>
       rw [hall] at hA
       rw [Bool.false_and]
       (refine Jqa false [] Tryz.func18 ?_;refine Ae hm _ _ _ ?_;simp only [Tryz.ntmps18,Tryz.results18,go_sem,simprocAttr,hgt,hgv,hgr])
       (repeat' (first | ((first | (refine Det.use (hP) ?_)|(refine Det.use (hPv) ?_)|(refine Det.use (hA) ?_));simp only [go_sem,simprocAttr,hgv,hgr]) | fail))
      | true =>
       rw [hall] at hA
       obtain ⟨hkt,hks⟩:=Jwp (hL (.inl rfl)) hvx hall
       have hK:=Kbe s vkids.list hs0 (by omega) (fun q hq=>by have:=Jd7 hq;omega)
       rw [hkt] at hK
       have hRi:=Kb6 (Jrh s vkids.list) ⟨by simp [Jrh];omega,fun w hw=>⟨(hks w hw).1,by have:=(hks w hw).2;omega⟩⟩
       rw [Bool.true_and]
       (refine Jqa false [] Tryz.func18 ?_;refine Ae hm _ _ _ ?_;simp only [Tryz.ntmps18,Tryz.results18,go_sem,simprocAttr,hgt,hgv,hgr])
       (repeat' (first | ((first | (refine Det.use (hP) ?_)|(refine Det.use (hPv) ?_)|(refine Det.use (hA) ?_)|(refine Det.use (hK) ?_)|(refine Det.use (hRi) ?_));simp only [go_sem,simprocAttr,hgv,hgr]) | fail))
     ·have c6:=eq_false hv5
      rw [show decide ((Tree.mk vk vs vg ve vkids).kind=5)=false from decide_eq_false hv5,Bool.false_and]
      (refine Jqa false [] Tryz.func18 ?_;refine Ae hm _ _ _ ?_;simp only [Tryz.ntmps18,Tryz.results18,go_sem,simprocAttr,hgt,hgv,c6,not_false_eq_true,decide_true])
      (repeat' (first | ((first | (refine Det.use (hP) ?_)|(refine Det.use (hPv) ?_));simp only [go_sem,simprocAttr,hgv,c6,not_false_eq_true]) | fail))
    ·rw [inK8,hph]
     by_cases hv5:vk=5
     ·subst hv5
      have hG:=Kb1 t0 hI0 s hs0 (hL (.inr rfl)) vkids.list (by omega) hvx
      rw [show decide ((Tree.mk 5 vs vg ve vkids).kind=5)=true from rfl,Bool.true_and]
      (refine Jqa false [] Tryz.func18 ?_;refine Ae hm _ _ _ ?_;simp only [Tryz.ntmps18,Tryz.results18,go_sem,simprocAttr,hgt,hgv,hgr])
      (repeat' (first | ((first | (refine Jqd hm ?_)|(refine Det.use (hP) ?_)|(refine Det.use (hPv) ?_)|(refine Det.useQ (hG) ?_));simp only [go_sem,simprocAttr,hgv,hgr]) | fail))
      all_goals rfl
     ·have c6:=eq_false hv5
      rw [show decide ((Tree.mk vk vs vg ve vkids).kind=5)=false from decide_eq_false hv5,Bool.false_and]
      (refine Jqa false [] Tryz.func18 ?_;refine Ae hm _ _ _ ?_;simp only [Tryz.ntmps18,Tryz.results18,go_sem,simprocAttr,hgt,hgv,c6,not_false_eq_true,decide_true])
      (repeat' (first | ((first | (refine Det.use (hP) ?_)|(refine Det.use (hPv) ?_));simp only [go_sem,simprocAttr,hgv,c6,not_false_eq_true]) | fail))
end Go.LX
