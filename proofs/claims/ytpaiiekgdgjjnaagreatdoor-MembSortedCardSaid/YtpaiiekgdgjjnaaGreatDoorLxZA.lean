/- Membership: lists that are sorted, or grouped: plain laws. -/
import Derived.Test.YtpaiiekgdgjjnaaGreatDoorLxZ
import Derived.Test.YtpaiiekgdgjjnaaGreatDoorLxY
import Derived.Test.YtpaiiekgdgjjnaaGreatDoorLxQ
set_option linter.unusedSimpArgs false
set_option linter.unusedVariables false
set_option linter.unusedSectionVars false
set_option linter.unnecessarySimpa false
set_option maxRecDepth 100000
set_option maxHeartbeats 2000000
namespace Go.LX
open Go Go.RowKit Go.Proofs
attribute [local irreducible] Al SWP Bi
def unT (l:List Tree):List KT:=l.map fun t=>([],t)
def listT (l:List Tree):Tree:=.mk 5 [] false 0 (A1 (unT l))
def Jqc (t:Tree):List Tree:=t.kids.list.map (·.2)
theorem Jrx (l:List Tree):Jqc (listT l)=l:=by
 unfold Jqc listT Tree.kids unT;rw [Hd,List.map_map];exact List.map_id' l
theorem J8a (l:List Tree):(listT l).kind=5:=rfl
theorem Jxl {t:Tree} (ok:okT t) (hk:t.kind=5):listT (Jqc t)=t:=by
 obtain ⟨k,s,g,e,kids⟩:=t;have hk:k=5:=hk;subst hk;obtain ⟨h1,h2,_⟩:=Lu.1 ok;simp [G3] at h1;obtain ⟨rfl,rfl,rfl⟩:=h1;unfold listT Jqc Tree.kids unT;rw [List.map_map];have:kids.list.map ((fun t=>(([]:List UInt8),t)) ∘ fun p:KT=>p.2)=kids.list:=by
  conv=>rhs;rw [← List.map_id kids.list]
  refine List.map_congr_left fun p hp=>?_
  have:=h2.1 rfl p hp;exact Prod.ext this.symm rfl
 rw [this,G1]
theorem list_ok {l:List Tree} (h:okK l):okT (listT l):=by
 unfold listT;rw [Lu,Ca,Hd,Jdo,Hd];have hn:∀ p∈unT l,p.1=[]:=fun p hp=>by obtain ⟨t,_,rfl⟩:=List.mem_map.1 hp;rfl
 refine ⟨by simp [G3],⟨fun _=>hn,fun p hp=>?_,fun h=>by omega⟩,fun p hp=>?_⟩
 ·rw [hn p hp];rfl
 ·obtain ⟨t,ht,rfl⟩:=List.mem_map.1 hp;exact h t ht
theorem J7l {t:Tree} (ok:okT t):okK (Jqc t):=by
 intro x hx;obtain ⟨k,s,g,e,kids⟩:=t;obtain ⟨p,hp,rfl⟩:=List.mem_map.1 hx;exact Jut ok hp
theorem inT_step {t u:Tree} {x:Step} (h:inT t x=.ok u):Jru x t=.ok u:=by
 obtain ⟨k,s,g,e,kids⟩:=t;obtain ⟨b,nm,n⟩:=x;cases b with
 | false =>
  by_cases hk:k=6
  ·subst hk;rw [Tp rfl] at h;rw [J4i];cases hf:Ch nm kids.list with
   | none=>simp only [hf] at h;cases h
   | some w=>simp only [hf] at h;cases h;rfl
  ·rw [Iw rfl hk] at h;cases h
 | true =>
  by_cases hk:k=5
  ·subst hk;rw [Tm rfl] at h;rw [J4l];cases hf:kids.list[n.toNat]? with
   | none=>simp only [hf] at h;cases h
   | some w=>simp only [hf] at h;cases h;rfl
  ·rw [Iz rfl hk] at h;cases h
theorem J03:∀ {p:List Step} {t u:Tree},getT p t=.ok u→Jro p t=.ok u
 | [],t,u,h=>by rw [getT] at h;rw [Jro];exact h
 | x :: p,t,u,h=>by
  rw [getT] at h;rw [Jro];cases hi:inT t x with
  | error e=>rw [hi] at h;cases h
  | ok w=>rw [hi] at h;rw [inT_step hi];exact J03 h
def Jrr (p:List Step):List Tree→Except Nat (List Tree)
 | []=>.ok []
 | t :: l=>match Jro p t with
  | .error e=>.error e
  | .ok u=>match Jrr p l with
   | .error e=>.error e
   | .ok ks=>.ok (u :: ks)
def Jtz (grp:Bool) (s:List UInt8) (v:Tree):Except Nat Tree :=
 if v.kind=5 then (match Jrr (Je s).1 (Jqc v) with
  | .error e=>.error e
  | .ok ks=>.ok (if grp=true then listT ((Jqt ks).map fun g=>listT (Jql (Jqc v) g)) else listT (Jql (Jqc v) (Jqv ks)))) else .error 5
theorem J27 {t:RT} {s:List UInt8} (hL:Jsn t (Je s).1):∀ {l:List Tree},(∀ x∈l,VFit x)→(∀ x∈l,inTy t x=true)→Jrr (Je s).1 l=.ok (l.map (keyT s))
 | [],_,_=>rfl
 | x :: l,hx,ha=>by
  obtain ⟨w,h1,h2,h3,h4,h5⟩:=J26 hL (hx x List.mem_cons_self) (ha x List.mem_cons_self);rw [Jrr,J03 h1,J27 hL (fun q hq=>hx q (List.mem_cons_of_mem _ hq)) (fun q hq=>ha q (List.mem_cons_of_mem _ hq)),List.map_cons,h5]
theorem J0c {t:RT} {s:List UInt8} (hL:Jsn t (Je s).1) {l:List Tree} (hx:∀ x∈l,VFit x) (ha:∀ x∈l,inTy t x=true):okK (l.map (keyT s)):=by
 intro k hk;obtain ⟨x,h,rfl⟩:=List.mem_map.1 hk;obtain ⟨w,h1,h2,h3,h4,h5⟩:=J26 hL (hx x h) (ha x h);rw [h5];exact h2
theorem J2h {P:Tree→Bool} {l:List KT}:allP P l=true ↔ ∀ x∈l.map (·.2),P x=true:=by
 unfold allP;rw [List.all_eq_true,List.forall_mem_map]
theorem J2d (s:List UInt8) (l:List KT):Jrt s l=(l.map (·.2)).map (keyT s):=by
 unfold Jrt;rw [List.map_map];rfl
theorem J29 {s:List UInt8} {n:Int} {c:Node} {q:RKT} {v:Tree}:inTy (.mk 7 s n c (.cons q.1 q.2 .nil)) v=true ↔ v.kind=5∧(∀ x∈Jqc v,inTy q.2 x=true)∧Jr5 ((Jqc v).map (keyT s))=true:=by
 rw [Jvo,Ju0,Jy1];unfold inK Jt2;simp only [Int.reduceEq,reduceIte,Bool.and_eq_true,decide_eq_true_eq,J2h,J2d];exact Iff.rfl
theorem Jxn {s:List UInt8} {n:Int} {c:Node} {q:RKT} {v:Tree}:inTy (.mk 5 s n c (.cons q.1 q.2 .nil)) v=true ↔ v.kind=5∧∀ x∈Jqc v,inTy q.2 x=true:=by
 rw [Jvo,Ju0,Jy1];unfold inK Jt2;simp only [Int.reduceEq,reduceIte,Bool.and_eq_true,decide_eq_true_eq,J2h];exact Iff.rfl
theorem Jzn {l:List Tree} {ks:List Tree} (hl:ks.length=l.length):∀ x,x∈Jql l (Jqv ks) ↔ x∈l:=by
 intro x;unfold Jql;rw [List.mem_map];constructor
 ·rintro ⟨i,hi,rfl⟩;have:=Jrs.1 hi;rw [Jre (List.getElem?_eq_getElem (show i<l.length by omega))];exact List.getElem_mem _
 ·intro hx;obtain ⟨i,hi,rfl⟩:=List.getElem_of_mem hx;exact ⟨i,Jrs.2 omg,Jre (List.getElem?_eq_getElem hi)⟩
theorem J6n {s:List UInt8} {n:Int} {c:Node} {q:RKT} {v:Tree} (hv:VFit v) (hL:Jsn q.2 (Je s).1) (hi:inTy (.mk 5 [] 0 Jrp (.cons q.1 q.2 .nil)) v=true) :
  ∃ x,Jtz false s v=.ok x∧(inTy (.mk 7 s n c (.cons q.1 q.2 .nil)) v=true ↔ x=v)∧inTy (.mk 7 s n c (.cons q.1 q.2 .nil)) x=true∧x.kind=5∧(∀ y,y∈Jqc x ↔ y∈Jqc v)∧x=listT (Jql (Jqc v) (Jqv ((Jqc v).map (keyT s)))):=by
 obtain ⟨hk,ha⟩:=Jxn.1 hi;have hfit:∀ x∈Jqc v,VFit x:=fun x hx=>by
  obtain ⟨k,s',g,e,kids⟩:=v;obtain ⟨p,hp,rfl⟩:=List.mem_map.1 hx;exact hv.kid hp
 have hK:=J27 hL hfit ha;have ok:=J0c hL hfit ha;have hsm:∀ i∈Jqv ((Jqc v).map (keyT s)),i<(Jqc v).length:=fun i h=>by
  have:=Jrs.1 h;rw [List.length_map] at this;exact this
 have hpk:=pick_map (Jqc v) (keyT s) hsm;have hr:=J28 ok;rw [hpk] at hr;have hpm:=Jzn (l:=Jqc v) (ks:=(Jqc v).map (keyT s)) sm;refine ⟨listT (Jql (Jqc v) (Jqv ((Jqc v).map (keyT s)))),by unfold Jtz;rw [if_pos hk,hK];rfl,?_,?_,rfl,by rw [Jrx];exact hpm,rfl⟩
 ·rw [J29];constructor
  ·rintro ⟨_,_,h⟩;rw [Jws ok h,List.length_map,Jwk,Jxl hv.ok hk]
  ·intro h;refine ⟨hk,ha,?_⟩;have:Jqc v=Jql (Jqc v) (Jqv ((Jqc v).map (keyT s))):=by
    conv=>lhs;rw [← h,Jrx]
   rw [this];exact hr
 ·rw [J29,Jrx];exact ⟨rfl,fun x hx=>ha x ((hpm x).1 hx),hr⟩
theorem J70 {a b:Tree}:Jv4 a b=true ↔ a=b:=by
 unfold Jv4;rw [decide_eq_true_eq];exact ⟨fun h=>(Jmz h).2,fun h=>by rw [h]⟩
def Jsy (v:Tree):List (List Tree):=(Jqc v).map Jqc
structure GroupsOK (P:Tree→Bool) (s:List UInt8) (l:List KT):Prop where
 kind:∀ q∈l,q.2.kind=5
 ne:∀ q∈l,Jqc q.2≠[]
 all:∀ q∈l,∀ x∈Jqc q.2,P x=true
 same:∀ q∈l,∀ x∈Jqc q.2,keyT s x=keyT s ((Jqc q.2).headD nilT)
 rise:l.Pairwise fun q r=>cmpT (keyT s ((Jqc q.2).headD nilT)) (keyT s ((Jqc r.2).headD nilT))<0
theorem Jub {s:List UInt8} {l:List KT} (h:l.map (·.2)≠[]):Jv2 (Jrt s l)=keyT s ((l.map (·.2)).headD nilT):=by
 cases l with
 | nil=>exact absurd rfl h
 | cons q l=>rfl
theorem Jt0 {P:Tree→Bool} {s:List UInt8}:∀ {l:List KT} {last:Option Tree},(∀ q∈l,∀ x∈Jqc q.2,P x=true→okT (keyT s x))→(∀ x,last=some x→okT x) →
  (Jtv P s last l=true ↔ GroupsOK P s l∧∀ x,last=some x→∀ q∈l,cmpT x (keyT s ((Jqc q.2).headD nilT))<0)
 | [],last,_,_=>by
  rw [Jtv];exact ⟨fun _=>⟨⟨by simp,by simp,by simp,by simp,.nil⟩,by simp⟩,fun _=>rfl⟩
 | q :: l,last,hk,hl=>by
  rw [Jtv];simp only [Bool.and_eq_true,Jsd,decide_eq_true_eq,List.all_eq_true,J70];have hne:q.2.kids.len≠0 ↔ Jqc q.2≠[]:=by
   rw [← Jqf];unfold Jqc;cases q.2.kids.list <;> simp
  have hsame:Jqc q.2≠[]→((∀ k∈Jrt s q.2.kids.list,k=Jv2 (Jrt s q.2.kids.list)) ↔ ∀ x∈Jqc q.2,keyT s x=keyT s ((Jqc q.2).headD nilT)):=fun h=>by
   rw [Jub h,J2d,List.forall_mem_map];rfl
  have hall:(∀ x∈q.2.kids.list,P x.2=true) ↔ ∀ x∈Jqc q.2,P x=true:=by
   unfold Jqc;rw [List.forall_mem_map]
  have hahead:Jqc q.2≠[]→(Jy9 last (Jv2 (Jrt s q.2.kids.list))=true ↔ ∀ x,last=some x→cmpT x (keyT s ((Jqc q.2).headD nilT))<0):=fun h=>by
   rw [Jub h];cases last with
   | none=>simp [Jy9]
   | some x=>simp [Jy9,Jqc]
  have hdm:Jqc q.2≠[]→(Jqc q.2).headD nilT∈Jqc q.2:=fun h=>by
   cases hq:Jqc q.2 with
   | nil=>exact absurd hq h
   | cons a b=>exact List.mem_cons_self
  have ih:=fun (hq:Jqc q.2≠[]) (ha:∀ x∈Jqc q.2,P x=true)=>Jt0 (P:=P) (s:=s) (l:=l) (last:=some (Jv2 (Jrt s q.2.kids.list))) (fun r hr=>hk r (List.mem_cons_of_mem _ hr)) (fun x hx=>by
   cases hx;rw [Jub hq];exact hk q List.mem_cons_self _ (hdm hq) (ha _ (hdm hq)))
  constructor
  ·rintro ⟨⟨h1,h2,h3⟩,h4,h5,h6⟩;have hq:=hne.1 h2;have ha:=hall.1 h3;obtain ⟨a,b⟩:=(ih hq ha).1 h6;have hs:=(hsame hq).1 h4;have hh:=(hahead hq).1 h5;have b':∀ r∈l,cmpT (keyT s ((Jqc q.2).headD nilT)) (keyT s ((Jqc r.2).headD nilT))<0:=fun r hr=>by
    have:=b _ rfl r hr;rw [Jub hq] at this;exact this
   refine ⟨⟨List.forall_mem_cons.2 ⟨h1,a.kind⟩,List.forall_mem_cons.2 ⟨hq,a.ne⟩,List.forall_mem_cons.2 ⟨ha,a.all⟩,List.forall_mem_cons.2 ⟨hs,a.same⟩,List.pairwise_cons.2 ⟨b',a.rise⟩⟩,fun x hx r hr=>?_⟩;have okh:∀ r∈q :: l,okT (keyT s ((Jqc r.2).headD nilT)):=fun r hr=>by
    have hr2:Jqc r.2≠[]:=by
     rcases List.mem_cons.1 hr with rfl | hr
     ·exact hq
     ·exact a.ne r hr
    have hr3:(Jqc r.2).headD nilT∈Jqc r.2:=by
     cases hq:Jqc r.2 with
     | nil=>exact absurd hq hr2
     | cons a b=>exact List.mem_cons_self
    refine hk r hr _ hr3 ?_;rcases List.mem_cons.1 hr with rfl | hr
    ·exact ha _ hr3
    ·exact a.all r hr _ hr3
   rcases List.mem_cons.1 hr with rfl | hr
   ·exact hh x hx
   ·exact Jum (hl x hx) (okh q List.mem_cons_self) (okh r (List.mem_cons_of_mem _ hr)) (hh x hx) (b' r hr)
  ·rintro ⟨⟨h1,h2,h3,h4,h5⟩,h6⟩;have hq:=h2 q List.mem_cons_self;have ha:=h3 q List.mem_cons_self;obtain ⟨p1,p2⟩:=List.pairwise_cons.1 h5;refine ⟨⟨h1 q List.mem_cons_self,hne.2 hq,hall.2 ha⟩,(hsame hq).2 (h4 q List.mem_cons_self),(hahead hq).2 fun x hx=>h6 x hx q List.mem_cons_self,?_⟩;refine (ih hq ha).2 ⟨⟨fun r hr=>h1 r (List.mem_cons_of_mem _ hr),fun r hr=>h2 r (List.mem_cons_of_mem _ hr),fun r hr=>h3 r (List.mem_cons_of_mem _ hr),fun r hr=>h4 r (List.mem_cons_of_mem _ hr),p2⟩,fun x hx r hr=>?_⟩;cases hx;rw [Jub hq];exact p1 r hr
theorem J0m {s:List UInt8} {n:Int} {c:Node} {q:RKT} {v:Tree}:inTy (.mk 8 s n c (.cons q.1 q.2 .nil)) v=true ↔ v.kind=5∧Jtv (inTy q.2) s none v.kids.list=true:=by
 rw [Jvo,Ju0,Jy1];unfold inK Jt2;simp only [Int.reduceEq,reduceIte,Bool.and_eq_true,decide_eq_true_eq]
def Jrw (v:Tree):Tree:=if v.kind=5∧∀ x∈Jqc v,x.kind=5 then listT ((Jqc v).flatMap Jqc) else nilT
instance (v:Tree):Decidable (v.kind=5∧∀ x∈Jqc v,x.kind=5):=inferInstance
theorem J5d {s:List UInt8} {n:Int} {c:Node} {q:RKT} {v:Tree} (hv:VFit v) (hL:Jsn q.2 (Je s).1) (hi:inTy (.mk 5 [] 0 Jrp (.cons q.1 q.2 .nil)) (Jrw v)=true) :
  ∃
   x,Jtz true s (Jrw v)=.ok x∧(inTy (.mk 8 s n c (.cons q.1 q.2 .nil)) v=true ↔ x=v)∧inTy (.mk 8 s n c (.cons q.1 q.2 .nil)) x=true ∧
   x=listT (((Jqt ((Jqc (Jrw v)).map (keyT s))).map (Jql (Jqc (Jrw v)))).map listT)∧∀ g∈(Jqt ((Jqc (Jrw v)).map (keyT s))).map (Jql (Jqc (Jrw v))),∀ y∈g,y∈Jqc (Jrw v):=by
 have hj:v.kind=5∧∀ x∈Jqc v,x.kind=5:=by
  apply Classical.byContradiction;intro h;obtain ⟨hk,_⟩:=Jxn.1 hi;rw [Jrw,if_neg h] at hk;exact absurd hk de
 have hjt:Jrw v=listT ((Jqc v).flatMap Jqc):=by rw [Jrw,if_pos hj]
 rw [hjt] at hi ⊢;obtain ⟨_,ha⟩:=Jxn.1 hi;rw [Jrx] at ha ⊢;have hkid:∀ {v:Tree},VFit v→∀ x∈Jqc v,VFit x:=fun {v} hv x hx=>by
  obtain ⟨k,s',g,e,kids⟩:=v;obtain ⟨p,hp,rfl⟩:=List.mem_map.1 hx;exact hv.kid hp
 generalize hl:(Jqc v).flatMap Jqc=l at *
 have hfit:∀ x∈l,VFit x:=fun x hx=>by
  rw [← hl] at hx;obtain ⟨y,hy,hx⟩:=List.mem_flatMap.1 hx;exact hkid (hkid hv y hy) x hx
 have hK:=J27 hL hfit ha;have ok:=J0c hL hfit ha;obtain ⟨g1,g2,g3,g4⟩:=Jye (kf:=keyT s) (l:=l) ok;have hpm:=Jzn (l:=l) (ks:=l.map (keyT s)) sm;have hmem:∀ g∈(Jqt (l.map (keyT s))).map (Jql l),∀ y∈g,y∈l:=fun g hg y hy=>(hpm y).1 (by rw [← g4];exact List.mem_flatten.2 ⟨g,hg,hy⟩)
 have okl:∀ y∈l,okT (keyT s y):=fun y hy=>ok _ (List.mem_map.2 ⟨y,hy,rfl⟩)
 refine ⟨listT (((Jqt (l.map (keyT s))).map (Jql l)).map listT),?_,?_,?_,rfl,hmem⟩
 ·unfold Jtz;rw [if_pos (J8a l),Jrx,hK,List.map_map];rfl
 ·rw [J0m];have hkv:(Jqc v).map Jqc=Jsy v:=rfl;have hfl:(Jsy v).flatten=l:=by rw [← hl];rfl
  have hback:listT ((Jsy v).map listT)=v:=by
   unfold Jsy;rw [List.map_map];have:(Jqc v).map (listT ∘ Jqc)=Jqc v:=by
    conv=>rhs;rw [← List.map_id (Jqc v)]
    exact List.map_congr_left fun x hx=>Jxl (hkid hv x hx).ok (hj.2 x hx)
   rw [this,Jxl hv.ok hj.1]
  constructor
  ·rintro ⟨_,h⟩;have hG:=((Jt0 (P:=inTy q.2) (s:=s) (l:=v.kids.list) (last:=none) (fun r hr x hx hp=>okl x (by rw [← hl];exact List.mem_flatMap.2 ⟨r.2,List.mem_map.2 ⟨r,hr,rfl⟩,hx⟩)) (fun x hx=>by cases hx)).1 h).1;have hb:=J49 (kf:=keyT s) (gs:=Jsy v) (by rw [hfl];exact ok)
    (fun g hg=>by obtain ⟨x,hx,rfl⟩:=List.mem_map.1 hg;obtain ⟨r,hr,rfl⟩:=List.mem_map.1 hx;exact hG.ne r hr)
    (fun g hg=>by obtain ⟨x,hx,rfl⟩:=List.mem_map.1 hg;obtain ⟨r,hr,rfl⟩:=List.mem_map.1 hx;exact hG.same r hr)
    (by unfold Jsy Jqc;rw [List.map_map,List.pairwise_map];exact hG.rise)
   rw [hfl] at hb;rw [hb,hback]
  ·intro h;refine ⟨hj.1,?_⟩;have hgs:Jsy v=(Jqt (l.map (keyT s))).map (Jql l):=by
    unfold Jsy;rw [← h,Jrx,List.map_map]
    conv=>rhs;rw [← List.map_id ((Jqt (l.map (keyT s))).map (Jql l))]
    exact List.map_congr_left fun x _=>Jrx x
   have hgm:∀ r∈v.kids.list,Jqc r.2∈(Jqt (l.map (keyT s))).map (Jql l):=fun r hr=>by
    rw [← hgs];exact List.mem_map.2 ⟨r.2,List.mem_map.2 ⟨r,hr,rfl⟩,rfl⟩
   refine (Jt0 (P:=inTy q.2) (s:=s) (l:=v.kids.list) (last:=none) (fun r hr x hx hp=>okl x (by rw [← hl];exact List.mem_flatMap.2 ⟨r.2,List.mem_map.2 ⟨r,hr,rfl⟩,hx⟩)) (fun x hx=>by cases hx)).2 ⟨⟨fun r hr=>hj.2 _ (List.mem_map.2 ⟨r,hr,rfl⟩),fun r hr=>g1 _ (hgm r hr),fun r hr x hx=>ha x (hmem _ (hgm r hr) x hx),fun r hr=>g2 _ (hgm r hr),?_⟩,fun x hx=>by cases hx⟩;rw [← hgs] at g3;unfold Jsy Jqc at g3;rw [List.map_map,List.pairwise_map] at g3;exact g3
 ·rw [J0m];refine ⟨rfl,?_⟩;have hkl:(listT (((Jqt (l.map (keyT s))).map (Jql l)).map listT)).kids.list=unT (((Jqt (l.map (keyT s))).map (Jql l)).map listT):=by
   unfold listT Tree.kids;rw [Hd]
  rw [hkl];have hq:∀ r∈unT (((Jqt (l.map (keyT s))).map (Jql l)).map listT),∃ g∈(Jqt (l.map (keyT s))).map (Jql l),r.2=listT g∧Jqc r.2=g:=fun r hr=>by
   obtain ⟨x,hx,rfl⟩:=List.mem_map.1 hr;obtain ⟨g,hg,rfl⟩:=List.mem_map.1 hx;exact ⟨g,hg,rfl,Jrx g⟩
  refine (Jt0 (P:=inTy q.2) (s:=s) (last:=none) (fun r hr x hx hp=>?_) (fun x hx=>by cases hx)).2 ⟨⟨fun r hr=>?_,fun r hr=>?_,fun r hr x hx=>?_,fun r hr x hx=>?_,?_⟩,fun x hx=>by cases hx⟩
  ·obtain ⟨g,hg,_,e⟩:=hq r hr;rw [e] at hx;exact okl x (hmem g hg x hx)
  ·obtain ⟨g,hg,e,_⟩:=hq r hr;rw [e];rfl
  ·obtain ⟨g,hg,_,e⟩:=hq r hr;rw [e];exact g1 g hg
  ·obtain ⟨g,hg,_,e⟩:=hq r hr;rw [e] at hx;exact ha x (hmem g hg x hx)
  ·obtain ⟨g,hg,_,e⟩:=hq r hr;rw [e] at hx ⊢;exact g2 g hg x hx
  ·unfold unT;rw [List.map_map,List.pairwise_map];refine g3.imp fun {g h} e=>?_
   show cmpT (keyT s ((Jqc (listT g)).headD nilT)) (keyT s ((Jqc (listT h)).headD nilT))<0;rw [Jrx,Jrx];exact e
theorem J6o {s:List UInt8} {n:Int} {c:Node} {q:RKT} {v:Tree} (hv:VFit v) (hL:Jsn q.2 (Je s).1) (h:inTy (.mk 8 s n c (.cons q.1 q.2 .nil)) v=true):inTy (.mk 5 [] 0 Jrp (.cons q.1 q.2 .nil)) (Jrw v)=true:=by
 obtain ⟨hk,hg⟩:=J0m.1 h;have hkid:∀ {v:Tree},VFit v→∀ x∈Jqc v,VFit x:=fun {v} hv x hx=>by
  obtain ⟨k,s',g,e,kids⟩:=v;obtain ⟨p,hp,rfl⟩:=List.mem_map.1 hx;exact hv.kid hp
 have hG:=((Jt0 (P:=inTy q.2) (s:=s) (l:=v.kids.list) (last:=none) (fun r hr x hx hp=>by
  obtain ⟨w,_,h2,_,_,h5⟩:=J26 hL (hkid (hkid hv r.2 (List.mem_map.2 ⟨r,hr,rfl⟩)) x hx) hp;rw [h5];exact h2) (fun x hx=>by cases hx)).1 hg).1
 have hj:v.kind=5∧∀ x∈Jqc v,x.kind=5:=⟨hk,fun x hx=>by obtain ⟨r,hr,rfl⟩:=List.mem_map.1 hx;exact hG.kind r hr⟩
 rw [Jrw,if_pos hj,Jxn,Jrx];refine ⟨rfl,fun x hx=>?_⟩;obtain ⟨y,hy,hx⟩:=List.mem_flatMap.1 hx;obtain ⟨r,hr,rfl⟩:=List.mem_map.1 hy;exact hG.all r hr x hx
def strT (s:List UInt8):Tree:=.mk 4 s false 0 .nil
def entryT (key x:Tree):Tree:=.mk 6 [] false 0 (.cons sKey key (.cons sVal x .nil))
def entsO (l:List KT):List Tree:=l.map fun p=>entryT (strT p.1) p.2
def Jrd (l:List Tree):Nat:=(l.map fun t=>(t.enc []).length).sum
theorem Js5 (t:Tree) (l:List Tree):Jrd (t :: l)=(t.enc []).length+Jrd l:=by simp [Jrd]
theorem Jw1 (a b:List Tree):Jrd (a ++ b)=Jrd a+Jrd b:=by simp [Jrd]
theorem J24:∀ l:List Tree,(A1 (unT l)).enc.length=Jrd l
 | []=>by
  rw [show A1 (unT [])=.nil from rfl,Bl];rfl
 | t :: l=>by
  rw [show A1 (unT (t :: l))=.cons [] t (A1 (unT l)) from rfl,A0,List.length_append,J24 l,Js5]
theorem Jvb (l:List Tree):((listT l).enc []).length=Jrd l+1:=by
 unfold listT;rw [A6,List.length_cons,J24]
theorem J6p (l:List Tree):Jqm l=A4 (unT l):=by
 unfold Jqm A4 unT;rw [List.map_map];rfl
theorem Jxp (l:List KT):A4 l=Jqm (l.map (·.2)):=by
 unfold Jqm A4;rw [List.map_map];rfl
theorem J7b (l:List Tree):unn (unT l)=unT l:=by
 unfold unn unT;rw [List.map_map];rfl
theorem Jsr (t:Tree):Jrd (Jqc t)+1=(t.enc []).length:=by
 obtain ⟨k,s,g,e,kids⟩:=t;rw [A6,List.length_cons];have:∀ f:Forest,Jrd (f.list.map (·.2))=f.enc.length:=by
  intro f
  induction f using Forest.rec (motive_1:=fun _=>True) with
  | mk=>trivial
  | nil=>rw [Bl];rfl
  | cons nm t r _ ih=>rw [A0,List.length_append,Forest.list,List.map_cons,Js5,ih,G7 t nm]
 show Jrd (kids.list.map (·.2))+1=_;rw [this]
theorem Jtx:∀ l:List Tree,l.length≤Jrd l
 | []=>Nat.le_refl _
 | t :: l=>by
  have:=Jtx l;have:=Et t [];rw [Js5,List.length_cons];omega
theorem Jt1:∀ {l:List Tree} {t:Tree},t∈l→(t.enc []).length≤Jrd l
 | u :: l,t,h=>by
  rw [Js5];rcases List.mem_cons.1 h with rfl | h
  ·omega
  ·have:=Jt1 h;omega
theorem J67 (ks:List Tree) (f:Nat→Nat) (i:Nat):∀ l:List Nat,((insI ks i l).map f).sum=f i+(l.map f).sum
 | []=>by simp [insI]
 | j :: l=>by
  rw [insI];split
  ·rw [List.map_cons,List.sum_cons,J67 ks f i l,List.map_cons,List.sum_cons];omega
  ·rw [List.map_cons,List.sum_cons]
theorem J5h (ks:List Tree) (f:Nat→Nat):∀ n:Nat,((Jt5 ks n).map f).sum=((List.range n).map f).sum
 | 0=>rfl
 | n+1=>by rw [Jt5,J67,J5h ks f n,List.range_succ,List.map_append,List.sum_append];simp;omega
theorem Jxo {l ks:List Tree} (h:ks.length=l.length):Jrd (Jql l (Jqv ks))=Jrd l:=by
 conv=>rhs;rw [← Jwk l]
 unfold Jrd Jql;rw [List.map_map,List.map_map];unfold Jqv;rw [J5h,h]
theorem J2b:∀ gs:List (List Tree),Jrd (gs.map listT)=gs.length+Jrd gs.flatten
 | []=>rfl
 | g :: gs=>by
  rw [List.map_cons,Js5,Jvb,J2b gs,List.length_cons,List.flatten_cons,Jw1];omega
theorem Jxc (l:List Tree) (h:Jrd l≤999999):Det cx 45 [.p (.sl (Jqm l))] [] (.p (.sl (valL ((listT l).enc [])))) []:=by
 have hL:=Tt (unT l) (by rw [J7b,J24];exact h);rw [J7b,← J6p] at hL;exact hL
theorem row0 (v:Tree):∃ r:Nat→PV,(valL (v.enc []))[0]? = some [.int .i64 v.kind,r 0,r 1,r 2,r 3,r 4]:=by
 obtain ⟨k,s,g,e,kids⟩:=v;exact ⟨fun i=>([.int .i64 kids.len,.str [],.str s,.bool g,.int .i64 e]:List PV).getD i .snil,Cc [] k s g e kids⟩
theorem J7v (v:Tree) (hv:(v.enc []).length≤1000000):Det cx 26 [.p (.sl (valL (v.enc [])))] [] (.p (.sl (Jqm (Jqc v)))) []:=by
 obtain ⟨k,s',g,e,kids⟩:=v;have hP:=Dy [] k s' g e kids (by rw [A6,List.length_cons] at hv;omega);rw [Jxp] at hP;exact hP
theorem J2p:okT nilT:=by
 unfold nilT;rw [Lu];exact ⟨by decide,Sb 0,I6⟩
theorem J9q {x:Step} {t u:Tree} (ht:okT t) (h:Jru x t=.ok u):okT u:=by
 have hk:∀ p∈t.kids.list,okT p.2:=by
  obtain ⟨k,s,g,e,kids⟩:=t;exact fun p hp=>Jut ht hp
 unfold Jru at h;split at h
 ·cases h;exact J2p
 ·split at h
  ·split at h
   ·cases h;cases hq:t.kids.list[x.n.toNat]? with
    | none=>exact J2p
    | some p=>exact hk p (List.mem_of_getElem? hq)
   ·cases h
  ·split at h
   ·cases h;cases hq:Ch x.name t.kids.list with
    | none=>exact J2p
    | some w =>
     obtain ⟨p,hp,rfl,_⟩:=H2 hq;exact hk p hp
   ·cases h
theorem J10:∀ {p:List Step} {t u:Tree},okT t→Jro p t=.ok u→okT u
 | [],t,u,ht,h=>by rw [Jro] at h;cases h;exact ht
 | x :: p,t,u,ht,h=>by
  rw [Jro] at h;cases hs:Jru x t with
  | ok w=>rw [hs] at h;exact J10 (J9q ht hs) h
  | error e=>rw [hs] at h;cases h
theorem J40 {p:List Step}:∀ {l ks:List Tree},okK l→Jrr p l=.ok ks→okK ks∧ks.length=l.length∧∀ n,(∀ t∈l,(t.enc []).length≤n)→∀ t∈ks,(t.enc []).length≤n
 | [],ks,_,h=>by rw [Jrr] at h;cases h;exact ⟨fun _ h=>(by cases h),rfl,fun _ _ _ h=>(by cases h)⟩
 | t :: l,ks,ho,h=>by
  rw [Jrr] at h;cases hf:Jro p t with
  | error e=>rw [hf] at h;cases h
  | ok u =>
   rw [hf] at h;cases hk:Jrr p l with
   | error e=>rw [hk] at h;cases h
   | ok ks' =>
    rw [hk] at h;cases h;obtain ⟨a,b,c⟩:=J40 (fun x hx=>ho x (List.mem_cons_of_mem _ hx)) hk;refine ⟨fun x hx=>?_,by rw [List.length_cons,List.length_cons,b],fun n hn x hx=>?_⟩
    ·rcases List.mem_cons.1 hx with rfl | hx
     ·exact J10 (ho t List.mem_cons_self) hf
     ·exact a x hx
    ·rcases List.mem_cons.1 hx with rfl | hx
     ·exact Nat.le_trans (J2m hf) (hn t List.mem_cons_self)
     ·exact c n (fun y hy=>hn y (List.mem_cons_of_mem _ hy)) x hx
theorem J11 {p:List Step}:∀ {l:List Tree} {e:Nat},Jrr p l=.error e→e=5
 | [],e,h=>by rw [Jrr] at h;cases h
 | t :: l,e,h=>by
  rw [Jrr] at h;cases hf:Jro p t with
  | error e'=>rw [hf] at h;cases h;exact Jwe hf
  | ok u =>
   rw [hf] at h;cases hk:Jrr p l with
   | error e'=>rw [hk] at h;cases h;exact J11 hk
   | ok ks'=>rw [hk] at h;cases h
def J5f:Except Nat (List Tree)→L
 | .ok ks=>.tup [.sl (Jqm ks),.int .i64 0]
 | .error e=>.tup [.snil,.int .i64 e]
def preK (us:List Tree):Except Nat (List Tree)→Except Nat (List Tree)
 | .ok ks=>.ok (us ++ ks)
 | .error e=>.error e
theorem J5p {p:List Step} {us l:List Tree} {t u:Tree} (h:Jro p t=.ok u):preK us (Jrr p (t :: l))=preK (us ++ [u]) (Jrr p l):=by
 rw [Jrr,h];cases Jrr p l with
 | ok ks=>simp [preK]
 | error e=>rfl
theorem J9i (p:List Step) (l:List Tree) (hp:p.length≤1000000) (hok:∀ x∈p,Bc x) (hl:l.length≤1000000) (hv:∀ t∈l,(t.enc []).length≤1000000):Det cx 160 [.p (.sl (Bb p)),.p (.sl (Jqm l))] [] (J5f (Jrr p l)) []:=by
 (refine bgo Tryz.func160 ?_;simp only [go_sem,simprocAttr]);refine Jq0 (B1 [(10,32)] _ sm) ?_;simp only [go_sem,simprocAttr];refine SWP.loop (fun x:Nat×List Tree=>⟨Ba 34 [(0,.p (.sl (Bb p))),(1,.p (.sl (Jqm l))),(6,.own 32 0 x.2.length),(7,.p (.int .i64 x.1))],[(32,.row 25 1 (Jqm x.2))]⟩) (fun x=>x.1≤l.length∧x.2.length=x.1∧Jrr p l=preK x.2 (Jrr p (l.drop x.1))) (fun x=>l.length - x.1) (0,[]) Jqb ⟨Nat.zero_le _,rfl,by rw [List.drop_zero];cases Jrr p l <;> rfl⟩ ?_;rintro ⟨k,us⟩ ⟨hk,h2,h3⟩;simp only at hk h2 h3;by_cases hlt:¬ k<l.length
 ·have hk2:k=l.length:=by omega
  have c1:((k:Int)<(l.length:Int))=False:=eq_false omg;rw [hk2,List.drop_length,Jrr,preK,List.append_nil] at h3;have ht2:(Jqm us).take us.length=Jqm us:=List.take_of_length_le sm;rw [h3,J5f];(refine lws ?_;simp only [go_sem,simprocAttr,Jqq,c1,ht2,Nat.le_refl])
  skip
 ·have hlt:=Decidable.not_not.1 hlt;have c1:((k:Int)<(l.length:Int))=True:=eq_true omg;obtain ⟨t,ht⟩:∃ t,l[k]? = some t:=⟨_,List.getElem?_eq_getElem hlt⟩
  have hg:=Jr4 ht;have hF:=Jwi p t hp hok (hv t (List.mem_of_getElem? ht));have hd:l.drop k=t :: l.drop (k+1):=by rw [List.drop_eq_getElem_cons hlt];congr 1;rw [List.getElem?_eq_getElem hlt] at ht;exact Option.some.inj ht
  rw [hd] at h3;cases hf:Jro p t with
  | error e =>
   rw [hf,getR] at hF;have h5:=Jwe hf;subst h5;rw [Jrr,hf] at h3;have h3:Jrr p l=.error 5:=h3;rw [h3,J5f];(refine lws ?_;simp only [go_sem,simprocAttr,Jqq,c1,hg]);(repeat' (first | ((refine Jqa (hF) ?_);simp only [go_sem,simprocAttr]) | fail))
  | ok u =>
   rw [hf,getR] at hF;rw [J5p hf] at h3;have ha:Jqm us ++ [[.sl (valL (u.enc []))]]=Jqm (us ++ [u]):=(Jvs us [u]).symm;have hn:us.length+1=(us ++ [u]).length:=by simp
   (refine lws ?_;simp only [go_sem,simprocAttr,Jqq,c1,hg,wj1 (i:=k) omg]);(repeat' (first | (refine And.intro (by first | (simp;done)|(simp;omega)) ?_)|(refine Jqe ?_)|((refine Jqa (hF) ?_);simp only [go_sem,simprocAttr,Jqq,ha,wj1 (i:=k) omg]) | fail));exact ⟨(k+1,us ++ [u]),⟨by simp only;omega,by simp only;rw [← hn];omega,h3⟩,by simp only;omega,by simp only;rw [← hn];exact Jqb⟩
theorem sortE_no {grp:Bool} {s:List UInt8} {v:Tree} (h:¬ v.kind=5):Jtz grp s v=.error 5:=by unfold Jtz;rw [if_neg h]
theorem J8i {grp:Bool} {s:List UInt8} {v:Tree} {e:Nat} (h:v.kind=5) (hk:Jrr (Je s).1 (Jqc v)=.error e):Jtz grp s v=.error e:=by unfold Jtz;rw [if_pos h,hk]
theorem sortE_s {s:List UInt8} {v:Tree} {ks:List Tree} (h:v.kind=5) (hk:Jrr (Je s).1 (Jqc v)=.ok ks):Jtz false s v=.ok (listT (Jql (Jqc v) (Jqv ks))):=by unfold Jtz;rw [if_pos h,hk];rfl
theorem sortE_g {s:List UInt8} {v:Tree} {ks:List Tree} (h:v.kind=5) (hk:Jrr (Je s).1 (Jqc v)=.ok ks):Jtz true s v=.ok (listT ((Jqt ks).map fun g=>listT (Jql (Jqc v) g))):=by unfold Jtz;rw [if_pos h,hk];rfl
theorem Jz4 (l ks:List Tree):((Jqt ks).map fun g=>listT (Jql l g))=((Jqt ks).map (Jql l)).map listT:=by rw [List.map_map];rfl
theorem J51 {l ks:List Tree} (ok:okK ks):((Jqt ks).map (Jql l)).flatten=Jql l (Jqv ks):=by
 rw [J1w];show Jql l (Jq6 (Jrz ks (Jqv ks))).flatten=_;rw [Juk (Jta ok)]
theorem J47:∀ {gs:List (List Nat)},(∀ g∈gs,g≠[])→gs.length≤gs.flatten.length
 | [],_=>Nat.le_refl _
 | g :: gs,h=>by
  have:=J47 (gs:=gs) fun q hq=>h q (List.mem_cons_of_mem _ hq)
  have:0<g.length:=List.length_pos_iff.2 (h g List.mem_cons_self);rw [List.length_cons,List.flatten_cons,List.length_append];omega
theorem Jvz:∀ {l:List Nat} {x:Nat},x∈l→x≤l.sum
 | y :: l,x,h=>by
  rw [List.sum_cons];rcases List.mem_cons.1 h with rfl | h
  ·omega
  ·have:=Jvz h;omega
theorem Jyk {l ks:List Tree} (ok:okK ks) (h:ks.length=l.length):Jrd ((Jqt ks).map fun g=>listT (Jql l g))≤2 * Jrd l:=by
 rw [Jz4,J2b,J51 ok,Jxo h,List.length_map];have hn:=Jve (Jta ok);have h1:(Jq6 (Jrz ks (Jqv ks))).length≤(Jq6 (Jrz ks (Jqv ks))).flatten.length:=J47 hn;rw [Juk (Jta ok),Jsq,h] at h1;have:=Jtx l;show (Jq6 (Jrz ks (Jqv ks))).length+_≤_;omega
theorem J5w (op m:Int) (nm s:List UInt8) (n:Int) (c:Node) (v:Tree) (hop:op=12∨op=13) (hs:s.length≤1000000) (ok:okT v) (hv:(v.enc []).length≤400000):Det cx 82 [.p (.agg [.int .i64 op,.int .i64 m,.str nm,.str s,.int .i64 n,.int .i64 c.kind,.int .i64 c.many,.str c.name,.str c.s,.bool c.neg,.int .i64 c.e]),.p (.sl (valL (v.enc [])))] [] (getR (Jtz (decide (op=12)) s v)) []:=by
 have hsz:=Jsr v;have hkk:=J7l ok;have hsl:=Jtx (Jqc v);by_cases hk:v.kind=5
 ·have hP:Det cx 26 [.p (.sl (valL (v.enc [])))] [] (.p (.sl (Jqm (Jqc v)))) []:=by
   obtain ⟨k,s',g,e,kids⟩:=v;have hP:=Dy [] k s' g e kids (by rw [A6,List.length_cons] at hv;omega);rw [Jxp] at hP;exact hP
  obtain ⟨r,hg0⟩:=row0 v;rw [hk] at hg0;have hpt:=d_path10 s hs;obtain ⟨hpl,hpo⟩:=Jw0 s;have hK:=J9i (Je s).1 (Jqc v) omg hpo omg (fun t ht=>by have:=Jt1 ht;omega);cases hke:Jrr (Je s).1 (Jqc v) with
  | error e =>
   have h5:=J11 hke;subst h5;rw [hke,J5f] at hK;rw [J8i hk hke,getR];(refine bgo Tryz.func82 ?_;simp only [go_sem,simprocAttr,hg0]);(repeat' (first | ((first | (refine Jqa (hP) ?_)|(refine Jqa (hpt) ?_)|(refine Jqa (hK) ?_));simp only [go_sem,simprocAttr]) | fail))
  | ok ks =>
   rw [hke,J5f] at hK;obtain ⟨okk,hkl,hks⟩:=J40 hkk hke;have hks:=hks 400000 fun t ht=>by have:=Jt1 ht;omega
   have hokT:okTs ks:=⟨by omega,fun t ht=>⟨okk t ht,by have:=hks t ht;omega⟩⟩
   rcases hop with rfl | rfl
   ·have hG:=J8n ks hokT;have hgsz:=Jyk (l:=Jqc v) okk hkl;rw [show decide ((12:Int)=12)=true from rfl,sortE_g hk hke,getR];have hgm:∀ g∈Jqt ks,(∀ i∈g,i<(Jqc v).length)∧g.length≤(Jqc v).length∧Jrd (Jql (Jqc v) g)≤2 * Jrd (Jqc v):=fun g hg=>by
     have hfl:=Juk (Jta okk);have hin:∀ i∈g,i∈Jqv ks:=fun i hi=>by rw [← hfl];exact List.mem_flatten.2 ⟨g,hg,hi⟩
     refine ⟨fun i hi=>by have:=Jrs.1 (hin i hi);omega,?_,?_⟩
     ·have h1:=List.length_flatten (L:=Jq6 (Jrz ks (Jqv ks)));rw [hfl,Jsq] at h1;have h2:=Jvz (List.mem_map.2 ⟨g,hg,rfl⟩:g.length∈(Jq6 (Jrz ks (Jqv ks))).map List.length);omega
     ·have h2:=Jt1 (List.mem_map.2 ⟨g,hg,rfl⟩:listT (Jql (Jqc v) g)∈(Jqt ks).map fun g=>listT (Jql (Jqc v) g));rw [Jvb] at h2;omega
    have hgl:(Jqt ks).length≤2 * Jrd (Jqc v):=by
     have:=Jtx ((Jqt ks).map fun g=>listT (Jql (Jqc v) g));rw [List.length_map] at this;omega
    have hL:=Jxc ((Jqt ks).map fun g=>listT (Jql (Jqc v) g)) omg;generalize Jqt ks=G at *
    (refine bgo Tryz.func82 ?_;simp only [go_sem,simprocAttr,hg0]);(repeat' (first | ((first | (refine Jqa (hP) ?_)|(refine Jqa (hpt) ?_)|(refine Jqa (hK) ?_)|(refine Jqa (hG) ?_));simp only [go_sem,simprocAttr]) | fail));refine Jq0 (B1 [(40,56)] _ sm) ?_;simp only [go_sem,simprocAttr];refine SWP.loop (fun k:Nat=>⟨Ba 59 [(6,.p (.sl (Jqm (Jqc v)))),(9,.p (.sl (Jrv G))),(10,.own 56 0 k),(11,.p (.int .i64 k))],[(56,.row 25 1 (Jqm ((G.take k).map fun g=>listT (Jql (Jqc v) g))))]⟩) (fun k=>k≤G.length) (fun k=>G.length - k) 0 Jqb (Nat.zero_le _) ?_;rintro k hk';by_cases hlt:¬ k<G.length
    ·obtain rfl:k=G.length:=by omega
     have c1:((G.length:Int)<(G.length:Int))=False:=eq_false omg;have ht1:G.take G.length=G:=List.take_of_length_le (Nat.le_refl _);have ht2:(Jqm (G.map fun g=>listT (Jql (Jqc v) g))).take G.length=Jqm (G.map fun g=>listT (Jql (Jqc v) g)):=List.take_of_length_le sm;have hle:(G.length≤G.length)=True:=eq_true (Nat.le_refl _);have hln:(Jqm (G.map fun g=>listT (Jql (Jqc v) g))).length=G.length:=by simp
     (refine lws ?_;simp only [go_sem,simprocAttr,Jtr,c1,ht1,ht2,hln,hle]);(repeat' (first | ((refine Jqa (hL) ?_);simp only [go_sem,simprocAttr]) | fail))
    ·have hlt:=Decidable.not_not.1 hlt;have c1:((k:Int)<(G.length:Int))=True:=eq_true omg;obtain ⟨g,hg⟩:∃ g,G[k]? = some g:=⟨_,List.getElem?_eq_getElem hlt⟩
     have hgg:=J55 hg;obtain ⟨m1,m2,m3⟩:=hgm g (List.mem_of_getElem? hg);have hPk:=J69 (Jqc v) g m1 omg omg;have hLk:=Jxc (Jql (Jqc v) g) omg;have hpl2:(Jqm ((G.take k).map fun g=>listT (Jql (Jqc v) g))).length=k:=by rw [Jqq,List.length_map,List.length_take];omega
     have htk:Jqm ((G.take (k+1)).map fun g=>listT (Jql (Jqc v) g))=Jqm ((G.take k).map fun g=>listT (Jql (Jqc v) g)) ++ [[.sl (valL ((listT (Jql (Jqc v) g)).enc []))]]:=by
      rw [List.take_add_one,hg,Option.toList_some,List.map_append,Jvs];rfl
     (refine lws ?_;simp only [go_sem,simprocAttr,Jtr,c1,hgg,wj1 (i:=k) omg]);(repeat' (first | (refine And.intro (by first | (simp;done)|(simp;omega)) ?_)|(refine Jqe ?_)|((first | (refine Jqa (hPk) ?_)|(refine Jqa (hLk) ?_));simp only [go_sem,simprocAttr,hpl2,wj1 (i:=k) omg]) | fail));exact ⟨k+1,by omega,by omega,by rw [htk];exact Jqb⟩
   ·have hS:=J65 ks hokT;have hPk:=J69 (Jqc v) (Jqv ks) (fun i hi=>by have:=Jrs.1 hi;omega) (by rw [Jsq];omega) omg;have hL:=Jxc (Jql (Jqc v) (Jqv ks)) (by rw [Jxo hkl];omega);rw [show decide ((13:Int)=12)=false from rfl,sortE_s hk hke,getR];(refine bgo Tryz.func82 ?_;simp only [go_sem,simprocAttr,hg0]);(repeat' (first | ((first | (refine Jqa (hP) ?_)|(refine Jqa (hpt) ?_)|(refine Jqa (hK) ?_)|(refine Jqa (hS) ?_)|(refine Jqa (hPk) ?_)|(refine Jqa (hL) ?_));simp only [go_sem,simprocAttr]) | fail))
 ·rw [sortE_no hk,getR];obtain ⟨k,s',g,e,kids⟩:=v;have c1:(k=5)=False:=eq_false hk;(refine bgo Tryz.func82 ?_;simp only [go_sem,simprocAttr,Cc,c1,not_false_eq_true])
  all_goals rfl
theorem J17 {α:Type} {l:List α} {k:Nat} {x:α} (h:l[k]? = some x):l.take (k+1)=l.take k ++ [x]:=by rw [List.take_add_one,h,Option.toList_some]
theorem J3c (l:List Tree) (i:Nat):Jrd (l.take i)≤Jrd l:=by
 conv=>rhs;rw [← List.take_append_drop i l,Jw1]
 omega
def oneQ (op:Int) (s:List UInt8):List (List PV):=[[.int .i64 op,.int .i64 0,.str [],.str s,.int .i64 0,.int .i64 0,.int .i64 0,.str [],.str [],.bool false,.int .i64 0]]
theorem J0b (op:Int) (s:List UInt8) (v:Tree) (hop:op=12∨op=13) (hs:s.length≤1000000) (ok:okT v) (hv:(v.enc []).length≤400000):Det cx 25 [.p (.sl (oneQ op s)),.p (.sl (valL (v.enc [])))] [] (getR (Jtz (decide (op=12)) s v)) []:=by
 have hS:=J5w op 0 [] s 0 Jrp v hop hs ok hv;cases hr:Jtz (decide (op=12)) s v with
 | ok x =>
  rw [hr,getR] at hS;rw [getR];unfold oneQ;rcases hop with rfl | rfl
  ·(refine bgo Tryz.func25 ?_;simp only [go_sem,simprocAttr]);(repeat' (first | ((refine Jqa (hS) ?_);simp only [go_sem,simprocAttr]) | fail))
  ·(refine bgo Tryz.func25 ?_;simp only [go_sem,simprocAttr]);(repeat' (first | ((refine Jqa (hS) ?_);simp only [go_sem,simprocAttr]) | fail))
 | error e =>
  rw [hr,getR] at hS;rw [getR];unfold oneQ;rcases hop with rfl | rfl
  ·(refine bgo Tryz.func25 ?_;simp only [go_sem,simprocAttr]);(repeat' (first | ((refine Jqa (hS) ?_);simp only [go_sem,simprocAttr]) | fail))
  ·(refine bgo Tryz.func25 ?_;simp only [go_sem,simprocAttr]);(repeat' (first | ((refine Jqa (hS) ?_);simp only [go_sem,simprocAttr]) | fail))
theorem J5l (v:Tree) (ok:okT v) (hv:(v.enc []).length≤100000):Det cx 24 [.p (.sl (valL (v.enc [])))] [] (.p (.sl (valL ((Jrw v).enc [])))) []:=by
 have hsz:=Jsr v;have hkk:=J7l ok;have hsl:=Jtx (Jqc v);by_cases hk:v.kind=5
 ·have hP:Det cx 26 [.p (.sl (valL (v.enc [])))] [] (.p (.sl (Jqm (Jqc v)))) []:=by
   obtain ⟨k,s',g,e,kids⟩:=v;have hP:=Dy [] k s' g e kids (by rw [A6,List.length_cons] at hv;omega);rw [Jxp] at hP;exact hP
  obtain ⟨r,hg0⟩:=row0 v;rw [hk] at hg0;have hjt:Jrw v=if ∀ x∈Jqc v,x.kind=5 then listT ((Jqc v).flatMap Jqc) else nilT:=by
   unfold Jrw;by_cases h:∀ x∈Jqc v,x.kind=5
   ·rw [if_pos ⟨hk,h⟩,if_pos h]
   ·rw [if_neg (fun e=>h e.2),if_neg h]
  rw [hjt];have hfs:∀ i,Jrd ((((Jqc v).take i)).flatMap Jqc)≤Jrd ((Jqc v).take i):=by
   intro i
   induction (Jqc v).take i with
   | nil=>exact Nat.le_refl _
   | cons t l ih =>
    have:=Jsr t;rw [List.flatMap_cons,Jw1,Js5];omega
  have hpart:∀ t∈Jqc v,Det cx 26 [.p (.sl (valL (t.enc [])))] [] (.p (.sl (Jqm (Jqc t)))) []∧∃ r:Nat→PV,(valL (t.enc []))[0]? = some [.int .i64 t.kind,r 0,r 1,r 2,r 3,r 4]:=fun t ht=>by
   have hl:=Jt1 ht;exact ⟨J7v t omg,row0 t⟩
  generalize Jqc v=l at *
  (refine bgo Tryz.func24 ?_;simp only [go_sem,simprocAttr,hg0]);(repeat' (first | ((refine Jqa (hP) ?_);simp only [go_sem,simprocAttr]) | fail));refine Jq0 (B1 [(13,38)] _ sm) ?_;simp only [go_sem,simprocAttr];refine SWP.loop (fun i:Nat=>⟨Ba 41 [(3,.own 38 0 ((l.take i).flatMap Jqc).length),(4,.p (.sl (Jqm l))),(5,.p (.int .i64 i))],[(38,.row 25 1 (Jqm ((l.take i).flatMap Jqc)))]⟩) (fun i=>i≤l.length∧∀ x∈l.take i,x.kind=5) (fun i=>l.length - i) 0 Jqb ⟨Nat.zero_le _,by simp⟩ ?_;rintro i ⟨hi,ha⟩;have hfi:=hfs i;have hti:=J3c l i;have hsi:=Jtx ((l.take i).flatMap Jqc);by_cases hlt:i<l.length
  ·have c1:((i:Int)<(l.length:Int))=True:=eq_true omg;obtain ⟨t,ht⟩:∃ t,l[i]? = some t:=⟨_,List.getElem?_eq_getElem hlt⟩
   have hg:=Jr4 ht;obtain ⟨hPt,rt,hgt⟩:=hpart t (List.mem_of_getElem? ht);have htm:=Jt1 (List.mem_of_getElem? ht);have hkt:=Jsr t;have hkl:=Jtx (Jqc t);by_cases k5:t.kind=5
   ·have c5:=eq_true k5;have htk:(l.take (i+1)).flatMap Jqc=(l.take i).flatMap Jqc ++ Jqc t:=by rw [J17 ht,List.flatMap_append,List.flatMap_cons,List.flatMap_nil,List.append_nil]
    have hap:Jqm ((l.take i).flatMap Jqc) ++ Jqm (Jqc t)=Jqm ((l.take (i+1)).flatMap Jqc):=by rw [htk,Jvs]
    have hln:((l.take (i+1)).flatMap Jqc).length=((l.take i).flatMap Jqc).length+(Jqc t).length:=by rw [htk,List.length_append]
    have hel:=treeL_el (Jqc t);(refine lws ?_;simp only [go_sem,simprocAttr,Jqq,c1,c5,hg,hgt,Jqq,wj1 (i:=i) omg]);(repeat' (first | (refine And.intro (by first | exact hel | (simp;done)|(simp;omega)) ?_)|(refine Jqe ?_)|((refine Jqa (hPt) ?_);simp only [go_sem,simprocAttr,Jqq,hap,Jqq,wj1 (i:=i) omg]) | fail))
    all_goals exact ⟨i+1,⟨by omega,fun x hx=>by
     rw [J17 ht] at hx;rcases List.mem_append.1 hx with hx | hx
     ·exact ha x hx
     ·simp only [List.mem_singleton] at hx;subst hx;exact k5⟩,by omega,by rw [hln];exact Jqb⟩
   ·have c5:=eq_false k5;rw [if_neg (fun h=>k5 (h t (List.mem_of_getElem? ht))),J01];(refine lws ?_;simp only [go_sem,simprocAttr,Jqq,c1,c5,hg,hgt])
    skip
  ·obtain rfl:i=l.length:=by omega
   have c1:((l.length:Int)<(l.length:Int))=False:=eq_false omg;rw [List.take_length] at ha hfi hsi ⊢;rw [if_pos ha];have hLs:=Jxc (l.flatMap Jqc) omg;have ht2:(Jqm (l.flatMap Jqc)).take (l.flatMap Jqc).length=Jqm (l.flatMap Jqc):=List.take_of_length_le sm;(refine lws ?_;simp only [go_sem,simprocAttr,Jqq,c1,ht2,Nat.le_refl]);(repeat' (first | ((refine Jqa (hLs) ?_);simp only [go_sem,simprocAttr]) | fail))
 ·rw [show Jrw v=nilT by unfold Jrw;rw [if_neg (fun h=>hk h.1)],J01];obtain ⟨k,s',g,e,kids⟩:=v;have c1:(k=5)=False:=eq_false hk;(refine bgo Tryz.func24 ?_;simp only [go_sem,simprocAttr,Cc,c1,not_false_eq_true])
  skip
theorem J6s {k:Int} {s:List UInt8} {n:Int} {c:Node} {nm:List UInt8} {t0:RT}:Jqu (RF.cons nm t0 .nil).list=[[.sl (rowL (t0.enc []))]]:=rfl
theorem one_part {k:Int} {s:List UInt8} {n:Int} {c:Node} {kids:RF} (hk:k=7∨k=8) (ok:okR (.mk k s n c kids)):∃ t0:RT,kids=.cons [] t0 .nil∧okR t0∧t0.kind≠9∧Jsn t0 (Je s).1:=by
 obtain ⟨h1,h2,h3,h4⟩:=Jt9.1 ok;have hl:kids.len=1:=by
  unfold Jri at h1;rcases hk with rfl | rfl <;> simp at h1 <;> omega
 cases kids with
 | nil=>simp [RF.len] at hl
 | cons nm t0 r =>
  cases r with
  | cons a b c=>simp [RF.len] at hl
  | nil =>
   have hq:=h2.1 (nm,t0) List.mem_cons_self;obtain ⟨q1,q2,_⟩:=hq;have hn:nm=[]:=q2 omg;subst hn;refine ⟨t0,rfl,(Jsp.1 h4).1,fun e=>?_,h3 hk ([],t0) rfl⟩;have:=q1.1 e;omega
theorem J9b {k:Int} {s:List UInt8} {n:Int} {c:Node} {t0:RT} (h:SFit (.mk k s n c (.cons [] t0 .nil))):SFit t0:=by
 intro r hr;refine h r ?_;rw [Jqo,Jqg,Jq2,List.append_nil];exact List.mem_cons_of_mem _ hr
theorem J0w:∀ l:List Tree,(∀ x∈l,VFit x)→∀ n∈(A1 (unT l)).enc,NodeFit n
 | [],_,n,hn=>by rw [show A1 (unT [])=.nil from rfl,Bl] at hn;cases hn
 | t :: l,hl,n,hn=>by
  rw [show A1 (unT (t :: l))=.cons [] t (A1 (unT l)) from rfl,A0] at hn;rcases List.mem_append.1 hn with hn | hn
  ·exact (hl t List.mem_cons_self).fit n hn
  ·exact J0w l (fun x hx=>hl x (List.mem_cons_of_mem _ hx)) n hn
theorem Jw8 {l:List Tree} (h:∀ x∈l,VFit x) (hs:Jrd l≤999999):VFit (listT l):=by
 refine ⟨list_ok fun x hx=>(h x hx).ok,fun n hn=>?_,by rw [Jvb];omega⟩;unfold listT at hn;rw [A6] at hn;rcases List.mem_cons.1 hn with rfl | hn
 ·exact ⟨Nat.zero_le _,Nat.zero_le _,(by decide:(-9223372036854775808:Int)≤0),(by decide:(0:Int)≤9223372036854775807)⟩
 ·exact J0w l h n hn
theorem Juw {v:Tree} (hv:VFit v):∀ x∈Jqc v,VFit x:=fun x hx=>by
 obtain ⟨k,s',g,e,kids⟩:=v;obtain ⟨p,hp,rfl⟩:=List.mem_map.1 hx;exact hv.kid hp
theorem J2j:∀ l:List Tree,Jrd (l.flatMap Jqc)≤Jrd l
 | []=>Nat.le_refl _
 | t :: l=>by
  have:=Jsr t;have:=J2j l;rw [List.flatMap_cons,Jw1,Js5];omega
theorem J9e {v:Tree} (h:VFit v):VFit (Jrw v)∧((Jrw v).enc []).length≤(v.enc []).length:=by
 unfold Jrw;have h1:=Jsr v;have h2:=J2j (Jqc v);have h3:=h.len;split
 ·refine ⟨Jw8 (fun x hx=>?_) omg,by rw [Jvb];omega⟩;obtain ⟨y,hy,hx⟩:=List.mem_flatMap.1 hx;exact Juw (Juw h y hy) x hx
 ·refine ⟨⟨J2p,fun n hn=>?_,by rw [Jzp];decide⟩,by rw [Jzp];exact Et v []⟩;unfold nilT at hn;rw [A6,Bl] at hn;simp only [List.mem_cons,List.not_mem_nil,or_false] at hn;subst hn;exact ⟨Nat.zero_le _,Nat.zero_le _,(by decide:(-9223372036854775808:Int)≤0),(by decide:(0:Int)≤9223372036854775807)⟩
theorem pick_fit {l ks:List Tree} (h:∀ x∈l,VFit x) (hl:ks.length=l.length):∀ x∈Jql l (Jqv ks),VFit x:=fun x hx=>h x ((Jzn hl x).1 hx)
theorem J3f (v:List YRow) (u:List Node) (hv:TyFit v) (hu:ValFit u):Det cx 5 [.p (.sl (rowL v)),.p (.sl (valL u))] [] (.p (.bool true)) []:=by
 have hG:=d_given v u hv hu;cases b1:Jzh v 60 with
 | false =>
  rw [b1,Bool.false_and] at hG;(refine bgo Tryz.func5 ?_;simp only [go_sem,simprocAttr]);(repeat' (first | ((first | (refine Jqa (hG) ?_)|(refine Jqa (Jsh) ?_));simp only [go_sem,simprocAttr]) | fail))
 | true =>
  cases b2:fewB u 60 with
  | false =>
   rw [b1,b2] at hG;(refine bgo Tryz.func5 ?_;simp only [go_sem,simprocAttr]);(repeat' (first | ((first | (refine Jqa (hG) ?_)|(refine Jqa (Jsh) ?_));simp only [go_sem,simprocAttr]) | fail))
  | true =>
   rw [b1,b2] at hG;obtain ⟨t,ht,ht9,rfl,htl,hts⟩:=J81 b1;obtain ⟨x,hx,rfl,hxl,hxf⟩:=Fw hu b2;have hV:VFit x:=⟨hx,hxf,by omega⟩
   have hIn:=fun (y:Tree) (hy:VFit y)=>d_In 60 t htl ht ht9 hts omg y hy
   obtain ⟨k,s,m,c,kids⟩:=t;have hsl:s.length≤1000000:=hts ⟨k,kids.len,[],s,m,c⟩ (by rw [Jqo];simp);have hg0:(rowL ((RT.mk k s m c kids).enc []))[0]? = some [.int .i64 k,.int .i64 kids.len,.str [],.str s,.int .i64 m,.int .i64 c.kind,.int .i64 c.many,.str c.name,.str c.s,.bool c.neg,.int .i64 c.e]:=by rw [Jqo];rfl
   by_cases k78:k=7∨k=8
   ·obtain ⟨t0,rfl,ok0,k09,hL⟩:=one_part k78 ht;have hts0:=J9b hts;have h0l:(t0.enc []).length≤60:=by
     rw [Jqo,List.length_cons,Jqg,Jq2,List.append_nil] at htl;omega
    have hP:=J4d [] k s m c (.cons [] t0 .nil) (by rw [Jqg,Jq2,List.append_nil];omega) omg;rw [J6s (k:=k) (s:=s) (n:=m) (c:=c)] at hP;have hM:=J86 5 t0 omg;have hInL:=fun (y:Tree) (hy:VFit y)=>d_In 4000 (.mk 5 [] 0 Jrp (rfL (Js1 [[]] t0))) (by rw [Jqo,List.length_cons,Jxu];simp;omega) (J06 ok0 k09 5 1 omg) (by simp only [RT.kind];omega) (J8w hts0 5 0) (by rw [Jqo,List.length_cons,Jxu];simp;omega) y hy
    have hrf:rfL (Js1 [[]] t0)=.cons [] t0 .nil:=rfl;rw [hrf] at hM hInL;rcases k78 with rfl | rfl
    ·have hI:=hIn x hV;have hIL:=hInL x hV;cases hb:inTy (.mk 5 [] 0 Jrp (.cons [] t0 .nil)) x with
     | false =>
      have hno:inTy (.mk 7 s m c (.cons [] t0 .nil)) x=false:=by
       cases h:inTy (.mk 7 s m c (.cons [] t0 .nil)) x with
       | false=>rfl
       | true =>
        obtain ⟨a,b,_⟩:=(J29 (q:=([],t0))).1 h;have:=(Jxn (s:=[]) (n:=0) (c:=Jrp) (q:=([],t0))).2 ⟨a,b⟩;rw [this] at hb;cases hb
      rw [hb] at hIL;rw [hno] at hI;generalize rowL ((RT.mk 7 s m c (.cons [] t0 .nil)).enc [])=rows at *
      generalize rowL ((RT.mk 5 [] 0 Jrp (.cons [] t0 .nil)).enc [])=rows5 at *
      (refine bgo Tryz.func5 ?_;simp only [go_sem,simprocAttr]);(repeat' (first | ((first | (refine Jqa (hG) ?_)|(refine Jqa (Jsh) ?_)|(refine Jqa (hP) ?_)|(refine Jqa (hM) ?_)|(refine Jqa (hIL) ?_)|(refine Jqa (hI) ?_));simp only [go_sem,simprocAttr,hg0]) | fail))
     | true =>
      obtain ⟨y,e1,e2,e3,e4,e5,e6⟩:=J6n (s:=s) (n:=m) (c:=c) (q:=([],t0)) hV hL hb;have hE:=J0b 13 s x (.inr rfl) hsl hx omg;rw [show decide ((13:Int)=12)=false from rfl,e1,getR] at hE;have hkz:=Jsr x;have hpz:=Jxo (l:=Jqc x) (ks:=(Jqc x).map (keyT s)) sm;have hY:VFit y:=by
       rw [e6];exact Jw8 (pick_fit (Juw hV) sm) omg
      have hyl:=hY.len;have hIy:=hIn y hY;have e3:inTy (.mk 7 s m c (.cons [] t0 .nil)) y=true:=e3;rw [e3] at hIy;have hS:=E2 (y.enc []) (x.enc []) hyl omg;have hdec:decide (y.enc []=x.enc [])=inTy (.mk 7 s m c (.cons [] t0 .nil)) x:=by
       rw [Bool.eq_iff_iff,decide_eq_true_eq];exact ⟨fun h=>e2.2 (Jmz h).2,fun h=>by rw [e2.1 h]⟩
      rw [hdec] at hS;rw [hb] at hIL;unfold oneQ at hE;generalize inTy (.mk 7 s m c (.cons [] t0 .nil)) x=B at *
      generalize rowL ((RT.mk 7 s m c (.cons [] t0 .nil)).enc [])=rows at *
      generalize rowL ((RT.mk 5 [] 0 Jrp (.cons [] t0 .nil)).enc [])=rows5 at *
      cases B with
      | false =>
       (refine bgo Tryz.func5 ?_;simp only [go_sem,simprocAttr]);(repeat' (first | ((first | (refine Jqa (hG) ?_)|(refine Jqa (Jsh) ?_)|(refine Jqa (hP) ?_)|(refine Jqa (hM) ?_)|(refine Jqa (hIL) ?_)|(refine Jqa (hI) ?_)|(refine Jqa (hE) ?_)|(refine Jqa (hIy) ?_)|(refine Jqa (hS) ?_));simp only [go_sem,simprocAttr,hg0]) | fail))
      | true =>
       (refine bgo Tryz.func5 ?_;simp only [go_sem,simprocAttr]);(repeat' (first | ((first | (refine Jqa (hG) ?_)|(refine Jqa (Jsh) ?_)|(refine Jqa (hP) ?_)|(refine Jqa (hM) ?_)|(refine Jqa (hIL) ?_)|(refine Jqa (hI) ?_)|(refine Jqa (hE) ?_)|(refine Jqa (hIy) ?_)|(refine Jqa (hS) ?_));simp only [go_sem,simprocAttr,hg0]) | fail))
    ·have hI:=hIn x hV;obtain ⟨hJ,hjl⟩:=J9e hV;have hJd:=J5l x hx omg;have hIL:=hInL (Jrw x) hJ;cases hb:inTy (.mk 5 [] 0 Jrp (.cons [] t0 .nil)) (Jrw x) with
     | false =>
      have hno:inTy (.mk 8 s m c (.cons [] t0 .nil)) x=false:=by
       cases h:inTy (.mk 8 s m c (.cons [] t0 .nil)) x with
       | false=>rfl
       | true =>
        have:=J6o (q:=([],t0)) hV hL h;rw [this] at hb;cases hb
      rw [hb] at hIL;rw [hno] at hI;generalize rowL ((RT.mk 8 s m c (.cons [] t0 .nil)).enc [])=rows at *
      generalize rowL ((RT.mk 5 [] 0 Jrp (.cons [] t0 .nil)).enc [])=rows5 at *
      (refine bgo Tryz.func5 ?_;simp only [go_sem,simprocAttr]);(repeat' (first | ((first | (refine Jqa (hG) ?_)|(refine Jqa (Jsh) ?_)|(refine Jqa (hP) ?_)|(refine Jqa (hM) ?_)|(refine Jqa (hJd) ?_)|(refine Jqa (hIL) ?_)|(refine Jqa (hI) ?_));simp only [go_sem,simprocAttr,hg0]) | fail))
     | true =>
      obtain ⟨y,e1,e2,e3,e6,e5⟩:=J5d (s:=s) (n:=m) (c:=c) (q:=([],t0)) hV hL hb;have hE:=J0b 12 s (Jrw x) (.inl rfl) hsl hJ.ok omg;rw [show decide ((12:Int)=12)=true from rfl,e1,getR] at hE;have hkz:=Jsr (Jrw x);obtain ⟨_,hall⟩:=(Jxn (s:=[]) (n:=0) (c:=Jrp) (q:=([],t0))).1 hb;have okk:=J0c hL (Juw hJ) hall;have hgz:=Jyk (l:=Jqc (Jrw x)) okk sm;rw [Jz4] at hgz;have hY:VFit y:=by
       rw [e6];refine Jw8 (fun z hz=>?_) omg;obtain ⟨g,hg,rfl⟩:=List.mem_map.1 hz;have h1:=Jt1 (List.mem_map.2 ⟨g,hg,rfl⟩:listT g∈((Jqt ((Jqc (Jrw x)).map (keyT s))).map (Jql (Jqc (Jrw x)))).map listT);rw [Jvb] at h1;exact Jw8 (fun w hw=>Juw hJ w (e5 g hg w hw)) omg
      have hyl:=hY.len;have hIy:=hIn y hY;have e3:inTy (.mk 8 s m c (.cons [] t0 .nil)) y=true:=e3;rw [e3] at hIy;have hS:=E2 (y.enc []) (x.enc []) hyl omg;have hdec:decide (y.enc []=x.enc [])=inTy (.mk 8 s m c (.cons [] t0 .nil)) x:=by
       rw [Bool.eq_iff_iff,decide_eq_true_eq];exact ⟨fun h=>e2.2 (Jmz h).2,fun h=>by rw [e2.1 h]⟩
      rw [hdec] at hS;rw [hb] at hIL;unfold oneQ at hE;generalize inTy (.mk 8 s m c (.cons [] t0 .nil)) x=B at *
      generalize rowL ((RT.mk 8 s m c (.cons [] t0 .nil)).enc [])=rows at *
      generalize rowL ((RT.mk 5 [] 0 Jrp (.cons [] t0 .nil)).enc [])=rows5 at *
      cases B with
      | false =>
       (refine bgo Tryz.func5 ?_;simp only [go_sem,simprocAttr]);(repeat' (first | ((first | (refine Jqa (hG) ?_)|(refine Jqa (Jsh) ?_)|(refine Jqa (hP) ?_)|(refine Jqa (hM) ?_)|(refine Jqa (hJd) ?_)|(refine Jqa (hIL) ?_)|(refine Jqa (hI) ?_)|(refine Jqa (hE) ?_)|(refine Jqa (hIy) ?_)|(refine Jqa (hS) ?_));simp only [go_sem,simprocAttr,hg0]) | fail))
      | true =>
       (refine bgo Tryz.func5 ?_;simp only [go_sem,simprocAttr]);(repeat' (first | ((first | (refine Jqa (hG) ?_)|(refine Jqa (Jsh) ?_)|(refine Jqa (hP) ?_)|(refine Jqa (hM) ?_)|(refine Jqa (hJd) ?_)|(refine Jqa (hIL) ?_)|(refine Jqa (hI) ?_)|(refine Jqa (hE) ?_)|(refine Jqa (hIy) ?_)|(refine Jqa (hS) ?_));simp only [go_sem,simprocAttr,hg0]) | fail))
   ·have c7:(k=7)=False:=eq_false fun h=>k78 (.inl h)
    have c8:(k=8)=False:=eq_false fun h=>k78 (.inr h)
    generalize rowL ((RT.mk k s m c kids).enc [])=rows at *
    (refine bgo Tryz.func5 ?_;simp only [go_sem,simprocAttr]);(repeat' (first | ((first | (refine Jqa (hG) ?_)|(refine Jqa (Jsh) ?_));simp only [go_sem,simprocAttr,hg0,c7,c8]) | fail))
end Go.LX
