/- A region that draws its order: rows that are made and grown commute with what reads far values. -/
import Derived.Test.YtpdaccjebbbbaaaDoorLxQ
import Derived.Test.YtpdaccjebbbbaaaDoorLxP
set_option linter.unusedSimpArgs false
set_option linter.unusedVariables false
set_option linter.unusedSectionVars false
set_option linter.unnecessarySimpa false
namespace Go.LX
open Go Go.RowKit Go.Proofs
section
variable {X:Cx} {ro:Option Nat} {ops:Array Oper}
theorem J1y {s:St} {d:Nat} {dst:Option Tmp} {v:L} (hv:farL v=true):(s.put dst v).forget d=(s.forget d).put dst v:=by
 cases dst with
 | none=>rfl
 | some x=>simp only [St.put,St.forget,List.map_set,Jtf hv]
theorem Jwv {s:St} {d:Nat} {y:Operand} (hf:farL (s.get y)=true):(s.forget d).get y=s.get y:=by
 cases y with
 | tmp i =>
  simp only [St.get,St.forget,List.getD_eq_getElem?_getD,List.getElem?_map] at hf ⊢;cases hi:s.tmps[i]? with
  | none=>rfl
  | some m =>
   rw [hi] at hf;simp only [Option.map_some,Option.getD_some] at hf ⊢;exact Jtf hf
 | _=>rfl
def Comm (X:Cx) (o:Oper):Prop:=∀ (s:St) (dst:Option Tmp) (v:L) (C:St→Prop),farL v=true→(∀ x,dst=some x→∀ y∈o.op.operands.toList,y≠.tmp x)→(∀ x d,dst=some x→o.dst=some d→x≠d)→lop X o C (s.put dst v) →
 lop X o (fun s'=>C (s'.put dst v)∧∀ y,(∀ d,o.dst=some d→y≠.tmp d)→farL (s.get y)=true→s'.get y=s.get y) s
def isMk (kp:Nat→Bool) (o:Oper):Bool:=o.guard.isNone && match o.op,o.dst with
 | .buildSlice t _ parts,some _=>!kp t && decide (parts.toList.length≤1)
 | .makeSlice ..,some _=>true
 | .store ..,none=>true
 | .mapEntry ..,some _=>true
 | .entryStore ..,none=>true
 | .call { callee:=.builtin .append,args,argTypes },some _=>decide (args.toList.length=2) && (decide (argTypes.toList.length=2) && argTypes.toList.all fun t=>!kp t)
 | _,_=>false
theorem Jts {s:St} {xs:List Operand} {dst:Option Tmp} {v:L} (hl:xs.length≤1) (hv:farL v=true) (hx:∀ d,dst=some d→∀ x∈xs,x≠.tmp d):(s.put dst v).freezeOps xs=(s.freezeOps xs).put dst v:=by
 match xs,hl with
 | [],_=>rfl
 | [x],_=>exact Jug hv fun d hd=>hx d hd x List.mem_cons_self
theorem Jsm {s:St} {xs:List Operand} {y:Operand} (hl:xs.length≤1) (hf:farL (s.get y)=true):(s.freezeOps xs).get y=s.get y:=by
 match xs,hl with
 | [],_=>rfl
 | [x],_=>exact Jud hf
theorem Jte {s:St} {d:Nat} {r:Reg} {l:L} {y:Operand} (hy:y≠.tmp d) (hf:farL (s.get y)=true):((s.newReg d r).put (some d) l).get y=s.get y:=J3h hy hf
theorem J09 {P:Program} {t:TypeId} {s:St} {a x:Operand} {K K':St→Prop} (hk:∀ s,K s→K' s) (h:Nv P t s a x K):Nv P t s a x K':=by
 unfold Nv at h ⊢;split at h
 ·split at h
  ·obtain ⟨xs,g1,g2,g3,g4,g5,hC⟩:=h;exact ⟨xs,g1,g2,g3,g4,g5,hk _ hC⟩
  ·obtain ⟨xs,g1,ps,g2,e,g3,g4,g5,g6,g7,g8,hC⟩:=h;exact ⟨xs,g1,ps,g2,e,g3,g4,g5,g6,g7,g8,hk _ hC⟩
  ·obtain ⟨xs,g1,e,g2,g3,g4,g5,hC⟩:=h;exact ⟨xs,g1,e,g2,g3,g4,g5,hk _ hC⟩
  ·exact h.elim
  ·exact h.elim
 ·exact h.elim
theorem J56 {o:Oper} (h:isMk X.keep o=true):Comm X o:=by
 intro s dst v C hv hop hne hl;obtain ⟨od,op,ty,ps,af,g⟩:=o;cases g with
 | some g=>simp [isMk] at h
 | none =>
 cases od with
 | none =>
  cases op with
  | store t a x =>
   have hox:∀ z,dst=some z→x≠.tmp z:=fun z hz=>hop z hz x (by simp [Op.operands])
   have hoa:∀ z,dst=some z→a≠.tmp z:=fun z hz=>hop z hz a (by simp [Op.operands])
   simp only [lop] at hl ⊢;exact J09 (fun s' ⟨h1,h2⟩=>⟨h1,fun y _ hf=>h2 y hf⟩) (J12 hv hoa hox hl)
  | entryStore t m e x =>
   have hox:∀ z,dst=some z→x≠.tmp z:=fun z hz=>hop z hz x (by simp [Op.operands])
   have hom:∀ z,dst=some z→m≠.tmp z:=fun z hz=>hop z hz m (by simp [Op.operands])
   have hoe:∀ z,dst=some z→e≠.tmp z:=fun z hz=>hop z hz e (by simp [Op.operands])
   have hops:∀ z,dst=some z→∀ y∈[x],y≠.tmp z:=fun z hz y hy=>by rw [List.mem_singleton.1 hy];exact hox z hz
   simp only [lop,Jrb] at hl ⊢;rw [Jts sm hv hops,Jmw hom,Jsv,Jmw hoe,Jmw hox] at hl;split at hl
   ·split at hl
    ·obtain ⟨g1,q,g2,hC⟩:=hl;refine ⟨g1,q,g2,?_,fun y hy hf=>(show ((s.freezeOps [x]).get y=s.get y) from Jsm (xs:=[x]) (Nat.le_refl 1) hf)⟩;rw [Jtp] at hC;exact hC
    ·exact hl.elim
   ·exact hl.elim
  | _=>simp [isMk] at h
 | some d =>
 have hne':∀ x,dst=some x→x≠d:=fun x hx=>hne x d hx rfl
 cases op with
 | buildSlice T n parts =>
  obtain ⟨hk,hp⟩:X.keep T=false∧parts.toList.length≤1:=by simpa [isMk] using h
  have hk:¬ X.keep T=true:=by rw [hk];decide
  have hp':(parts.toList.map (·.2)).length≤1:=by simpa using hp
  have hops:∀ x,dst=some x→∀ y∈parts.toList.map (·.2),y≠.tmp x:=fun x hx y hy=>hop x hx y (by
   obtain ⟨q,hq,rfl⟩:=List.mem_map.1 hy;simp [Op.operands];exact ⟨q.1,by simpa using hq⟩)
  simp only [lop] at hl ⊢;rw [if_neg hk] at hl ⊢;simp only [Fo] at hl ⊢;rw [Jts hp' hv hops] at hl;have hmap:(parts.toList.map fun x=>(x.1,((s.freezeOps (parts.toList.map (·.2))).put dst v).get x.2))=parts.toList.map fun x=>(x.1,(s.freezeOps (parts.toList.map (·.2))).get x.2):=List.map_congr_left fun q hq=>by
   rw [Jmw fun x hx=>hops x hx q.2 (List.mem_map.2 ⟨q,hq,rfl⟩)]
  rw [hmap] at hl;obtain ⟨h1,h2,hl⟩:=hl;refine ⟨h1,h2,?_⟩;cases hse:slE X.P T with
  | none=>rw [hse] at hl;exact hl.elim
  | some es =>
   rw [hse] at hl;obtain ⟨g1,g2,g3,g4,es,g5,hC⟩:=hl;refine ⟨g1,g2,g3,g4,es,g5,?_,fun y hy hf=>?_⟩
   ·rw [Jtc hv hne'];exact hC
   ·rw [Jte (hy d rfl) (by rw [Jsm hp' hf];exact hf),Jsm hp' hf]
 | mapEntry T m k =>
  have hom:∀ z,dst=some z→m≠.tmp z:=fun z hz=>hop z hz m (by simp [Op.operands])
  have hok:∀ z,dst=some z→k≠.tmp z:=fun z hz=>hop z hz k (by simp [Op.operands])
  simp only [lop,Jr0] at hl ⊢;rw [Jmw hom,Jmw hok,Jsv] at hl;split at hl
  ·split at hl
   ·obtain ⟨g1,j,x,g2,hC⟩:=hl;refine ⟨g1,j,x,g2,fun n=>⟨?_,fun y hy hf=>?_⟩⟩
    ·have:=hC n;rw [Jtp] at this;simp only [kput] at this ⊢;rw [Jsi _ _ _ (fun d' h1 h2=>by cases h1;exact hne' d h2 rfl)];exact this
    ·rw [Jmw (fun d' h1=>hy d' h1)];cases y <;> rfl
   ·exact hl.elim
  ·exact hl.elim
 | makeSlice T l c =>
  have hol:∀ z,dst=some z→l≠.tmp z:=fun z hz=>hop z hz l (by simp [Op.operands])
  have hoc:∀ z,dst=some z→c≠.tmp z:=fun z hz=>hop z hz c (by simp [Op.operands])
  simp only [lop,Gl] at hl ⊢;rw [Jmw hol,Jmw hoc] at hl;obtain ⟨h1,hl⟩:=hl;refine ⟨h1,?_⟩;split at hl
  ·obtain ⟨g1,g2,g3,g4,zs,g5,g6,hC⟩:=hl;refine ⟨g1,g2,g3,g4,zs,g5,g6,?_,fun y hy hf=>?_⟩
   ·rw [Jtc hv hne'];exact hC
   ·rw [Jte (hy d rfl) hf]
  ·exact hl.elim
 | call c =>
  obtain ⟨callee,args,ts⟩:=c;cases callee with
  | builtin b =>
   cases b with
   | append =>
    simp only [isMk,Bool.and_eq_true,decide_eq_true_eq] at h;obtain ⟨_,ha,ht,hkk⟩:=h;obtain ⟨x,y,hxy⟩:∃ x y,args.toList=[x,y]:=by
     match hq:args.toList,ha with
     | [x,y],_=>exact ⟨x,y,rfl⟩
    obtain ⟨t,t',htt⟩:∃ t t',ts.toList=[t,t']:=by
     match hq:ts.toList,ht with
     | [x,y],_=>exact ⟨x,y,rfl⟩
    have hmx:x∈args.toList:=by rw [hxy];exact List.mem_cons_self
    have hmy:y∈args.toList:=by rw [hxy];simp
    have hox:∀ z,dst=some z→x≠.tmp z:=fun z hz=>hop z hz x (by simpa [Op.operands,Call.operands] using hmx)
    have hoy:∀ z,dst=some z→y≠.tmp z:=fun z hz=>hop z hz y (by simpa [Op.operands,Call.operands] using hmy)
    have hk:¬ X.keep t=true:=by
     have:=List.all_eq_true.1 hkk t (by rw [htt];exact List.mem_cons_self);intro e;rw [e] at this;cases this
    simp only [lop,hxy,htt] at hl ⊢;rw [if_neg hk] at hl ⊢;simp only [Kk] at hl ⊢;rw [Jmw hoy] at hl;have key:∀ {A:Prop},Qe X.P d t t' (s.put dst v) x y C→Qe X.P d t t' s x y (fun s'=>C (s'.put dst v)∧∀ y,(∀ d',some d=some d'→y≠.tmp d')→farL (s.get y)=true→s'.get y=s.get y):=by
     intro _ hl;unfold Qe at hl ⊢;obtain ⟨h1,hl⟩:=hl;refine ⟨h1,?_⟩;cases hse:slE X.P t with
     | none=>rw [hse] at hl;exact hl.elim
     | some es =>
      rw [hse] at hl;obtain ⟨g1,es',g2,g3,hl⟩:=hl;refine ⟨g1,es',?_,g3,?_⟩
      ·rw [Jmw hoy] at g2;have:∀ (l:L),Gp X.P t t' es.1 (s.put dst v) l=Gp X.P t t' es.1 s l:=fun l=>by cases dst <;> rfl
       rw [this] at g2;exact g2
      ·rw [Jmw hox,Jsv] at hl;split at hl
       ·rename_i d0 n hd0;split at hl
        ·obtain ⟨k1,k2,k3,k4,k5,hC⟩:=hl;refine ⟨k1,k2,k3,k4,k5,?_,fun z hz hf=>?_⟩
         ·rw [Jtc hv hne',← J1y hv];exact hC
         ·rw [Jte (hz d rfl) (by rw [Jwv hf];exact hf),Jwv hf]
        ·obtain ⟨k1,k2,k3,p1,p2,p3,ps,p4,p5,p6,hC⟩:=hl;refine ⟨k1,k2,k3,p1,p2,p3,ps,p4,p5,p6,?_,fun z hz hf=>?_⟩
         ·rw [Jtc hv hne'];exact hC
         ·rw [Jte (hz d rfl) hf]
        ·exact hl.elim
       ·obtain ⟨k1,k2,hC⟩:=hl;refine ⟨k1,k2,?_,fun z hz hf=>?_⟩
        ·rw [Jtc hv hne'];exact hC
        ·rw [Jte (hz d rfl) hf]
       ·exact hl.elim
    split at hl
    ·rename_i k m hm;obtain ⟨h1,hl⟩:=hl;refine ⟨h1,?_⟩;cases hse:slE X.P t with
     | none=>rw [hse] at hl;exact hl.elim
     | some es =>
      rw [hse] at hl;rw [Jmw hox] at hl;simp only [Yk] at hl ⊢;obtain ⟨g1,g2,zs,g3,hl⟩:=hl;refine ⟨g1,g2,zs,g3,?_⟩;rw [Jsv] at hl;split at hl
      ·obtain ⟨k1,k2,hl⟩:=hl;refine ⟨k1,k2,?_⟩;split at hl
       ·obtain ⟨k3,k4,p1,p2,p3,ps,p4,p5,p6,hC⟩:=hl;refine ⟨k3,k4,p1,p2,p3,ps,p4,p5,p6,?_,fun z hz hf=>?_⟩
        ·rw [Jtc hv hne'];exact hC
        ·rw [Jte (hz d rfl) hf]
       ·exact hl.elim
      ·obtain ⟨k1,k2,k3,hC⟩:=hl;refine ⟨k1,k2,k3,?_,fun z hz hf=>?_⟩
       ·rw [Jtc hv hne'];exact hC
       ·rw [Jte (hz d rfl) hf]
      ·exact hl.elim
    ·exact key (A:=True) hl
   | _=>simp [isMk] at h
  | _=>simp [isMk] at h
 | _=>simp [isMk] at h
theorem J5m {kp:Nat→Bool} {o:Oper} (h:isMk kp o=true):o.guard=none:=by
 cases hg:o.guard with
 | none=>rfl
 | some g=>simp [isMk,hg] at h
theorem J0l {q:Nat→Bool} {K:St→Prop} {i:Nat} {oi:Oper} {v:L} (hi:ops[i]? = some oi) (hik:q i=true) (hp:Jto oi=true) (hv:farL v=true) (hA:∀ j oj,q j=false→ops[j]? = some oj→ancB .any ops ops.size i j=true∨isMk X.keep oj=true):∀ (fuel:Nat) (listed:Array Bool) (s:St),Down .any ops listed→Jsd s oi →
   (∀ j oj,ops[j]? = some oj→j≠i→listed.getD j true=false→(∀ e∈oj.after,Region.binds .any e=true→e.on≠i)→oi.apart ops oj=true) →
   i∈Region.ready .any ops listed→YS X (ops.toList.map (·.dst)) s oi (fun m=>m=v) →
   Jwf X .any ops q K fuel (listed.setIfInBounds i true) (s.put oi.dst v)→Jwf X .any ops q K (fuel+1) listed s:=by
 intro fuel
 induction fuel with
 | zero =>
  intro listed s hd _ _ hr hy H;have only:∀ j∈Region.ready .any ops listed,j=i:=by
   intro j hj;by_cases hji:j=i
   ·exact hji
   ·have:=ready_mono hj hji;rw [H.1] at this;cases this
  refine ⟨fun h=>(by rw [h] at hr;cases hr),fun j hj oj hoj=>?_⟩;have:=only j hj;subst this;rw [hi] at hoj;cases hoj;exact ⟨fun _=>Kr (fun l hl=>by rw [hl];exact H) hy,fun h=>by rw [hik] at h;cases h⟩
 | succ fuel ih =>
  intro listed s hd hfar hfree hr hy H;refine ⟨fun h=>(by rw [h] at hr;cases hr),fun j hj oj hoj=>?_⟩;by_cases hji:j=i
  ·subst hji;rw [hi] at hoj;cases hoj;exact ⟨fun _=>Kr (fun l hl=>by rw [hl];exact H) hy,fun h=>by rw [hik] at h;cases h⟩
  ·obtain ⟨hjun,oj',hoj',hall⟩:=mem_ready.1 hj;rw [hoj] at hoj';cases hoj';have hnot:∀ e∈oj.after,Region.binds .any e=true→e.on≠i:=fun e he hb heq=>by
    have h1:=hall e he hb;have h0:=(Hn.1 (mem_ready.1 hr).1).2;rw [heq] at h1;rw [h1] at h0;cases h0
   obtain ⟨a1,a2,a3⟩:=Oper.apart_spec (hfree j oj hoj hji hjun hnot);have hfree':∀ z ok,ops[z]? = some ok→z≠i→(listed.setIfInBounds j true).getD z true=false →
     (∀ e∈ok.after,Region.binds .any e=true→e.on≠i)→oi.apart ops ok=true:=fun z ok hk hki hun hno=>by
    refine hfree z ok hk hki ?_ hno;by_cases hjk:j=z
    ·subst hjk;exact hjun
    ·rw [getD_set_ne true hjk] at hun;exact hun
   have hop:∀ d,oj.dst=some d→∀ x∈oi.op.operands.toList,x≠.tmp d:=fun d hd x hx hxd=>a3 d hd (by
    subst hxd;exact List.mem_append_left _ (List.mem_filterMap.2 ⟨.tmp d,by simpa using hx,rfl⟩))
   refine ⟨fun hjk=>?_,fun hkj=>?_⟩
   ·have h1:=(H.2 j (ready_mono hj hji) oj hoj).1 hjk;refine Kr (fun l hl=>?_) (Yr a1 h1);refine ih (listed.setIfInBounds j true) (s.put oj.dst l) (hd.set hj) (fun x hx=>?_) hfree' (ready_mono hr (Ne.symm hji)) (Uk a3 hy) ?_
    ·rw [Jmw (fun d hd=>hop d hd x hx)];exact hfar x hx
    ·rw [Array.setIfInBounds_comm _ _ hji];rw [← Jsi s v l a2];exact hl
   ·have hal:isMk X.keep oj=true:=by
     rcases hA j oj hkj hoj with h | h
     ·exfalso;have h1:=Qb hd _ i j oj hoj hall h;have h2:=(Hn.1 (mem_ready.1 hr).1).2;rw [h1] at h2;cases h2
     ·exact h
    obtain ⟨C,h1,h2⟩:=(H.2 j (ready_mono hj hji) oj hoj).2 hkj;have hg:=J5m hal;unfold lAt at h1;rw [Array.getElem?_toList,hoj] at h1;simp only [hg,F4] at h1;have hc:=J56 hal s oi.dst v C hv (fun x hx y hy hxy=>a1 x hx (by
     subst hxy;exact List.mem_append_left _ (List.mem_filterMap.2 ⟨.tmp x,by simpa using hy,rfl⟩))) (fun x d hx hd e=>a2 x hx (by rw [hd,e])) h1
    refine ⟨fun s'=>C (s'.put oi.dst v)∧∀ y,(∀ d,oj.dst=some d→y≠.tmp d)→farL (s.get y)=true→s'.get y=s.get y,?_,?_⟩
    ·unfold lAt;rw [Array.getElem?_toList,hoj];simp only [hg,F4];exact hc
    ·rintro s' ⟨hC,hS⟩;have hgx:∀ x∈oi.op.operands.toList,s'.get x=s.get x:=fun x hx=>hS x (fun d hd=>hop d hd x hx) (hfar x hx)
     refine ih (listed.setIfInBounds j true) s' (hd.set hj) (fun x hx=>by rw [hgx x hx];exact hfar x hx) hfree' (ready_mono hr (Ne.symm hji)) ?_ ?_
     ·rw [J3f hp] at hy ⊢;exact lq_far (fun x hx=>by rw [hgx x hx];exact hfar x hx) (Jj8 hgx hy)
     ·rw [Array.setIfInBounds_comm _ _ hji];exact h2 _ hC
def Jzk (kp:Nat→Bool) (ops:Array Oper) (q:Nat→Bool):List Nat→Array Bool→Bool
 | [],_=>true
 | i :: I,listed=>(Region.ready .any ops listed).contains i && (Region.free .any ops listed i && (q i && ((match ops[i]? with | some o=>Jto o | none=>false) && ((List.range ops.size).all (fun j=>q j || (ancB .any ops ops.size i j || match ops[j]? with | some o=>isMk kp o | none=>false)) && Jzk kp ops q I (listed.setIfInBounds i true)))))
theorem Jvl {q:Nat→Bool} {K:St→Prop} {fuel:Nat}:∀ (I:List Nat) (listed:Array Bool) (s:St),Jzk X.keep ops q I listed=true→Down .any ops listed →
  Jsu X (ops.toList.map (·.dst)) ops.toList (Jwf X .any ops q K fuel (J1q I listed)) I s→Jwf X .any ops q K (fuel+I.length) listed s
 | [],listed,s,_,_,h=>h
 | i :: I,listed,s,hB,hd,h=>by
  simp only [Jzk,Bool.and_eq_true,List.contains_eq_mem,decide_eq_true_eq] at hB;obtain ⟨h1,h2,h3,hp,h4,h5⟩:=hB;obtain ⟨_,oi,hoi,_⟩:=mem_ready.1 h1;rw [hoi] at hp;simp only [Jsu] at h;rw [Array.getElem?_toList,hoi] at h;obtain ⟨hf,h⟩:=h;obtain ⟨v,hy,hv,hK⟩:=Jab (X:=X) h;refine J0l hoi h3 hp hv (fun j oj hj hoj=>?_) (fuel+I.length) listed s hd hf (Region.free_spec hoi h2) h1 hy (Jvl I _ _ h5 (hd.set h1) hK);have:=List.all_eq_true.1 h4 j (List.mem_range.2 (Array.getElem?_eq_some_iff.1 hoj).1);rw [Bool.or_eq_true,hoj,Bool.or_eq_true] at this;rcases this with h | h | h
  ·rw [hj] at h;cases h
  ·exact .inl h
  ·exact .inr h
theorem Jvi {id:Nat} {Q:Ex→St→Prop} {s:St} (q:Nat→Bool) (I:List Nat) (T:Ord) (f:Nat) (hm:X.P.follows .mixedOrders=true) (hf:f+I.length=ops.size) (hB:Jzk X.keep ops q I (Array.replicate ops.size false)=true) (hT:P6 ops f (J1q I (Array.replicate ops.size false))=T)
  (h:Jsu X (ops.toList.map (·.dst)) ops.toList (Jrz X (ops.toList.map (·.dst)) ops.toList q (Q .normal) T) I s):SWP X ro (.region id ops true) Q s:=fun Γ a w hG hr=>by
 have h':RR Γ s a { w with drawn:=w.drawn+1 }:=by
  obtain ⟨ms,hdef,β,Im,hx⟩:=hr;exact ⟨ms,hdef,β,Im,hx.grow (Grow.drew hx.fit.im)⟩
 refine wpIn_region_any hm (Jso (q:=q) (K:=Q .normal) hG.1 (fun s _ _ h1 h2=>⟨s,h1,h2⟩) _ _ s a _ h' ?_);have hd:Down .any ops (Array.replicate ops.size false):=by
  intro i o ho hl;exfalso;have hi:=(Array.getElem?_eq_some_iff.1 ho).1;simp [Array.getD_eq_getD_getElem?,hi] at hl
 have:=Jvl (X:=X) (K:=Q .normal) (fuel:=f) I (Array.replicate ops.size false) s hB hd ?_
 ·rw [hf] at this;exact this
 ·subst hT;exact Jv9 (fun s hs=>Jth f _ s hs) I s h
end
end Go.LX
set_option maxRecDepth 100000
set_option maxHeartbeats 2000000
namespace Go.LX
open Go Go.RowKit Go.Proofs
attribute [local irreducible] Al SWP Bi
attribute [go_sem] Tryd.ntmps35 Tryd.results35 Tryd.ntmps46
theorem Jzv (v u:List Node) (hv:v.length≤1000000) (hu:u.length≤1000000):Det cx 36 [.p (.sl (valL v)),.p (.sl (valL u))] [] (.p (.bool (decide (v=u)))) []:=by
 by_cases hl:v.length=u.length
 ·have c0:((v.length:Int)=(u.length:Int))=True:=eq_true omg;(refine bgo Tryd.func36 ?_;simp only [go_sem,simprocAttr,A7,c0,not_true_eq_false]);refine SWP.loop (fun i:Nat=>⟨Ba 26 [(0,.p (.sl (valL v))),(1,.p (.sl (valL u))),(11,.p (.sl (valL v))),(12,.p (.int .i64 v.length)),(13,.p (.int .i64 i))],[]⟩) (fun i=>i≤v.length∧v.take i=u.take i) (fun i=>v.length - i) 0 Jqd ⟨Nat.zero_le _,rfl⟩ ?_;rintro i ⟨h1,h3⟩;by_cases hi:¬ i<v.length
  ·have c1:((i:Int)<(v.length:Int))=False:=eq_false omg;(refine lws ?_;simp only [go_sem,simprocAttr,decide_false,c1]);rw [List.take_of_length_le omg,List.take_of_length_le omg] at h3;exact (decide_eq_true h3).symm
  ·have hi:=Decidable.not_not.1 hi;have c1:((i:Int)<(v.length:Int))=True:=eq_true omg;obtain ⟨x,hx⟩:∃ x,v[i]? = some x:=⟨_,List.getElem?_eq_getElem hi⟩
   obtain ⟨y,hy⟩:∃ y,u[i]? = some y:=⟨_,List.getElem?_eq_getElem omg⟩
   have hgx:=P8 hx;have hgy:=P8 hy;have w1:=wj1 (i:=i) omg;(refine lws ?_;simp only [go_sem,simprocAttr,c1]);(repeat' (first | (apply iteI <;> intro h)|((refine Jqy ?_);simp only [go_sem,simprocAttr,Jma,hgx,hgy,w1]) | fail))
   ·have hxy:=(show ¬ x=y by assumption)
    refine (decide_eq_false fun e=>hxy ?_).symm;subst e;rw [hx] at hy;exact Option.some.inj hy
   ·have hxy:=Decidable.not_not.1 (show ¬ ¬ x=y by assumption);subst hxy;refine ⟨i+1,⟨by omega,?_⟩,by omega,Jqd⟩;rw [List.take_add_one,List.take_add_one,h3,hx,hy]
 ·have c0:((v.length:Int)=(u.length:Int))=False:=eq_false omg;(refine bgo Tryd.func36 ?_;simp only [go_sem,simprocAttr,A7,c0,not_false_eq_true]);exact (decide_eq_false fun e=>hl (by rw [e])).symm
theorem J2z (v u:List Node) (hv:v.length≤1000000) (hu:u.length≤1000000):Det cx 28 [.p (.sl (valL v)),.p (.sl (valL u))] [] (.p (.bool (decide (v=u)))) []:=by
 (refine bgo Tryd.func28 ?_;simp only [go_sem,simprocAttr]);(repeat' (first | ((refine Jqa (Jzv v u hv hu) ?_);simp only [go_sem,simprocAttr]) | fail))
def Ju3 (vs:List (List Node)):List (List PV):=(List.range vs.length).map fun k=>[.int .i64 ((vs.length - 1 - k:Nat):Int),.sl (valL (vs.getD (vs.length - 1 - k) []))]
theorem Jt0 (vs:List (List Node)):(Ju3 vs).length=vs.length:=by simp [Ju3]
theorem Jyx {vs:List (List Node)} {x:List PV} (h:x∈Ju3 vs):x.length=2:=by
 obtain ⟨k,_,rfl⟩:=List.mem_map.1 h;rfl
theorem J1g {vs:List (List Node)} {k:Nat} (h:k<vs.length):(Ju3 vs)[k]? = some [.int .i64 ((vs.length - 1 - k:Nat):Int),.sl (valL (vs.getD (vs.length - 1 - k) []))]:=by simp [Ju3,h]
theorem Jyi {vs:List (List Node)} {k:Nat} {x:List PV} (h:(Ju3 vs)[k]? = some x):k<vs.length∧∃ v,vs[vs.length - 1 - k]? = some v∧x=[.int .i64 ((vs.length - 1 - k:Nat):Int),.sl (valL v)]:=by
 have hk:=(List.getElem?_eq_some_iff.1 h).1;rw [Jt0] at hk;rw [J1g hk] at h;have hlt:vs.length - 1 - k<vs.length:=by omega
 refine ⟨hk,vs[vs.length - 1 - k],List.getElem?_eq_getElem hlt,?_⟩;rw [← Option.some.inj h,List.getD_eq_getElem?_getD,List.getElem?_eq_getElem hlt];rfl
theorem Jqj {vs:List (List Node)} {i:Nat} {v:List Node} (h:vs[i]? = some v):(Jqe vs)[i]? = some [.sl (valL v)]:=by simp [Jqe,h]
theorem J46 (vs:List (List Node)) (hn:vs.length≤1000000):Tb cx 46 [.eptr [.sl (Jqe vs)]] (Ju3 vs):=by
 have w0:IntKind.i64.wrap ((vs.length:Int) - 1)=(vs.length:Int) - 1 - ((0:Nat):Int):=by rw [Aa omg omg];omega
 (refine Jw2 (X:=cx) Tryd.func46 kr rfl kr (by simp only [List.length_cons,List.length_nil,Tryd.ntmps46];decide) fun l=>?_;refine N9 _ _ _ _ ?_;simp only [Tryd.ntmps46,go_sem,simprocAttr,Ht,w0]);refine JWP.loop (fun k:Nat=>(some k,⟨Ba 19 [(0,.yld l),(1,.eptr [.sl (Jqe vs)]),(3,.p (.int .i64 ((vs.length:Int) - 1 - (k:Int))))],[]⟩)) (fun k=>k≤vs.length) (fun k=>vs.length - k) 0 rfl Jqd (Nat.zero_le _) ?_;intro k hk;simp only at hk ⊢;by_cases h:k<vs.length
 ·have c1:((0:Int)≤(vs.length:Int) - 1 - (k:Int))=True:=eq_true omg;have hlt:vs.length - 1 - k<vs.length:=by omega
  have hg:=Jqj (List.getElem?_eq_getElem hlt);have e1:(vs.length:Int) - 1 - (k:Int)=((vs.length - 1 - k:Nat):Int):=by omega
  have hb:=J1g h;rw [List.getD_eq_getElem?_getD,List.getElem?_eq_getElem hlt,Option.getD_some] at hb;have w1:IntKind.i64.wrap (((vs.length - 1 - k:Nat):Int) - 1)=(vs.length:Int) - 1 - ((k+1:Nat):Int):=by rw [Aa omg omg];omega
  rw [e1] at c1 ⊢;(refine N9 _ _ _ _ ?_;simp only [go_sem,simprocAttr,c1,hg,w1]);(repeat' (first | (refine Jqs ?_) | fail));exact ⟨⟨k+1,by omega,by omega,rfl,Jqd⟩,Or.inr trivial⟩
 ·have c1:((0:Int)≤(vs.length:Int) - 1 - (k:Int))=False:=eq_false omg;have:k=vs.length:=by omega
  (refine N9 _ _ _ _ ?_;simp only [go_sem,simprocAttr,c1]);rw [Jt0];exact .inl (by rw [this])
theorem J5n (vs:List (List Node)):Det cx 35 [.p (.sl (Jqe vs))] [] (.fn 46 [900]) [(900,.var 22 [.p (.sl (Jqe vs))])]:=by
 (refine bgoR true [(1,900)] Tryd.func35 ?_;simp only [go_sem,simprocAttr])
attribute [go_sem] Tryd.ntmps27 Tryd.results27
theorem J2u (old now:List (List Node)) (ho:old.length≤100000) (hn:now.length≤100000) (hvo:∀ v∈old,v.length≤1000000) (hvn:∀ v∈now,v.length≤1000000):Det cx 27 [.p (.sl (Jqe old)),.p (.sl (Jqe now))] [] (.p (.sl (tabL old now))) []:=by
 have w1:IntKind.i64.wrap ((old.length:Int)+1)=((old.length+1:Nat):Int):=wj1 omg;have w2:IntKind.i64.wrap ((now.length:Int)+1)=((now.length+1:Nat):Int):=wj1 omg;have hlr:(now.length+1≤(List.replicate (now.length+1) [PV.int .i64 0]).length)=True:=eq_true sm;have htk:List.take (now.length+1) (List.replicate (now.length+1) [PV.int .i64 0])=Jqb (List.replicate (now.length+1) 0):=by rw [List.take_of_length_le sm,Jrn]
 have hge:(List.replicate (old.length+1) [PV.snil])[old.length]? = some [PV.snil]:=by simp
 (refine bgo Tryd.func27 ?_;simp only [go_sem,simprocAttr,Ht,w1]);(repeat' (first | (refine Jqs ?_) | fail))
 ·refine SWP.at ⟨Ba 80 [(0,.p (.sl (Jqe old))),(3,.ptr 3 0 0),(5,.ptr 5 0 0)],[(3,.var 22 [.p (.sl (Jqe now))]),(5,.var 51 [.own 13 0 (old.length+1)]),(13,.row 26 1 ((List.replicate (old.length+1) [PV.snil]).set old.length [.sl (Jqb (List.replicate (now.length+1) 0))]))]⟩ ?_ ?_
  ·refine Jvi (qi 6 7 8) [1,2] (.node 0 (.node 3 (.node 4 (.node 5 (.node 6 (.node 7 (.node 8 .leaf .nil) .nil) .nil) .nil) .nil) .nil) (.node 3 (.node 0 (.node 4 (.node 5 (.node 6 (.node 7 (.node 8 .leaf .nil) .nil) .nil) .nil) .nil) (.node 4 (.node 0 (.node 5 (.node 6 (.node 7 (.node 8 .leaf .nil) .nil) .nil) .nil) (.node 5 (.node 0 (.node 6 (.node 7 (.node 8 .leaf .nil) .nil) .nil) (.node 6 (.node 0 (.node 7 (.node 8 .leaf .nil) .nil) .nil) .nil)) .nil)) .nil)) .nil)) 7 hm rfl kr kr ?_;simp only [go_sem,simprocAttr,Ht,w2,hlr,htk,hge];(repeat' (first | (refine And.intro (by intro x hx;simp [Op.operands,Call.operands] at hx;subst hx;rfl) ?_) | fail));(repeat' (first | (exact Jqd)|(omega)|(refine And.intro ?_ ?_) | fail))
  ·simp only [go_sem,simprocAttr];(repeat' (first | ((refine Jqa (J5n old) ?_);simp only [go_sem,simprocAttr]) | fail));refine Jxq (d:=13) (T:=26) (es:=(List.replicate (old.length+1) [PV.snil]).set old.length [.sl (Jqb (List.replicate (now.length+1) 0))]) rfl sm fun sp=>?_
   rw [J2b];simp only [go_sem,simprocAttr];(refine SWP.range (Ju3 old) 80 [] sm _ _ _ _ _ (fun i R=>R=[(1000,.var 22 [.p (.sl (Jqe now))]),(1001,.var 51 [.own 500002 0 (old.length+1)]),(500002,.lrow 26 1 true (tabJ old now (old.length - i) sp))]) (fun _ _=>False) (by rfl) (by rfl) (by rfl) (J46 old omg) (by simp only [go_sem,simprocAttr,Jsa] <;> rfl) (by first | rfl | simp [Cg]) sm ?hps (by simp only [go_sem,simprocAttr] <;> rfl) (by simp only [go_sem,simprocAttr] <;> rfl) (by simp only [go_sem,simprocAttr,Jvg] <;> rfl) ?h0 ?hkI ?hkS ?hSn ?round ?done ?stop)
   case hps=>exact fun x hx=>Jyx hx
   case h0=>rfl
   case hkI=>rintro k R rfl;simp [Hg,findKey]
   case hkS=>exact fun _ _ h=>h.elim
   case hSn=>exact fun _ h=>h
   case stop=>exact fun _ _ h=>h.elim
   case round =>
    rintro k x R l hx rfl;obtain ⟨hk,v,hv,rfl⟩:=Jyi hx;obtain ⟨i,hi⟩:∃ i,i=old.length - 1 - k:=⟨_,rfl⟩
    have hi1:old.length - k=i+1:=by omega
    rw [← hi] at hv ⊢;rw [hi1];simp only [go_sem,simprocAttr,Jtq];(refine lws ?_;simp only [go_sem,simprocAttr]);refine SWP.at ⟨Ba 80 [(0,.p (.sl (Jqe old))),(3,.ptr 1000 0 0),(5,.ptr 1001 0 0),(6,.ptr 6 0 0),(7,.ptr 7 0 0)],[(1000,.var 22 [.p (.sl (Jqe now))]),(1001,.var 51 [.own 500002 0 (old.length+1)]),(6,.var 3 [.p (.int .i64 i)]),(7,.var 32 [.p (.sl (valL v))]),(31,.row 3 1 (List.replicate (now.length+1) [PV.int .i64 0])),(500002,.lrow 26 1 true ((tabJ old now (i+1) sp).set i [.own 31 0 (now.length+1)]))]⟩ ?_ ?_
    ·have hgi:(tabJ old now (i+1) sp)[i]? = some [.p .snil]:=Jyz omg omg;have hli:((i:Int)<((old.length+1:Nat):Int))=True:=eq_true omg;refine Jvi (qi 5 6 7) [] (.node 0 (.node 1 (.node 2 (.node 3 (.node 4 (.node 5 (.node 6 (.node 7 .leaf .nil) .nil) .nil) .nil) .nil) .nil) (.node 2 (.node 1 (.node 3 (.node 4 (.node 5 (.node 6 (.node 7 .leaf .nil) .nil) .nil) .nil) .nil) (.node 3 (.node 1 (.node 4 (.node 5 (.node 6 (.node 7 .leaf .nil) .nil) .nil) .nil) (.node 4 (.node 1 (.node 5 (.node 6 (.node 7 .leaf .nil) .nil) .nil) (.node 5 (.node 1 (.node 6 (.node 7 .leaf .nil) .nil) .nil) .nil)) .nil)) .nil)) .nil)) (.node 1 (.node 0 (.node 2 (.node 3 (.node 4 (.node 5 (.node 6 (.node 7 .leaf .nil) .nil) .nil) .nil) .nil) .nil) (.node 2 (.node 0 (.node 3 (.node 4 (.node 5 (.node 6 (.node 7 .leaf .nil) .nil) .nil) .nil) .nil) (.node 3 (.node 0 (.node 4 (.node 5 (.node 6 (.node 7 .leaf .nil) .nil) .nil) .nil) (.node 4 (.node 0 (.node 5 (.node 6 (.node 7 .leaf .nil) .nil) .nil) (.node 5 (.node 0 (.node 6 (.node 7 .leaf .nil) .nil) .nil) .nil)) .nil)) .nil)) .nil)) (.node 2 (.node 0 (.node 1 (.node 3 (.node 4 (.node 5 (.node 6 (.node 7 .leaf .nil) .nil) .nil) .nil) .nil) (.node 3 (.node 1 (.node 4 (.node 5 (.node 6 (.node 7 .leaf .nil) .nil) .nil) .nil) (.node 4 (.node 1 (.node 5 (.node 6 (.node 7 .leaf .nil) .nil) .nil) (.node 5 (.node 1 (.node 6 (.node 7 .leaf .nil) .nil) .nil) .nil)) .nil)) .nil)) (.node 1 (.node 0 (.node 3 (.node 4 (.node 5 (.node 6 (.node 7 .leaf .nil) .nil) .nil) .nil) .nil) (.node 3 (.node 0 (.node 4 (.node 5 (.node 6 (.node 7 .leaf .nil) .nil) .nil) .nil) (.node 4 (.node 0 (.node 5 (.node 6 (.node 7 .leaf .nil) .nil) .nil) (.node 5 (.node 0 (.node 6 (.node 7 .leaf .nil) .nil) .nil) .nil)) .nil)) .nil)) (.node 3 (.node 0 (.node 1 (.node 4 (.node 5 (.node 6 (.node 7 .leaf .nil) .nil) .nil) .nil) (.node 4 (.node 1 (.node 5 (.node 6 (.node 7 .leaf .nil) .nil) .nil) (.node 5 (.node 1 (.node 6 (.node 7 .leaf .nil) .nil) .nil) .nil)) .nil)) (.node 1 (.node 0 (.node 4 (.node 5 (.node 6 (.node 7 .leaf .nil) .nil) .nil) .nil) (.node 4 (.node 0 (.node 5 (.node 6 (.node 7 .leaf .nil) .nil) .nil) (.node 5 (.node 0 (.node 6 (.node 7 .leaf .nil) .nil) .nil) .nil)) .nil)) (.node 4 (.node 0 (.node 1 (.node 5 (.node 6 (.node 7 .leaf .nil) .nil) .nil) (.node 5 (.node 1 (.node 6 (.node 7 .leaf .nil) .nil) .nil) .nil)) (.node 1 (.node 0 (.node 5 (.node 6 (.node 7 .leaf .nil) .nil) .nil) (.node 5 (.node 0 (.node 6 (.node 7 .leaf .nil) .nil) .nil) .nil)) (.node 5 (.node 0 (.node 1 (.node 6 (.node 7 .leaf .nil) .nil) .nil) (.node 1 (.node 0 (.node 6 (.node 7 .leaf .nil) .nil) .nil) .nil)) .nil))) .nil))) .nil))) .nil))) 8 hm rfl kr kr ?_;simp only [go_sem,simprocAttr,Ht,w2,Jtq,hgi,hli];(repeat' (first | (exact Jqd)|(omega)|(refine And.intro ?_ ?_) | fail))
    ·simp only [go_sem,simprocAttr];(repeat' (first | ((refine Jqa (J5n now) ?_);simp only [go_sem,simprocAttr,Jvg,List.map_set]) | fail));have hvl:=hvo v (List.mem_of_getElem? hv);have hest:List.replicate (now.length+1) [PV.int .i64 0]=Jqb (rowK old now i (now.length - 0)):=by rw [Nat.sub_zero,Jta,Jrn]
     rw [hest];(refine SWP.range (Ju3 now) 80 [] sm _ _ _ _ _ (fun j R=>R=[(1000,.var 22 [.p (.sl (Jqe now))]),(1001,.var 51 [.own 500005 0 (old.length+1)]),(1002,.var 3 [.p (.int .i64 i)]),(1003,.var 32 [.p (.sl (valL v))]),(500004,.row 3 1 (Jqb (rowK old now i (now.length - j)))),(500005,.lrow 26 1 true ((tabJ old now (i+1) sp).set i [.own 500004 0 (now.length+1)]))]) (fun _ _=>False) (by rfl) (by rfl) (by rfl) (J46 now omg) (by simp only [go_sem,simprocAttr,Jsa,List.map_set,Nat.sub_zero] <;> rfl) (by first | rfl | simp [Cg]) sm ?hps2 (by simp only [go_sem,simprocAttr] <;> rfl) (by simp only [go_sem,simprocAttr] <;> rfl) (by simp only [go_sem,simprocAttr,Jvg,List.map_set] <;> rfl) ?h02 ?hkI2 ?hkS2 ?hSn2 ?round2 ?done2 ?stop2)
     case hps2=>exact fun x hx=>Jyx hx
     case h02=>rfl
     case hkI2=>rintro k R rfl;simp [Hg,findKey]
     case hkS2=>exact fun _ _ h=>h.elim
     case hSn2=>exact fun _ h=>h
     case stop2=>exact fun _ _ h=>h.elim
     case round2 =>
      rintro j x R l hx rfl;obtain ⟨hj,u,hu,rfl⟩:=Jyi hx;obtain ⟨m,hm'⟩:∃ m,m=now.length - 1 - j:=⟨_,rfl⟩
      have hm1:now.length - j=m+1:=by omega
      have hm2:now.length - (j+1)=m:=by omega
      rw [← hm'] at hu ⊢;rw [hm1];have hul:=hvn u (List.mem_of_getElem? hu);have hS:=J2z v u hvl hul;have hlen:=J0s old now;have g1:(tabJ old now (i+1) sp)[i+1]? = some [.p (.sl (Jqb (rowK old now (i+1) 0)))]:=J1h (Nat.le_refl _) omg;have g2:(Jqb (rowK old now (i+1) 0))[m+1]? = some [.int .i64 (Jqk old now (i+1) (m+1))]:=Jqg (Jq2 (Nat.zero_le _) omg);have g3:(Jqb (rowK old now (i+1) 0))[m]? = some [.int .i64 (Jqk old now (i+1) m)]:=Jqg (Jq2 (Nat.zero_le _) omg);have g4:(Jqb (rowK old now i (m+1)))[m+1]? = some [.int .i64 (Jqk old now i (m+1))]:=Jqg (Jq2 (Nat.le_refl _) omg);have w3:IntKind.i64.wrap ((i:Int)+1)=((i+1:Nat):Int):=wj1 omg;have w4:IntKind.i64.wrap ((m:Int)+1)=((m+1:Nat):Int):=wj1 omg;have w5:IntKind.i64.wrap ((Jqk old now (i+1) (m+1):Int)+1)=((Jqk old now (i+1) (m+1)+1:Nat):Int):=wj1 (by have:=hlen (i+1) (m+1);omega);have hcs:=J2d hv hu;have g5:((tabJ old now (i+1) sp).set i [L.own 500004 0 (now.length+1)])[i+1]? = some [.p (.sl (Jqb (rowK old now (i+1) 0)))]:=by rw [List.getElem?_set_ne omg,g1]
      have g6:((tabJ old now (i+1) sp).set i [L.own 500004 0 (now.length+1)])[i]? = some [L.own 500004 0 (now.length+1)]:=by rw [List.getElem?_set_self (by simp;omega)]
      have g7:(Jqb (rowK old now i (m+1)))[m]? = some [.int .i64 0]:=Jqg (Jye omg);simp only [go_sem,simprocAttr];(refine lws ?_;simp only [go_sem,simprocAttr]);(repeat' (first | (apply iteI <;> intro h)|((refine Jqa (hS) ?_);simp only [go_sem,simprocAttr]) | fail))
      ·have hvu:v=u:=by assumption
       have e8:(Jqb (rowK old now i (m+1))).set m [.int .i64 ((Jqk old now (i+1) (m+1)+1:Nat):Int)]=Jqb (rowK old now i m):=by
        rw [if_pos hvu] at hcs;rw [← hcs,Jrg,Jvf omg]
       (refine Gi 15 hm kr kr ?_;simp only [go_sem,simprocAttr,g2,g5,g6,g7,w3,w4,w5,e8]);(repeat' (first | (refine Jqs ?_) | fail));refine ⟨_,rfl,?_⟩;rw [hm2];exact (Jsj (by simp only [Ar]) (by simp (disch:=omega) [Az,A3,Aw,Am,Af,Ai,Au,Aa]) (by simp [Ay]))
      ·have hvu:¬ v=u:=by assumption
       have e8:(Jqb (rowK old now i (m+1))).set m [.int .i64 (max ((Jqk old now (i+1) m:Nat):Int) ((Jqk old now i (m+1):Nat):Int))]=Jqb (rowK old now i m):=by
        rw [if_neg hvu] at hcs;have:max ((Jqk old now (i+1) m:Nat):Int) ((Jqk old now i (m+1):Nat):Int)=((Jqk old now i m:Nat):Int):=by omega
        rw [this,Jrg,Jvf omg]
       (refine Gi 22 hm kr kr ?_;simp only [go_sem,simprocAttr,g3,g4,g5,g6,g7,w3,w4,e8]);(repeat' (first | (refine Jqs ?_) | fail));refine ⟨_,rfl,?_⟩;rw [hm2];exact (Jsj (by simp only [Ar]) (by simp (disch:=omega) [Az,A3,Aw,Am,Af,Ai,Au,Aa]) (by simp [Ay]))
     case done2 =>
      rintro R rfl;rw [Jt0,Nat.sub_self];have hl2:(now.length+1≤(Jqb (rowK old now i 0)).length)=True:=eq_true sm;have ht2:List.take (now.length+1) (Jqb (rowK old now i 0))=Jqb (rowK old now i 0):=List.take_of_length_le sm;have hs2:(tabJ old now (i+1) sp).set i [.p (.sl (Jqb (rowK old now i 0)))]=tabJ old now i sp:=J5h omg;have hk2:old.length - (k+1)=i:=by omega
      refine ⟨_,Jq7 _ (d:=31),?_⟩;simp only [go_sem,simprocAttr,Jvg,Jsa,List.map_set,hl2,ht2,hs2,hk2];exact ⟨_,rfl,(Jsj (by simp only [Ar]) (by simp (disch:=omega) [Az,A3,Aw,Am,Af,Ai,Au,Aa]) (by simp [Ay]))⟩
   case done =>
    rintro R rfl;rw [Jt0,Nat.sub_self];have hl3:(old.length+1≤(tabL old now).length)=True:=eq_true sm;have ht3:List.take (old.length+1) (tabL old now)=tabL old now:=List.take_of_length_le sm;simp only [go_sem,simprocAttr,Jvg];refine ⟨_,Jvk (d:=13) (es:=tabL old now) (old.length+1) rfl (Jyl old now sp),?_⟩;simp only [go_sem,simprocAttr,hl3,ht3]
 all_goals omega
attribute [go_sem] Tryd.ntmps16 Tryd.results16 Tryd.ntmps25 Tryd.results25
theorem Jq4 (old now:List (List Node)) (ho:old.length≤100000) (hn:now.length≤100000) (hvo:∀ v∈old,v.length≤1000000) (hvn:∀ v∈now,v.length≤1000000):Det cx 16 [.p (.sl (Jqe old)),.p (.sl (Jqe now))] [] (.p (.int .i64 (lcsP old now))) []:=by
 have hT:=J2u old now ho hn hvo hvn;have g1:(tabL old now)[0]? = some [.sl (Jqb (rowK old now 0 0))]:=Jsn (Nat.zero_le _);have g2:(Jqb (rowK old now 0 0))[0]? = some [.int .i64 (Jqk old now 0 0)]:=Jqg (Jq2 (Nat.le_refl _) (Nat.zero_le _));have e0:Jqk old now 0 0=lcsP old now:=by unfold Jqk;rw [List.drop_zero,List.drop_zero]
 rw [e0] at g2;(refine bgo Tryd.func16 ?_;simp only [go_sem,simprocAttr]);(repeat' (first | ((refine Jqa (hT) ?_);simp only [go_sem,simprocAttr,g1,g2]) | fail))
theorem d_Mul (x y:Nat) (hx:x<18446744073709551616) (hy:y<18446744073709551616):Det cx 34 [.p (.int .u64 x),.p (.int .u64 y)] [] (.tup [.int .u64 ((x * y / 18446744073709551616:Nat):Int),.int .u64 ((x * y % 18446744073709551616:Nat):Int)]) []:=by
 refine Jr5 (v:=.tuple #[.int .u64 ((x * y / 18446744073709551616:Nat):Int),.int .u64 ((x * y % 18446744073709551616:Nat):Int)]) (enters_of Tryd.func34 kr rfl) rfl (fun _ _ _=>tup2 (.int _ _) (.int _ _)) fun β Im w vs hg hf=>?_
 obtain ⟨v,u,rfl,h1,h2⟩:=fit2 hf;have:=Mz h1;subst this;have:=Mz h2;subst this;refine (Tryd.bits_Mul x y hx hy w).mono fun e w' ⟨he,hw⟩=>?_
 subst hw;exact ⟨he,Below.refl _ _⟩
def negs (n:Nat):List Int:=List.replicate n (-1)
@[simp] theorem Jxe (n:Nat):(negs n).length=n:=by simp [negs]
def repR (n j:Nat):List Int:=negs j ++ List.replicate (n - j) 0
theorem J0o {n j:Nat} (h:j≤n):(repR n j).length=n:=by simp [repR];omega
theorem J29 (n:Nat):repR n n=negs n:=by simp [repR]
theorem Jyy {n j:Nat}:(Jqb (repR n j)).take j=Jqb (negs j):=by
 unfold repR;rw [Jrf,List.take_left' sm]
theorem Jyf {n j m:Nat} (h:j+m≤n):(Jqb (repR n j)).take j ++ Jqb (negs m) ++ (Jqb (repR n j)).drop (j+m)=Jqb (repR n (j+m)):=by
 rw [Jyy];have e2:negs j ++ negs m=negs (j+m):=by simp [negs]
 have e1:List.drop (j+m) (Jqb (repR n j))=Jqb (List.replicate (n - (j+m)) 0):=by
  unfold repR;rw [Jrf,List.drop_append,List.drop_eq_nil_of_le sm,List.nil_append,Jqc,Jxe,← Jrn,List.drop_replicate,Jrn];congr 2;omega
 rw [e1,← Jrf,← Jrf,e2];rfl
theorem J5q (n:Nat) (hn:n≤100000):Det cx 25 [.p (.sl (Jqb [-1])),.p (.int .i64 n)] [] (.own 900 0 n) [(900,.row 3 1 (Jqb (negs n)))]:=by
 have hM:=d_Mul 1 n omg omg;have m1:1 * n / 18446744073709551616=0:=by omega
 have m2:1 * n % 18446744073709551616=n:=by omega
 rw [m1,m2] at hM;have c0:((n:Int)<0)=False:=eq_false omg;have w0:IntKind.u64.wrap (n:Int)=(n:Int):=Mf omg omg;have w1:IntKind.i64.wrap (n:Int)=(n:Int):=Aa omg omg;have hr0:List.replicate n [PV.int .i64 0]=Jqb (repR n 0):=by unfold repR;rw [Jrn];simp [negs]
 by_cases h0:n=0
 ·subst h0;have ht:List.take 0 (Jqb [-1])=[]:=rfl;have u0:IntKind.u64.wrap 0=0:=by decide
  have i0:IntKind.i64.wrap 0=0:=by decide
  have r0:Jqb (repR 0 0)=[]:=rfl;(refine bgoR true [(30,900)] Tryd.func25 ?_;simp only [go_sem,simprocAttr,Jqc,u0]);(repeat' (first | ((refine Jqa (hM) ?_);simp only [go_sem,simprocAttr,hr0,ht,i0,r0,List.not_mem_nil]) | fail));refine ⟨Jrh _,?_⟩;refine SWP.loop (fun _:Unit=>⟨Ba 48 [(7,.own 30 0 0),(8,.p (.int .i64 0))],[(30,.row 3 1 [])]⟩) (fun _=>True) (fun _=>0) () Jqd trivial ?_;rintro _ _;(refine lws ?_;simp only [go_sem,simprocAttr]);rfl
 ·have ht:List.take n (Jqb [-1])=Jqb (negs 1):=by rw [List.take_of_length_le (by simp;omega)];rfl
  have h1:=Jyf (n:=n) (j:=0) (m:=1) omg;(refine bgoR true [(30,900)] Tryd.func25 ?_;simp only [go_sem,simprocAttr,c0,w0,Jqc]);(repeat' (first | (apply iteI <;> intro h)|(refine Jqs ?_)|((refine Jqa (hM) ?_);simp only [go_sem,simprocAttr,w1,Jqc,Jxe,hr0,ht])|(exfalso;omega)));refine ⟨Jrh _,Jrh _,by rw [J0o (Nat.zero_le _)];omega,?_⟩;refine SWP.loop (fun j:Nat=>⟨Ba 48 [(7,.own 30 0 n),(8,.p (.int .i64 j))],[(30,.row 3 1 (Jqb (repR n j)))]⟩) (fun j=>1≤j∧j≤n) (fun j=>n - j) 1 ?_ ⟨Nat.le_refl _,by omega⟩ ?_
  ·have h1':Jqb (negs 1) ++ List.drop 1 (Jqb (repR n 0))=Jqb (repR n 1):=by simpa using h1
   rw [← h1'];exact Jqd
  rintro j ⟨j1,j2⟩;by_cases hj:j<n
  ·have c1:((j:Int)<(n:Int))=True:=eq_true omg;have hrl:=J0o (n:=n) (j:=j) j2;have hle:(j≤n)=True:=eq_true j2;have htj:List.take j (Jqb (repR n j))=Jqb (negs j):=Jyy;have htm:List.take (n - j) (Jqb (negs j))=Jqb (negs (min j (n - j))):=by
    unfold negs Jqb;rw [List.map_replicate,List.map_replicate,List.take_replicate];congr 1;omega
   have hst:=Jyf (n:=n) (j:=j) (m:=min j (n - j)) omg;rw [htj] at hst;have hn0:(min j (n - j)=0)=False:=eq_false omg;have wj:IntKind.i64.wrap ((j:Int)+((min j (n - j):Nat):Int))=((j+min j (n - j):Nat):Int):=by rw [Aa omg omg];omega
   (refine lws ?_;simp only [go_sem,simprocAttr,c1]);refine SWP.at ⟨Ba 48 [(7,.own 30 0 n),(8,.p (.int .i64 (j+min j (n - j):Nat)))],[(30,.row 3 1 (Jqb (repR n (j+min j (n - j)))))]⟩ ?_ ?_
   ·refine Jvi (qi 7 8 10) [2,5] (.node 0 (.node 1 (.node 3 (.node 4 (.node 6 (.node 7 (.node 8 (.node 9 .leaf .nil) .nil) .nil) .nil) .nil) (.node 4 (.node 3 (.node 6 (.node 7 (.node 8 (.node 9 .leaf .nil) .nil) .nil) .nil) (.node 6 (.node 3 (.node 7 (.node 8 (.node 9 .leaf .nil) .nil) .nil) .nil) .nil)) .nil)) (.node 4 (.node 1 (.node 3 (.node 6 (.node 7 (.node 8 (.node 9 .leaf .nil) .nil) .nil) .nil) (.node 6 (.node 3 (.node 7 (.node 8 (.node 9 .leaf .nil) .nil) .nil) .nil) .nil)) (.node 6 (.node 1 (.node 3 (.node 7 (.node 8 (.node 9 .leaf .nil) .nil) .nil) .nil) .nil) .nil)) .nil)) (.node 1 (.node 0 (.node 3 (.node 4 (.node 6 (.node 7 (.node 8 (.node 9 .leaf .nil) .nil) .nil) .nil) .nil) (.node 4 (.node 3 (.node 6 (.node 7 (.node 8 (.node 9 .leaf .nil) .nil) .nil) .nil) (.node 6 (.node 3 (.node 7 (.node 8 (.node 9 .leaf .nil) .nil) .nil) .nil) .nil)) .nil)) (.node 3 (.node 0 (.node 4 (.node 6 (.node 7 (.node 8 (.node 9 .leaf .nil) .nil) .nil) .nil) .nil) (.node 4 (.node 0 (.node 6 (.node 7 (.node 8 (.node 9 .leaf .nil) .nil) .nil) .nil) (.node 6 (.node 0 (.node 7 (.node 8 (.node 9 .leaf .nil) .nil) .nil) (.node 7 (.node 0 (.node 8 (.node 9 .leaf .nil) .nil) .nil) .nil)) .nil)) .nil)) (.node 4 (.node 0 (.node 3 (.node 6 (.node 7 (.node 8 (.node 9 .leaf .nil) .nil) .nil) .nil) (.node 6 (.node 3 (.node 7 (.node 8 (.node 9 .leaf .nil) .nil) .nil) .nil) .nil)) (.node 3 (.node 0 (.node 6 (.node 7 (.node 8 (.node 9 .leaf .nil) .nil) .nil) .nil) (.node 6 (.node 0 (.node 7 (.node 8 (.node 9 .leaf .nil) .nil) .nil) (.node 7 (.node 0 (.node 8 (.node 9 .leaf .nil) .nil) .nil) .nil)) .nil)) (.node 6 (.node 0 (.node 3 (.node 7 (.node 8 (.node 9 .leaf .nil) .nil) .nil) .nil) (.node 3 (.node 0 (.node 7 (.node 8 (.node 9 .leaf .nil) .nil) .nil) (.node 7 (.node 0 (.node 8 (.node 9 .leaf .nil) .nil) .nil) .nil)) .nil)) .nil))) .nil))) (.node 4 (.node 0 (.node 1 (.node 3 (.node 6 (.node 7 (.node 8 (.node 9 .leaf .nil) .nil) .nil) .nil) (.node 6 (.node 3 (.node 7 (.node 8 (.node 9 .leaf .nil) .nil) .nil) .nil) .nil)) (.node 6 (.node 1 (.node 3 (.node 7 (.node 8 (.node 9 .leaf .nil) .nil) .nil) .nil) .nil) .nil)) (.node 1 (.node 0 (.node 3 (.node 6 (.node 7 (.node 8 (.node 9 .leaf .nil) .nil) .nil) .nil) (.node 6 (.node 3 (.node 7 (.node 8 (.node 9 .leaf .nil) .nil) .nil) .nil) .nil)) (.node 3 (.node 0 (.node 6 (.node 7 (.node 8 (.node 9 .leaf .nil) .nil) .nil) .nil) (.node 6 (.node 0 (.node 7 (.node 8 (.node 9 .leaf .nil) .nil) .nil) (.node 7 (.node 0 (.node 8 (.node 9 .leaf .nil) .nil) .nil) .nil)) .nil)) (.node 6 (.node 0 (.node 3 (.node 7 (.node 8 (.node 9 .leaf .nil) .nil) .nil) .nil) (.node 3 (.node 0 (.node 7 (.node 8 (.node 9 .leaf .nil) .nil) .nil) (.node 7 (.node 0 (.node 8 (.node 9 .leaf .nil) .nil) .nil) .nil)) .nil)) .nil))) (.node 6 (.node 0 (.node 1 (.node 3 (.node 7 (.node 8 (.node 9 .leaf .nil) .nil) .nil) .nil) .nil) (.node 1 (.node 0 (.node 3 (.node 7 (.node 8 (.node 9 .leaf .nil) .nil) .nil) .nil) (.node 3 (.node 0 (.node 7 (.node 8 (.node 9 .leaf .nil) .nil) .nil) (.node 7 (.node 0 (.node 8 (.node 9 .leaf .nil) .nil) .nil) .nil)) .nil)) .nil)) .nil))) .nil))) 8 hm rfl kr kr ?_;simp only [go_sem,simprocAttr,Jqc,Jxe,hrl,hle,htj,htm,hn0,hst,wj,oneO];(repeat' (first | (exact Jqd)|(omega)|(exact Jrh _)|(refine And.intro ?_ ?_) | fail))
   ·simp only [go_sem,simprocAttr];exact ⟨j+min j (n - j),⟨by omega,by omega⟩,by omega,Jqd⟩
  ·have:j=n:=by omega
   subst this;rw [J29];have c1:((j:Int)<(j:Int))=False:=eq_false omg;(refine lws ?_;simp only [go_sem,simprocAttr,c1])
   skip
attribute [go_sem] Tryd.ntmps26 Tryd.results26
def upto (left t:Nat):List Int:=(List.range t).map fun j=>((left+j:Nat):Int)
@[simp] theorem upto_len (left t:Nat):(upto left t).length=t:=by simp [upto]
theorem J3d (left t:Nat):upto left (t+1)=upto left t ++ [((left+t:Nat):Int)]:=by simp [upto,List.range_succ]
def gapR (done:List Int) (left n t:Nat):List Int:=done ++ upto left t ++ negs (n - done.length - t)
theorem J5f {done:List Int} {left n t:Nat} (h:done.length+t≤n):(gapR done left n t).length=n:=by simp [gapR];omega
theorem J5e {done:List Int} {left n t:Nat} (h:done.length+t<n):(gapR done left n t).set (done.length+t) ((left+t:Nat):Int)=gapR done left n (t+1):=by
 unfold gapR;have e:n - done.length - t=(n - done.length - (t+1))+1:=by omega
 have e2:done.length+t=(done ++ upto left t).length:=by simp
 rw [e,e2,J3d,List.set_append_right _ _ (Nat.le_refl _),Nat.sub_self];simp [negs,List.replicate_succ]
theorem J04 {n left e t:Nat} (h1:t≤n) (h2:left+t≤e) (h3:t=n∨left+t=e):Jqo n left e=upto left t ++ negs (n - t):=by
 unfold Jqo upto negs;refine List.ext_getElem? fun j=>?_
 by_cases hj:j<t
 ·rw [List.getElem?_append_left (by simpa using hj)];have:j<n:=by omega
  simp [hj,this];omega
 ·rw [List.getElem?_append_right (by simp;omega)];by_cases hn:j<n
  ·have:j - t<n - t:=by omega
   simp [hn,this];omega
  ·have:¬ j - t<n - t:=by omega
   simp [hn,this]
theorem J1b {done:List Int} {left n a b t:Nat} (hb:b≤n) (h1:done.length+t≤b) (h2:left+t≤a) (h3:done.length+t=b∨left+t=a):gapR done left n t=done ++ Jqo (b - done.length) left a ++ negs (n - b):=by
 rw [J04 (t:=t) omg h2 omg];unfold gapR;simp only [List.append_assoc,negs,List.replicate_append_replicate];congr 3;omega
theorem J2a (done:List Int) (left n:Nat):gapR done left n 0=done ++ negs (n - done.length):=by simp [gapR,upto]
theorem J4h (done:List Int) (left n a b:Nat) (hn:n≤100000) (ha:a≤100000) (hla:left≤a) (hkb:done.length≤b) (hb:b≤n):Det cx 26 [.p (.int .i64 a),.p (.int .i64 b),.ptr 1000 0 0,.ptr 1001 0 0,.ptr 1002 0 0]
  [(1000,.var 3 [.p (.int .i64 left)]),(1001,.var 3 [.p (.int .i64 done.length)]),(1002,.var 26 [.own 500003 0 n]),(500003,.row 3 1 (Jqb (done ++ negs (n - done.length))))] (.tup [])
  [(1000,.var 3 [.p (.int .i64 a)]),(1001,.var 3 [.p (.int .i64 b)]),(1002,.var 26 [.own 500003 0 n]),(500003,.row 3 1 (Jqb (done ++ Jqo (b - done.length) left a ++ negs (n - b))))]:=by
 rw [← J2a done left n];(refine bgo Tryd.func26 ?_;simp only [go_sem,simprocAttr]);refine SWP.loop (fun t:Nat=>⟨Ba 25 [(0,.p (.int .i64 a)),(1,.p (.int .i64 b)),(2,.ptr 1000 0 0),(3,.ptr 1001 0 0),(4,.ptr 1002 0 0)],[(1000,.var 3 [.p (.int .i64 (left+t:Nat))]),(1001,.var 3 [.p (.int .i64 (done.length+t:Nat))]),(1002,.var 26 [.own 500003 0 n]),(500003,.row 3 1 (Jqb (gapR done left n t)))]⟩) (fun t=>left+t≤a∧done.length+t≤b) (fun t=>a - (left+t)) 0 Jqd ⟨hla,hkb⟩ ?_;rintro t ⟨t1,t2⟩;by_cases hc:left+t<a
 ·have c1:(((left+t:Nat):Int)<(a:Int))=True:=eq_true omg;by_cases hd:done.length+t<b
  ·have c2:(((done.length+t:Nat):Int)<(b:Int))=True:=eq_true omg;have hset:(Jqb (gapR done left n t)).set (done.length+t) [.int .i64 ((left+t:Nat):Int)]=Jqb (gapR done left n (t+1)):=by rw [Jrg,J5e omg]
   have hgl:(Jqb (gapR done left n t))[done.length+t]? = some [.int .i64 ((gapR done left n t).getD (done.length+t) 0)]:=Jqg (by rw [List.getD_eq_getElem?_getD,List.getElem?_eq_getElem (by rw [J5f omg];omega)];rfl);have w1:IntKind.i64.wrap (((left+t:Nat):Int)+1)=((left+(t+1):Nat):Int):=by rw [Aa omg omg];omega
   have w2:IntKind.i64.wrap (((done.length+t:Nat):Int)+1)=((done.length+(t+1):Nat):Int):=by rw [Aa omg omg];omega
   (refine lws ?_;simp only [go_sem,simprocAttr,c1,c2,hset,hgl]);(repeat' (first | (refine Jqs ?_) | fail));refine SWP.at ⟨Ba 25 [(0,.p (.int .i64 a)),(1,.p (.int .i64 b)),(2,.ptr 1000 0 0),(3,.ptr 1001 0 0),(4,.ptr 1002 0 0)],[(1000,.var 3 [.p (.int .i64 (left+(t+1):Nat))]),(1001,.var 3 [.p (.int .i64 (done.length+(t+1):Nat))]),(1002,.var 26 [.own 500003 0 n]),(500003,.row 3 1 (Jqb (gapR done left n (t+1))))]⟩ ?_ ?_
   ·refine Jvi (qi 4 6 6) [] (.node 0 (.node 1 (.node 2 (.node 3 (.node 4 (.node 5 .leaf .nil) .nil) (.node 4 (.node 3 (.node 5 .leaf .nil) .nil) .nil)) (.node 4 (.node 2 (.node 3 (.node 5 .leaf .nil) .nil) .nil) .nil)) (.node 2 (.node 1 (.node 3 (.node 4 (.node 5 .leaf .nil) .nil) (.node 4 (.node 3 (.node 5 .leaf .nil) .nil) .nil)) (.node 3 (.node 1 (.node 4 (.node 5 .leaf .nil) .nil) .nil) .nil)) .nil)) (.node 2 (.node 0 (.node 1 (.node 3 (.node 4 (.node 5 .leaf .nil) .nil) (.node 4 (.node 3 (.node 5 .leaf .nil) .nil) .nil)) (.node 3 (.node 1 (.node 4 (.node 5 .leaf .nil) .nil) .nil) .nil)) (.node 3 (.node 0 (.node 1 (.node 4 (.node 5 .leaf .nil) .nil) .nil) .nil) .nil)) .nil)) 6 hm rfl kr kr ?_;simp only [go_sem,simprocAttr,w1,w2];(repeat' (first | (exact Jqd)|(refine And.intro ?_ ?_) | fail))
   ·simp only [go_sem,simprocAttr];exact ⟨t+1,⟨by omega,by omega⟩,by omega,Jqd⟩
  ·have c2:(((done.length+t:Nat):Int)<(b:Int))=False:=eq_false omg;rw [J1b (t:=t) hb t2 t1 omg];(refine lws ?_;simp only [go_sem,simprocAttr,c1,c2])
   skip
 ·have c1:(((left+t:Nat):Int)<(a:Int))=False:=eq_false omg;rw [J1b (t:=t) hb t2 t1 omg];(refine lws ?_;simp only [go_sem,simprocAttr,c1])
  skip
attribute [go_sem] Tryd.ntmps14 Tryd.results14
theorem Jtn {old now:List (List Node)} {f a b left kb:Nat} {done:List Int} (h:old.length≤a∨now.length≤b):Jrd old now f a b left kb done=done ++ Jqo (now.length - kb) left old.length:=by
 cases f with
 | zero=>rfl
 | succ f =>
  rw [Jrd];split
  ·rename_i x y hx hy;have:=(List.getElem?_eq_some_iff.1 hx).1;have:=(List.getElem?_eq_some_iff.1 hy).1;omega
  ·rfl
theorem Jyc {old now:List (List Node)} {f a b left kb:Nat} {done:List Int} {x y:List Node} (hx:old[a]? = some x) (hy:now[b]? = some y):Jrd old now (f+1) a b left kb done =
  if x=y then Jrd old now f (a+1) (b+1) (a+1) (b+1) (done ++ Jqo (b - kb) left a ++ [(a:Int)])
   else if Jqk old now a (b+1)≤Jqk old now (a+1) b then Jrd old now f (a+1) b left kb done
   else Jrd old now f a (b+1) left kb done:=by
 rw [Jrd,hx,hy];rfl
structure ByOI (old now:List (List Node)) (x:Nat×Nat×Nat×List Int):Prop where
 la:x.2.2.1≤x.1
 am:x.1≤old.length
 kb:x.2.2.2.length≤x.2.1
 bn:x.2.1≤now.length
 sp:∃ f,old.length+now.length≤f+x.1+x.2.1∧Jrd old now f x.1 x.2.1 x.2.2.1 x.2.2.2.length x.2.2.2=Jqn old now
theorem J59 {done:List Int} {left n a b:Nat} (hk:done.length≤b) (hb:b<n):(Jqb (done ++ Jqo (b - done.length) left a ++ negs (n - b))).set b [.int .i64 (a:Int)]=Jqb ((done ++ Jqo (b - done.length) left a ++ [(a:Int)]) ++ negs (n - (done ++ Jqo (b - done.length) left a ++ [(a:Int)]).length)):=by
 have e2:b=(done ++ Jqo (b - done.length) left a).length:=by simp [Jq3];omega
 have e:n - b=(n - (b+1))+1:=by omega
 have e3:(done ++ Jqo (b - done.length) left a ++ [(a:Int)]).length=b+1:=by rw [List.length_append,← e2];rfl
 rw [e3,Jrg,e];congr 1;rw [show (done ++ Jqo (b - done.length) left a ++ negs (n - (b+1)+1)).set b (a:Int)=(done ++ Jqo (b - done.length) left a ++ negs (n - (b+1)+1)).set (done ++ Jqo (b - done.length) left a).length (a:Int) by rw [← e2]];rw [List.set_append_right _ _ (Nat.le_refl _),Nat.sub_self];simp [negs,List.replicate_succ]
theorem Jr1 (old now:List (List Node)) (ho:old.length≤100000) (hn:now.length≤100000) (hvo:∀ v∈old,v.length≤1000000) (hvn:∀ v∈now,v.length≤1000000):Det cx 14 [.p (.sl (Jqe old)),.p (.sl (Jqe now))] [] (.p (.sl (Jqb (Jqn old now)))) []:=by
 have hT:=J2u old now ho hn hvo hvn;have hR:=J5q now.length hn;have hoo:=(Jqw old now).len;have hol:(now.length≤(Jqb (Jqn old now)).length)=True:=eq_true (by rw [Jqc,hoo];exact Nat.le_refl _);have htk:List.take now.length (Jqb (Jqn old now))=Jqb (Jqn old now):=List.take_of_length_le (by rw [Jqc,hoo];exact Nat.le_refl _);have hb1:([[PV.int .i64 (-1)]]:List (List PV))=Jqb [-1]:=rfl;(refine bgo Tryd.func14 ?_;simp only [go_sem,simprocAttr,Ht,hb1]);(repeat' (first | ((first | (refine Jqa (hR) ?_)|(refine Jqa (hT) ?_));simp only [go_sem,simprocAttr]) | fail));refine SWP.loop (fun x:Nat×Nat×Nat×List Int=>⟨Ba 83 [(0,.p (.sl (Jqe old))),(1,.p (.sl (Jqe now))),(5,.ptr 5 0 0),(6,.ptr 6 0 0),(7,.ptr 7 0 0),(8,.fn 26 [6,7,5]),(9,.p (.sl (tabL old now))),(10,.p (.int .i64 x.1)),(11,.p (.int .i64 x.2.1))],[(6,.var 3 [.p (.int .i64 x.2.2.1)]),(7,.var 3 [.p (.int .i64 x.2.2.2.length)]),(5,.var 26 [.own 15 0 now.length]),(15,.row 3 1 (Jqb (x.2.2.2 ++ negs (now.length - x.2.2.2.length))))]⟩) (ByOI old now) (fun x=>(old.length - x.1)+(now.length - x.2.1)) (0,0,0,[]) Jqd ⟨Nat.le_refl _,Nat.zero_le _,Nat.le_refl _,Nat.zero_le _,old.length+now.length,by simp only;omega,rfl⟩ ?_;rintro ⟨a,b,left,done⟩ ⟨h1,h2,h3,h4,f,hf,hsp⟩;simp only at h1 h2 h3 h4 hf hsp;by_cases ha:a<old.length
 ·have c1:((a:Int)<(old.length:Int))=True:=eq_true omg;by_cases hb:b<now.length
  ·have c2:((b:Int)<(now.length:Int))=True:=eq_true omg;obtain ⟨x,hx⟩:∃ x,old[a]? = some x:=⟨_,List.getElem?_eq_getElem ha⟩
   obtain ⟨y,hy⟩:∃ y,now[b]? = some y:=⟨_,List.getElem?_eq_getElem hb⟩
   have hS:=J2z x y (hvo x (List.mem_of_getElem? hx)) (hvn y (List.mem_of_getElem? hy));obtain ⟨f,rfl⟩:∃ f',f=f'+1:=⟨f - 1,by omega⟩
   rw [Jyc hx hy] at hsp;have hG:=J4h done left now.length a b hn omg h1 h3 h4;have g1:=Jqj hx;have g2:=Jqj hy;have g3:(tabL old now)[a+1]? = some [.sl (Jqb (rowK old now (a+1) 0))]:=Jsn omg;have g4:(tabL old now)[a]? = some [.sl (Jqb (rowK old now a 0))]:=Jsn omg;have g5:(Jqb (rowK old now (a+1) 0))[b]? = some [.int .i64 (Jqk old now (a+1) b)]:=Jqg (Jq2 (Nat.zero_le _) omg);have g6:(Jqb (rowK old now a 0))[b+1]? = some [.int .i64 (Jqk old now a (b+1))]:=Jqg (Jq2 (Nat.zero_le _) omg);have w1:IntKind.i64.wrap ((a:Int)+1)=((a+1:Nat):Int):=wj1 omg;have w2:IntKind.i64.wrap ((b:Int)+1)=((b+1:Nat):Int):=wj1 omg;have hset:=J59 (left:=left) (a:=a) h3 hb;have e3:(done ++ Jqo (b - done.length) left a ++ [(a:Int)]).length=b+1:=by simp [Jq3];omega
   have g7:(Jqb (done ++ Jqo (b - done.length) left a ++ negs (now.length - b)))[b]? = some [.int .i64 ((done ++ Jqo (b - done.length) left a ++ negs (now.length - b)).getD b 0)]:=Jqg (by rw [List.getD_eq_getElem?_getD,List.getElem?_eq_getElem (by simp [Jq3];omega)];rfl);(refine lws ?_;simp only [go_sem,simprocAttr,Ht,c1,c2]);(repeat' (first | (apply iteI <;> intro h)|((first | (refine Jqy ?_)|(refine Jqh (hS) ?_)|(refine Jqa (hG) ?_));simp only [go_sem,simprocAttr,c2,g1,g2,g3,g4,g5,g6,g7,w1,w2,hset]) | fail))
   ·rw [if_pos (by assumption)] at hsp;exact ⟨(a+1,b+1,a+1,done ++ Jqo (b - done.length) left a ++ [(a:Int)]),⟨Nat.le_refl _,ha,by simp only;rw [e3];exact Nat.le_refl _,hb,f,by simp only;omega,by simp only;rw [e3];exact hsp⟩,by simp only;omega,by simp only;rw [e3];exact Jqd⟩
   ·rw [if_neg (by assumption),if_pos omg] at hsp;exact ⟨(a+1,b,left,done),⟨by simp only;omega,by simp only;omega,h3,h4,f,by simp only;omega,hsp⟩,by simp only;omega,Jqd⟩
   ·rw [if_neg (by assumption),if_neg omg] at hsp;exact ⟨(a,b+1,left,done),⟨h1,h2,by simp only;omega,by simp only;omega,f,by simp only;omega,hsp⟩,by simp only;omega,Jqd⟩
  ·have c2:((b:Int)<(now.length:Int))=False:=eq_false omg;have hG:=J4h done left now.length old.length now.length hn ho omg omg (Nat.le_refl _);rw [Jtn (.inr omg)] at hsp;have he:done ++ Jqo (now.length - done.length) left old.length ++ negs (now.length - now.length)=Jqn old now:=by rw [Nat.sub_self,hsp];simp [negs]
   (refine lws ?_;simp only [go_sem,simprocAttr,Ht,c1,c2]);(repeat' (first | ((refine Jqa (hG) ?_);simp only [go_sem,simprocAttr,he,hol,htk]) | fail))
 ·have c1:((a:Int)<(old.length:Int))=False:=eq_false omg;have hG:=J4h done left now.length old.length now.length hn ho omg omg (Nat.le_refl _);rw [Jtn (.inl omg)] at hsp;have he:done ++ Jqo (now.length - done.length) left old.length ++ negs (now.length - now.length)=Jqn old now:=by rw [Nat.sub_self,hsp];simp [negs]
  (refine lws ?_;simp only [go_sem,simprocAttr,Ht,c1]);(repeat' (first | ((refine Jqa (hG) ?_);simp only [go_sem,simprocAttr,he,hol,htk]) | fail))
end Go.LX
namespace Go.LX
section
variable {α:Type} [DecidableEq α]
def posL (y:α) (l:List α):List Nat:=(List.range l.length).filter fun i=>decide (l[i]? = some y)
theorem J3b (y x:α) (l:List α):posL y (x :: l)=(if x=y then [0] else []) ++ (posL y l).map (· + 1):=by
 unfold posL;rw [List.length_cons,List.range_succ_eq_map,List.filter_cons,List.filter_map];have e:(List.filter ((fun i=>decide ((x :: l)[i]? = some y)) ∘ Nat.succ) (List.range l.length))=List.filter (fun i=>decide (l[i]? = some y)) (List.range l.length):=List.filter_congr fun i _=>by simp
 rw [e];have e2:((x :: l)[0]? = some y)=(x=y):=by simp
 simp only [e2];by_cases h:x=y
 ·simp [h]
 ·simp [h]
theorem Jzb {y:α}:∀ (l:List α) (c o:Nat),occ y l c o=((posL y l)[c]?).map (o + ·)
 | [],c,o=>by simp [Jws,posL]
 | x :: l,c,o=>by
  rw [Jr7,J3b];by_cases h:x=y
  ·rw [if_pos h,if_pos h];cases c with
   | zero=>simp
   | succ c =>
    rw [if_neg (by omega),Nat.add_sub_cancel,Jzb l c (o+1)];simp only [List.cons_append,List.nil_append,List.getElem?_cons_succ,List.getElem?_map,Option.map_map];congr 1;funext z;simp only [Function.comp];omega
  ·rw [if_neg h,if_neg h,Jzb l c (o+1)];simp only [List.nil_append,List.getElem?_map,Option.map_map];congr 1;funext z;simp only [Function.comp];omega
def cntD (y:α) (l:List α):Nat:=l.count y
theorem Jtr (y:α):cntD y []=0:=rfl
theorem Jsk (y x:α) (l:List α):cntD y (x :: l)=cntD y l+if x=y then 1 else 0:=by
 unfold cntD;rw [List.count_cons];by_cases h:x=y <;> simp [h]
theorem Jxu (y:α) (l m:List α):cntD y (l ++ m)=cntD y l+cntD y m:=List.count_append
theorem J5g {old now:List α} {i:Nat} {y:α} (h:now[i]? = some y):keyE old now i=match (posL y old).drop (cntD y (now.take i)) with
  | []=>-1
  | z :: _=>(z:Int):=by
 unfold keyE cntD;rw [h];simp only;rw [Jzb];cases hd:(posL y old).drop ((now.take i).count y) with
 | nil =>
  rw [List.getElem?_eq_none (by have:=congrArg List.length hd;simp at this;omega)];rfl
 | cons z l =>
  have:=congrArg (·[0]?) hd;simp only [List.getElem?_drop,Nat.add_zero,List.getElem?_cons_zero] at this;rw [this];simp
theorem Jyb {old now:List α} {i:Nat} (h:i<now.length):(keyP old now).take (i+1)=(keyP old now).take i ++ [keyE old now i]:=by
 rw [List.take_add_one,Jr9 h];rfl
end
end Go.LX
