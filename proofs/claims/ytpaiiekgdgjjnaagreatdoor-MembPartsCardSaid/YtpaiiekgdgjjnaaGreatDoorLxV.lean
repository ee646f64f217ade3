/- A region that draws its order: some operations that only read are taken first; of the others all orders are walked. -/
import Derived.Test.YtpaiiekgdgjjnaaGreatDoorLxL
import Derived.Test.YtpaiiekgdgjjnaaGreatDoorLxU
import Derived.Test.YtpaiiekgdgjjnaaGreatDoorLxS
import Derived.Test.YtpaiiekgdgjjnaaGreatDoorLxT
import Derived.Test.YtpaiiekgdgjjnaaGreatDoorProg
set_option linter.unusedSimpArgs false
set_option linter.unusedVariables false
set_option linter.unusedSectionVars false
set_option linter.unnecessarySimpa false
namespace Go.LX
open Go Go.RowKit Go.Proofs
section
variable {X:Cx} {ro:Option Nat} {md:Region.Mode} {ops:Array Oper}
theorem J3j {k:Nat} {K:St→Prop} {i:Nat} {oi:Oper} {v:L} (hi:ops[i]? = some oi) (hik:i<k) (hA:∀ j,k≤j→j<ops.size→ancB md ops ops.size i j=true):∀ (fuel:Nat) (listed:Array Bool) (s:St),Down md ops listed →
   (∀ j oj,ops[j]? = some oj→j≠i→listed.getD j true=false→(∀ e∈oj.after,Region.binds md e=true→e.on≠i)→oi.apart ops oj=true) →
   i∈Region.ready md ops listed→YS X (ops.toList.map (·.dst)) s oi (fun m=>m=v) →
   Ty X md ops k K fuel (listed.setIfInBounds i true) (s.put oi.dst v)→Ty X md ops k K (fuel+1) listed s:=by
 intro fuel
 induction fuel with
 | zero =>
  intro listed s hd _ hr hy H
  have only:∀ j∈Region.ready md ops listed,j=i:=by
   intro j hj
   by_cases hji:j=i
   ·exact hji
   ·have:=ready_mono hj hji
    rw [H.1] at this
    cases this
  refine ⟨fun h=>(by rw [h] at hr;cases hr),fun j hj oj hoj=>?_⟩
  have:=only j hj
  subst this
  rw [hi] at hoj;cases hoj
  exact ⟨fun _=>Kr (fun l hl=>by rw [hl];exact H) hy,fun h=>by omega⟩
 | succ fuel ih =>
  intro listed s hd hfree hr hy H
  refine ⟨fun h=>(by rw [h] at hr;cases hr),fun j hj oj hoj=>?_⟩
  by_cases hji:j=i
  ·subst hji;rw [hi] at hoj;cases hoj
   exact ⟨fun _=>Kr (fun l hl=>by rw [hl];exact H) hy,fun h=>by omega⟩
  ·have hjk:j<k:=by
    rcases Nat.lt_or_ge j k with h | h
    ·exact h
    ·exfalso
     obtain ⟨_,oj',hoj',hall⟩:=mem_ready.1 hj
     have h1:=Qb hd _ i j oj' hoj' hall (hA j h (Array.getElem?_eq_some_iff.1 hoj').1)
     have h2:=(Hn.1 (mem_ready.1 hr).1).2
     rw [h1] at h2;cases h2
   refine ⟨fun _=>?_,fun h=>by omega⟩
   have h1:=(H.2 j (ready_mono hj hji) oj hoj).1 hjk
   obtain ⟨hjun,oj',hoj',hall⟩:=mem_ready.1 hj
   rw [hoj] at hoj';cases hoj'
   have hnot:∀ e∈oj.after,Region.binds md e=true→e.on≠i:=fun e he hb heq=>by
    have h1:=hall e he hb
    have h0:=(Hn.1 (mem_ready.1 hr).1).2
    rw [heq] at h1
    rw [h1] at h0;cases h0
   obtain ⟨a1,a2,a3⟩:=Oper.apart_spec (hfree j oj hoj hji hjun hnot)
   have hfree':∀ q ok,ops[q]? = some ok→q≠i→(listed.setIfInBounds j true).getD q true=false →
     (∀ e∈ok.after,Region.binds md e=true→e.on≠i)→oi.apart ops ok=true:=fun q ok hk hki hun hno=>by
    refine hfree q ok hk hki ?_ hno
    by_cases hjk:j=q
    ·subst hjk;exact hjun
    ·rw [getD_set_ne true hjk] at hun;exact hun
   refine Kr (fun l hl=>?_) (Yr a1 h1)
   refine ih (listed.setIfInBounds j true) (s.put oj.dst l) (hd.set hj) hfree' (ready_mono hr (Ne.symm hji)) (Uk a3 hy) ?_
   rw [Array.setIfInBounds_comm _ _ hji]
   rw [← St.put_comm s v l a2]
   exact hl
def YSAt (X:Cx) (ds:List (Option Tmp)) (ops:List Oper) (i:Nat) (C:St→Prop) (s:St):Prop:=match ops[i]? with
 | some o=>YS X ds s o fun l=>C (s.put o.dst l)
 | none=>False
def Jvb (X:Cx) (ds:List (Option Tmp)) (ops:List Oper) (E:St→Prop):List Nat→St→Prop
 | [],s=>E s
 | i :: I,s=>YSAt X ds ops i (Jvb X ds ops E I) s
def J5b (md:Region.Mode) (ops:Array Oper) (k:Nat):List Nat→Array Bool→Bool
 | [],_=>true
 | i :: I,listed=>(Region.ready md ops listed).contains i && (Region.free md ops listed i && (decide (i<k) && ((List.range ops.size).all (fun j=>decide (j<k) || ancB md ops ops.size i j) && J5b md ops k I (listed.setIfInBounds i true))))
def Jyg:List Nat→Array Bool→Array Bool
 | [],listed=>listed
 | i :: I,listed=>Jyg I (listed.setIfInBounds i true)
theorem Jxj {k:Nat} {K:St→Prop} {fuel:Nat}:∀ (I:List Nat) (listed:Array Bool) (s:St),J5b md ops k I listed=true→Down md ops listed →
  Jvb X (ops.toList.map (·.dst)) ops.toList (Ty X md ops k K fuel (Jyg I listed)) I s→Ty X md ops k K (fuel+I.length) listed s
 | [],listed,s,_,_,h=>h
 | i :: I,listed,s,hB,hd,h=>by
  simp only [J5b,Bool.and_eq_true,List.contains_eq_mem,decide_eq_true_eq] at hB
  obtain ⟨h1,h2,h3,h4,h5⟩:=hB
  obtain ⟨_,oi,hoi,_⟩:=mem_ready.1 h1
  simp only [Jvb,YSAt] at h
  rw [Array.getElem?_toList,hoi] at h
  obtain ⟨v,hy,hK⟩:=Jab (X:=X) h
  refine J3j hoi h3 (fun j hj hs=>?_) (fuel+I.length) listed s hd (Region.free_spec hoi h2) h1 hy (Jxj I _ _ h5 (hd.set h1) hK)
  have:=List.all_eq_true.1 h4 j (List.mem_range.2 hs)
  rw [Bool.or_eq_true,decide_eq_true_eq] at this
  rcases this with h | h
  ·omega
  ·exact h
theorem Jzo {ds:List (Option Tmp)} {os:List Oper} {E E':St→Prop} (hE:∀ s,E s→E' s):∀ (I:List Nat) (s:St),Jvb X ds os E I s→Jvb X ds os E' I s
 | [],s,h=>hE s h
 | i :: I,s,h=>by
  simp only [Jvb,YSAt] at h ⊢
  split
  ·rename_i o ho
   rw [ho] at h
   exact Kr (fun l hl=>Jzo hE I _ hl) h
  ·rename_i ho
   rw [ho] at h
   exact h
def Js2 (X:Cx) (ds:List (Option Tmp)) (ops:List Oper) (k:Nat) (K:St→Prop):Ord→St→Prop
 | .leaf,s=>K s
 | .nil,_=>True
 | .bad,_=>False
 | .node i sub next,s=>(if i<k then YSAt X ds ops i (Js2 X ds ops k K sub) s else lAt X ds ops i (Js2 X ds ops k K sub) s)∧Js2 X ds ops k K next s
theorem Jze {k:Nat} {K:St→Prop} {f:Nat} {listed:Array Bool} {s:St}:∀ (is:List Nat),Js2 X (ops.toList.map (·.dst)) ops.toList k K (is.foldr (fun i acc=>.node i (P6 ops f (listed.setIfInBounds i true)) acc) .nil) s →
  ∀ i∈is,(if i<k then YSAt X (ops.toList.map (·.dst)) ops.toList i (Js2 X (ops.toList.map (·.dst)) ops.toList k K (P6 ops f (listed.setIfInBounds i true))) s else lAt X (ops.toList.map (·.dst)) ops.toList i (Js2 X (ops.toList.map (·.dst)) ops.toList k K (P6 ops f (listed.setIfInBounds i true))) s)
 | [],_,i,hi=>by cases hi
 | j :: is,h,i,hi=>by
  simp only [List.foldr_cons,Js2] at h
  rcases List.mem_cons.1 hi with rfl | hi
  ·exact h.1
  ·exact Jze is h.2 i hi
theorem Js6 {k:Nat} {K:St→Prop}:∀ (f:Nat) (listed:Array Bool) (s:St),Js2 X (ops.toList.map (·.dst)) ops.toList k K (P6 ops f listed) s→Ty X .any ops k K f listed s
 | 0,listed,s,h=>by
  unfold P6 at h
  split at h
  ·rename_i h0;exact ⟨h0,h⟩
  ·exact h.elim
 | f+1,listed,s,h=>by
  unfold P6 at h
  split at h
  ·rename_i h0
   exact ⟨fun _=>h,fun i hi=>by rw [h0] at hi;cases hi⟩
  ·rename_i h0
   refine ⟨fun h1=>absurd h1 h0,fun i hi o ho=>?_⟩
   have:=Jze _ h i hi
   refine ⟨fun hk=>?_,fun hk=>?_⟩
   ·rw [if_pos hk] at this
    unfold YSAt at this
    rw [Array.getElem?_toList,ho] at this
    exact Kr (fun l hl=>Js6 f _ _ hl) this
   ·rw [if_neg (by omega)] at this
    exact ⟨_,this,fun s' hs=>Js6 f _ _ hs⟩
theorem J2z {id:Nat} {Q:Ex→St→Prop} {s:St} (k:Nat) (I:List Nat) (T:Ord) (f:Nat) (hm:X.P.follows .mixedOrders=true) (hf:f+I.length=ops.size) (hB:J5b .any ops k I (Array.replicate ops.size false)=true) (hT:P6 ops f (Jyg I (Array.replicate ops.size false))=T)
  (h:Jvb X (ops.toList.map (·.dst)) ops.toList (Js2 X (ops.toList.map (·.dst)) ops.toList k (Q .normal) T) I s):SWP X ro (.region id ops true) Q s:=fun Γ a w hG hr=>by
 have h':RR Γ s a { w with drawn:=w.drawn+1 }:=by
  obtain ⟨ms,hdef,β,Im,hx⟩:=hr
  exact ⟨ms,hdef,β,Im,hx.grow (Grow.drew hx.fit.im)⟩
 refine wpIn_region_any hm (G0 (k:=k) (K:=Q .normal) hG (fun s _ _ h1 h2=>⟨s,h1,h2⟩) _ _ s a _ h' ?_)
 have hd:Down .any ops (Array.replicate ops.size false):=by
  intro i o ho hl
  exfalso
  have hi:=(Array.getElem?_eq_some_iff.1 ho).1
  simp [Array.getD_eq_getD_getElem?,hi] at hl
 have:=Jxj (X:=X) (K:=Q .normal) (fuel:=f) I (Array.replicate ops.size false) s hB hd ?_
 ·rw [hf] at this;exact this
 ·subst hT
  exact Jzo (fun s hs=>Js6 f _ s hs) I s h
end
section
variable {X:Cx} {ds:List (Option Tmp)} {t:List L} {r:Regs} {E:St→Prop}
theorem Kao {ops:List Oper}:Jvb X ds ops E [] ⟨t,r⟩=E ⟨t,r⟩:=(rfl)
theorem y_take {ops:List Oper} {i:Nat} {I:List Nat}:Jvb X ds ops E (i :: I) ⟨t,r⟩=YSAt X ds ops i (Jvb X ds ops E I) ⟨t,r⟩:=(rfl)
theorem y_at0 {o:Oper} {ops:List Oper}:YSAt X ds (o :: ops) 0 E ⟨t,r⟩=YS X ds ⟨t,r⟩ o (kput o.dst E ⟨t,r⟩):=(rfl)
theorem y_atS {o:Oper} {ops:List Oper} {i:Nat}:YSAt X ds (o :: ops) (i+1) E ⟨t,r⟩=YSAt X ds ops i E ⟨t,r⟩:=(rfl)
theorem y_leaf {ops:List Oper} {k:Nat}:Js2 X ds ops k E .leaf ⟨t,r⟩=E ⟨t,r⟩:=(rfl)
theorem y_nil {ops:List Oper} {k:Nat}:Js2 X ds ops k E .nil ⟨t,r⟩=True:=(rfl)
theorem y_node {ops:List Oper} {k i:Nat} {sub next:Ord}:Js2 X ds ops k E (.node i sub next) ⟨t,r⟩=((if i<k then YSAt X ds ops i (Js2 X ds ops k E sub) ⟨t,r⟩ else lAt X ds ops i (Js2 X ds ops k E sub) ⟨t,r⟩)∧Js2 X ds ops k E next ⟨t,r⟩):=(rfl)
attribute [go_sem] Kao y_take y_at0 y_atS y_leaf y_nil y_node
end
end Go.LX
namespace Go.LX
open Go Go.RowKit Go.Proofs
def farL:L→Bool
 | .p _=>true
 | .eptr _=>true
 | _=>false
theorem Jy0 {d:Nat} {l:L} (h:farL l=true):L.forget d l=l:=by
 cases l <;> simp [farL] at h <;> rfl
theorem Kdk {P:Program} {regs regs':List (Nat×Reg)} {ρ:Operand→L} {op:Op} {l:L} (hf:∀ x∈op.operands.toList,farL (ρ x)=true) (h:lqv P regs ρ op l):lqv P regs' ρ op l:=by
 cases op with
 | lookup t x ix ok =>
  have hx:=hf x (by simp [Op.operands])
  have e:Tz regs (ρ x)=Tz regs' (ρ x):=by
   unfold Tz
   cases hρ:ρ x <;> rw [hρ] at hx <;> simp [farL] at hx <;> (try rfl)
   rename_i a
   cases a <;> rfl
  simp only [lqv,Yc] at h ⊢
  rw [← e];exact h
 | call c =>
  obtain ⟨callee,args,ts⟩:=c
  cases callee with
  | builtin b =>
   cases b with
   | cap =>
    simp only [lqv] at h ⊢
    split at h
    ·rename_i x t hargs hts
     have hx:=hf x (by simp [Op.operands,Call.operands,hargs])
     revert h
     cases hρ:ρ x <;> rw [hρ] at hx <;> simp [farL] at hx
     ·rename_i a
      cases a <;> exact id
     ·exact id
    ·exact h
   | _=>exact h
  | _=>exact h
 | _=>exact h
theorem J9f {P:Program} {regs regs':List (Nat×Reg)} {ρ:Operand→L} {op:Op} {K:L→Prop} (hf:∀ x∈op.operands.toList,farL (ρ x)=true) (h:lq P regs ρ op K):lq P regs' ρ op K:=by
 have ptr:∀ {x:L} {d i j:Nat},farL x=true→x=.ptr d i j→False:=by intro x d i j h e;subst e;cases h
 unfold lq at h ⊢
 split at h
 case h_8 =>
  rename_i a
  have hx:=hf a (by simp [Op.operands])
  revert h
  unfold Jc
  generalize B2 P _=b
  rcases b with _ | _ | _ <;> cases hρ:ρ a <;> rw [hρ] at hx <;> simp [farL] at hx <;> exact id
 case h_11 =>
  rename_i x y
  have hx:=hf x (by simp [Op.operands])
  revert h
  unfold Dg
  generalize ρ y=iy
  cases hρ:ρ x <;> rw [hρ] at hx <;> simp [farL] at hx
  ·rename_i a
   cases iy with
   | p b=>cases a <;> cases b <;> exact id
   | _=>cases a <;> exact id
  ·cases iy with
   | p b=>cases b <;> exact id
   | _=>exact id
 case h_13 t x lo hi mx =>
  have hx:=hf x (by simp [Op.operands])
  revert h
  unfold G2
  generalize P.underlying t=u
  cases hρ:ρ x <;> rw [hρ] at hx <;> simp [farL] at hx
  ·rename_i a
   cases u with
   | none=>exact id
   | some u=>cases u <;> cases a <;> exact id
  ·cases u with
   | none=>exact id
   | some u=>cases u <;> exact id
 all_goals first
  | exact h
  | skip
 obtain ⟨l,h1,h2⟩:=h
 exact ⟨l,Kdk hf h1,h2⟩
section
variable {X:Cx} {ro:Option Nat} {ops:Array Oper}
def Jv9 (o:Oper):Bool:=o.guard.isNone && match o.op with
 | .move _=>true
 | .indexAddr ..=>true
 | .fieldAddr ..=>true
 | .load ..=>true
 | .binOp ..=>true
 | _=>false
def Juo (o:Oper):Bool:=o.guard.isNone && match o.op,o.dst with
 | .alloc _,some _=>true
 | _,_=>false
def Ju3 (o:Oper):Bool:=o.guard.isNone && match o.op,o.dst with
 | .store ..,none=>true
 | _,_=>false
def Jsw (s:St) (o:Oper):Prop:=∀ x∈o.op.operands.toList,farL (s.get x)=true
theorem J3r {ds:List (Option Tmp)} {s:St} {o:Oper} {K:L→Prop} (h:Jv9 o=true):YS X ds s o K=lq X.P s.regs s.get o.op K:=by
 obtain ⟨dst,op,ty,ps,af,g⟩:=o
 cases g with
 | some g=>simp [Jv9] at h
 | none =>
  unfold YS lqc
  cases op <;> first | rfl | (simp [Jv9] at h)
theorem Kc6 {s:St} {dst:Option Tmp} {v:L} {d:Nat} {r:Reg} {l:L} (hv:farL v=true) (hne:∀ x,dst=some x→x≠d):(((s.newReg d r).put (some d) l).put dst v)=(((s.put dst v).newReg d r).put (some d) l):=by
 cases dst with
 | none=>rfl
 | some x =>
  have:=hne x rfl
  simp only [St.put,St.newReg,List.map_set,Jy0 hv]
  rw [List.set_comm _ _ this]
theorem J6g {s:St} {d:Nat} {r:Reg} {l:L} {x:Operand} (hx:x≠.tmp d) (hf:farL (s.get x)=true):((s.newReg d r).put (some d) l).get x=s.get x:=by
 rw [Jmw (fun e he=>by cases he;exact hx)]
 cases x with
 | tmp i =>
  simp only [St.get,St.newReg,List.getD_eq_getElem?_getD,List.getElem?_map] at hf ⊢
  cases hi:s.tmps[i]? with
  | none=>rfl
  | some m =>
   rw [hi] at hf
   simp only [Option.map_some,Option.getD_some] at hf ⊢
   exact Jy0 hf
 | _=>rfl
theorem Jza {d:Nat} {z:Fz} {l:L} (h:farL l=true):L.freeze d z l=l:=by
 cases l <;> simp [farL] at h <;> rfl
theorem J41 {s:St} {d:Nat} {dst:Option Tmp} {v:L} (hv:farL v=true):(s.put dst v).freeze d=(s.freeze d).put dst v:=by
 cases dst with
 | none=>rfl
 | some x =>
  simp only [St.put,St.freeze,Dx]
  cases fzOf (Am d s.regs) with
  | none=>rfl
  | some z=>simp only [List.map_set,Jza hv]
theorem J37 {s:St} {d:Nat} {y:Operand} (hf:farL (s.get y)=true):(s.freeze d).get y=s.get y:=by
 unfold St.freeze Dx
 cases fzOf (Am d s.regs) with
 | none=>rfl
 | some z =>
 cases y with
 | tmp i =>
  simp only [St.get,List.getD_eq_getElem?_getD,List.getElem?_map] at hf ⊢
  cases hi:s.tmps[i]? with
  | none=>rfl
  | some m =>
   rw [hi] at hf
   simp only [Option.map_some,Option.getD_some] at hf ⊢
   exact Jza hf
 | _=>rfl
theorem Jzz {s:St} {x:Operand} {dst:Option Tmp} {v:L} (hv:farL v=true) (hx:∀ d,dst=some d→x≠.tmp d):(s.put dst v).freezeOps [x]=(s.freezeOps [x]).put dst v:=by
 simp only [St.freezeOps,Jmw hx]
 cases s.get x <;> first | rfl | (simp only;split <;> first | exact J41 hv | rfl)
theorem Jzw {s:St} {x y:Operand} (hf:farL (s.get y)=true):(s.freezeOps [x]).get y=s.get y:=by
 simp only [St.freezeOps]
 cases s.get x <;> first | rfl | (simp only;split <;> first | exact J37 hf | rfl)
theorem J3e {s:St} {dst:Option Tmp} {v:L}:(s.put dst v).regs=s.regs:=by cases dst <;> rfl
theorem Jyu {s:St} {dst:Option Tmp} {v:L} {R:Regs}:({ (s.put dst v) with regs:=R }:St)=({ s with regs:=R }:St).put dst v:=by cases dst <;> rfl
theorem J46 {P:Program} {t:TypeId} {s:St} {a x:Operand} {dst:Option Tmp} {v:L} {K:St→Prop} (hv:farL v=true) (ha:∀ d,dst=some d→a≠.tmp d) (hx:∀ d,dst=some d→x≠.tmp d) (h:Nv P t (s.put dst v) a x K) :
  Nv P t s a x fun s'=>K (s'.put dst v)∧∀ y,farL (s.get y)=true→s'.get y=s.get y:=by
 unfold Nv at h ⊢
 rw [Jmw ha,Jmw hx,J3e] at h
 split at h
 ·rename_i d i j hd
  simp only
  split at h
  ·obtain ⟨xs,h1,h2,h3,h4,h5,h6⟩:=h
   refine ⟨xs,h1,h2,h3,h4,h5,?_,fun y _=>?_⟩
   ·rw [Jyu] at h6;exact h6
   ·cases y <;> rfl
  ·rw [Jzz hv hx] at h
   obtain ⟨xs,h1,ps,h2,e,h3,h4,h5,h6,h7,h8,h9⟩:=h
   rw [Jmw hx] at h1
   rw [J3e] at h7 h9
   rw [Jmw ha] at h8
   refine ⟨xs,h1,ps,h2,e,h3,h4,h5,h6,h7,h8,?_,fun y hy=>?_⟩
   ·rw [Jyu] at h9;exact h9
   ·have:=Jzw (x:=x) hy
    cases y <;> exact this
  ·obtain ⟨xs,h1,e,h2,h3,h4,h5,h6⟩:=h
   refine ⟨xs,h1,e,h2,h3,h4,h5,?_,fun y _=>?_⟩
   ·rw [Jyu] at h6;exact h6
   ·cases y <;> rfl
  ·exact h.elim
  ·exact h.elim
 ·exact h.elim
theorem J2u {k:Nat} {K:St→Prop} {i:Nat} {oi:Oper} {v:L} (hi:ops[i]? = some oi) (hik:i<k) (hp:Jv9 oi=true) (hv:farL v=true) (hA:∀ j oj,k≤j→ops[j]? = some oj→ancB .any ops ops.size i j=true∨Juo oj=true∨Ju3 oj=true):∀ (fuel:Nat) (listed:Array Bool) (s:St),Down .any ops listed→Jsw s oi →
   (∀ j oj,ops[j]? = some oj→j≠i→listed.getD j true=false→(∀ e∈oj.after,Region.binds .any e=true→e.on≠i)→oi.apart ops oj=true) →
   i∈Region.ready .any ops listed→YS X (ops.toList.map (·.dst)) s oi (fun m=>m=v) →
   Ty X .any ops k K fuel (listed.setIfInBounds i true) (s.put oi.dst v)→Ty X .any ops k K (fuel+1) listed s:=by
 intro fuel
 induction fuel with
 | zero =>
  intro listed s hd _ _ hr hy H
  have only:∀ j∈Region.ready .any ops listed,j=i:=by
   intro j hj
   by_cases hji:j=i
   ·exact hji
   ·have:=ready_mono hj hji
    rw [H.1] at this
    cases this
  refine ⟨fun h=>(by rw [h] at hr;cases hr),fun j hj oj hoj=>?_⟩
  have:=only j hj
  subst this
  rw [hi] at hoj;cases hoj
  exact ⟨fun _=>Kr (fun l hl=>by rw [hl];exact H) hy,fun h=>by omega⟩
 | succ fuel ih =>
  intro listed s hd hfar hfree hr hy H
  refine ⟨fun h=>(by rw [h] at hr;cases hr),fun j hj oj hoj=>?_⟩
  by_cases hji:j=i
  ·subst hji;rw [hi] at hoj;cases hoj
   exact ⟨fun _=>Kr (fun l hl=>by rw [hl];exact H) hy,fun h=>by omega⟩
  ·obtain ⟨hjun,oj',hoj',hall⟩:=mem_ready.1 hj
   rw [hoj] at hoj';cases hoj'
   have hnot:∀ e∈oj.after,Region.binds .any e=true→e.on≠i:=fun e he hb heq=>by
    have h1:=hall e he hb
    have h0:=(Hn.1 (mem_ready.1 hr).1).2
    rw [heq] at h1
    rw [h1] at h0;cases h0
   obtain ⟨a1,a2,a3⟩:=Oper.apart_spec (hfree j oj hoj hji hjun hnot)
   have hfree':∀ q ok,ops[q]? = some ok→q≠i→(listed.setIfInBounds j true).getD q true=false →
     (∀ e∈ok.after,Region.binds .any e=true→e.on≠i)→oi.apart ops ok=true:=fun q ok hk hki hun hno=>by
    refine hfree q ok hk hki ?_ hno
    by_cases hjk:j=q
    ·subst hjk;exact hjun
    ·rw [getD_set_ne true hjk] at hun;exact hun
   have hop:∀ d,oj.dst=some d→∀ x∈oi.op.operands.toList,x≠.tmp d:=fun d hd x hx hxd=>a3 d hd (by
    subst hxd
    exact List.mem_append_left _ (List.mem_filterMap.2 ⟨.tmp d,by simpa using hx,rfl⟩))
   refine ⟨fun hjk=>?_,fun hkj=>?_⟩
   ·have h1:=(H.2 j (ready_mono hj hji) oj hoj).1 hjk
    refine Kr (fun l hl=>?_) (Yr a1 h1)
    refine ih (listed.setIfInBounds j true) (s.put oj.dst l) (hd.set hj) (fun x hx=>?_) hfree' (ready_mono hr (Ne.symm hji)) (Uk a3 hy) ?_
    ·rw [Jmw (fun d hd=>hop d hd x hx)];exact hfar x hx
    ·rw [Array.setIfInBounds_comm _ _ hji]
     rw [← St.put_comm s v l a2]
     exact hl
   ·have hal:Juo oj=true∨Ju3 oj=true:=by
     rcases hA j oj hkj hoj with h | h
     ·exfalso
      have h1:=Qb hd _ i j oj hoj hall h
      have h2:=(Hn.1 (mem_ready.1 hr).1).2
      rw [h1] at h2;cases h2
     ·exact h
    obtain ⟨C,h1,h2⟩:=(H.2 j (ready_mono hj hji) oj hoj).2 hkj
    have hlook:∀ d,oi.dst=some d→∀ x∈oj.op.operands.toList,x≠.tmp d:=fun d hd x hx hxd=>a1 d hd (by
     subst hxd
     exact List.mem_append_left _ (List.mem_filterMap.2 ⟨.tmp d,by simpa using hx,rfl⟩))
    obtain ⟨dst,op,ty,ps,af,g⟩:=oj
    cases g with
    | some g=>simp [Juo,Ju3] at hal
    | none =>
    rcases hal with hal | hal
    ·cases dst with
     | none=>cases op <;> simp [Juo] at hal
     | some d =>
     cases op <;> simp [Juo] at hal
     rename_i T
     unfold lAt at h1
     rw [Array.getElem?_toList,hoj] at h1
     simp only [F4,lop] at h1
     obtain ⟨hd1,zs,hzs,hC⟩:=h1
     have hne:∀ x,oi.dst=some x→x≠d:=fun x hx e=>a2 x hx (by rw [e])
     have hop':=hop d rfl
     refine ⟨fun s'=>s'=(s.newReg d (.var T (zs.map .p))).put (some d) (.ptr d 0 0),?_,?_⟩
     ·unfold lAt
      rw [Array.getElem?_toList,hoj]
      exact ⟨hd1,zs,hzs,rfl⟩
     ·rintro s' rfl
      have hg:∀ x∈oi.op.operands.toList,((s.newReg d (.var T (zs.map .p))).put (some d) (.ptr d 0 0)).get x=s.get x:=fun x hx=>J6g (hop' x hx) (hfar x hx)
      refine ih (listed.setIfInBounds j true) _ (hd.set hj) (fun x hx=>by rw [hg x hx];exact hfar x hx) hfree' (ready_mono hr (Ne.symm hji)) ?_ ?_
      ·rw [J3r hp] at hy ⊢
       exact J9f (fun x hx=>by rw [hg x hx];exact hfar x hx) (Jj8 hg hy)
      ·rw [Array.setIfInBounds_comm _ _ hji,Kc6 hv hne]
       exact h2 _ hC
    ·cases dst with
     | some d=>cases op <;> simp [Ju3] at hal
     | none =>
     cases op <;> simp [Ju3] at hal
     rename_i T a x
     unfold lAt at h1
     rw [Array.getElem?_toList,hoj] at h1
     simp only [F4,lop] at h1
     have h3:=J46 hv (fun d hd=>hlook d hd a (by simp [Op.operands])) (fun d hd=>hlook d hd x (by simp [Op.operands])) h1
     refine ⟨fun s'=>C (s'.put oi.dst v)∧∀ y,farL (s.get y)=true→s'.get y=s.get y,?_,?_⟩
     ·unfold lAt
      rw [Array.getElem?_toList,hoj]
      exact h3
     ·rintro s' ⟨hC,hgy⟩
      have hg:∀ x∈oi.op.operands.toList,s'.get x=s.get x:=fun x hx=>hgy x (hfar x hx)
      refine ih (listed.setIfInBounds j true) _ (hd.set hj) (fun x hx=>by rw [hg x hx];exact hfar x hx) hfree' (ready_mono hr (Ne.symm hji)) ?_ ?_
      ·rw [J3r hp] at hy ⊢
       exact J9f (fun x hx=>by rw [hg x hx];exact hfar x hx) (Jj8 hg hy)
      ·rw [Array.setIfInBounds_comm _ _ hji]
       exact h2 _ hC
def Jtn (X:Cx) (ds:List (Option Tmp)) (ops:List Oper) (E:St→Prop):List Nat→St→Prop
 | [],s=>E s
 | i :: I,s=>match ops[i]? with
  | some o=>Jsw s o∧YS X ds s o fun l=>farL l=true∧Jtn X ds ops E I (s.put o.dst l)
  | none=>False
def J1v (ops:Array Oper) (k:Nat):List Nat→Array Bool→Bool
 | [],_=>true
 | i :: I,listed=>(Region.ready .any ops listed).contains i && (Region.free .any ops listed i && (decide (i<k) && ((match ops[i]? with | some o=>Jv9 o | none=>false) && ((List.range ops.size).all (fun j=>decide (j<k) || (ancB .any ops ops.size i j || match ops[j]? with | some o=>Juo o || Ju3 o | none=>false)) && J1v ops k I (listed.setIfInBounds i true)))))
theorem Jvw {k:Nat} {K:St→Prop} {fuel:Nat}:∀ (I:List Nat) (listed:Array Bool) (s:St),J1v ops k I listed=true→Down .any ops listed →
  Jtn X (ops.toList.map (·.dst)) ops.toList (Ty X .any ops k K fuel (Jyg I listed)) I s→Ty X .any ops k K (fuel+I.length) listed s
 | [],listed,s,_,_,h=>h
 | i :: I,listed,s,hB,hd,h=>by
  simp only [J1v,Bool.and_eq_true,List.contains_eq_mem,decide_eq_true_eq] at hB
  obtain ⟨h1,h2,h3,hp,h4,h5⟩:=hB
  obtain ⟨_,oi,hoi,_⟩:=mem_ready.1 h1
  rw [hoi] at hp
  simp only [Jtn] at h
  rw [Array.getElem?_toList,hoi] at h
  obtain ⟨hf,h⟩:=h
  obtain ⟨v,hy,hv,hK⟩:=Jab (X:=X) h
  refine J2u hoi h3 hp hv (fun j oj hj hoj=>?_) (fuel+I.length) listed s hd hf (Region.free_spec hoi h2) h1 hy (Jvw I _ _ h5 (hd.set h1) hK)
  have:=List.all_eq_true.1 h4 j (List.mem_range.2 (Array.getElem?_eq_some_iff.1 hoj).1)
  rw [Bool.or_eq_true,decide_eq_true_eq,hoj,Bool.or_eq_true] at this
  rcases this with h | h | h
  ·omega
  ·exact .inl h
  ·exact .inr (by simpa using h)
theorem Jw5 {ds:List (Option Tmp)} {os:List Oper} {E E':St→Prop} (hE:∀ s,E s→E' s):∀ (I:List Nat) (s:St),Jtn X ds os E I s→Jtn X ds os E' I s
 | [],s,h=>hE s h
 | i :: I,s,h=>by
  simp only [Jtn] at h ⊢
  split
  ·rename_i o ho
   rw [ho] at h
   exact ⟨h.1,Kr (fun l hl=>⟨hl.1,Jw5 hE I _ hl.2⟩) h.2⟩
  ·rename_i ho
   rw [ho] at h
   exact h
theorem Jt5 {id:Nat} {Q:Ex→St→Prop} {s:St} (k:Nat) (I:List Nat) (T:Ord) (f:Nat) (hm:X.P.follows .mixedOrders=true) (hf:f+I.length=ops.size) (hB:J1v ops k I (Array.replicate ops.size false)=true) (hT:P6 ops f (Jyg I (Array.replicate ops.size false))=T)
  (h:Jtn X (ops.toList.map (·.dst)) ops.toList (Js2 X (ops.toList.map (·.dst)) ops.toList k (Q .normal) T) I s):SWP X ro (.region id ops true) Q s:=fun Γ a w hG hr=>by
 have h':RR Γ s a { w with drawn:=w.drawn+1 }:=by
  obtain ⟨ms,hdef,β,Im,hx⟩:=hr
  exact ⟨ms,hdef,β,Im,hx.grow (Grow.drew hx.fit.im)⟩
 refine wpIn_region_any hm (G0 (k:=k) (K:=Q .normal) hG (fun s _ _ h1 h2=>⟨s,h1,h2⟩) _ _ s a _ h' ?_)
 have hd:Down .any ops (Array.replicate ops.size false):=by
  intro i o ho hl
  exfalso
  have hi:=(Array.getElem?_eq_some_iff.1 ho).1
  simp [Array.getD_eq_getD_getElem?,hi] at hl
 have:=Jvw (X:=X) (K:=Q .normal) (fuel:=f) I (Array.replicate ops.size false) s hB hd ?_
 ·rw [hf] at this;exact this
 ·subst hT
  exact Jw5 (fun s hs=>Js6 f _ s hs) I s h
end
section
variable {X:Cx} {ds:List (Option Tmp)} {t:List L} {r:Regs} {E:St→Prop} {dst:Option Tmp} {ty:TypeId} {ps:String} {af:Array Edge} {g:Option (Nat×Bool)}
def YVar (X:Cx) (ds:List (Option Tmp)) (ops:List Oper) (i:Nat) (C:St→Prop) (s:St):Prop:=match ops[i]? with
 | some o=>Jsw s o∧YS X ds s o fun l=>farL l=true∧C (s.put o.dst l)
 | none=>False
def kfar (dst:Option Tmp) (C:St→Prop) (s:St) (l:L):Prop:=farL l=true∧C (s.put dst l)
theorem Kaj {ops:List Oper}:Jtn X ds ops E [] ⟨t,r⟩=E ⟨t,r⟩:=(rfl)
theorem v_take {ops:List Oper} {i:Nat} {I:List Nat}:Jtn X ds ops E (i :: I) ⟨t,r⟩=YVar X ds ops i (Jtn X ds ops E I) ⟨t,r⟩:=(rfl)
theorem v_at0 {o:Oper} {ops:List Oper}:YVar X ds (o :: ops) 0 E ⟨t,r⟩=(Jsw ⟨t,r⟩ o∧YS X ds ⟨t,r⟩ o (kfar o.dst E ⟨t,r⟩)):=(rfl)
theorem v_atS {o:Oper} {ops:List Oper} {i:Nat}:YVar X ds (o :: ops) (i+1) E ⟨t,r⟩=YVar X ds ops i E ⟨t,r⟩:=(rfl)
theorem v_kp {x:PV}:kfar dst E ⟨t,r⟩ (.p x)=kput dst E ⟨t,r⟩ (.p x):=by simp [kfar,farL,kput]
theorem v_ke {cs:List PV}:kfar dst E ⟨t,r⟩ (.eptr cs)=kput dst E ⟨t,r⟩ (.eptr cs):=by simp [kfar,farL,kput]
theorem v_fp {x:PV}:(farL (.p x)=true)=True:=by simp [farL]
theorem v_fe {cs:List PV}:(farL (.eptr cs)=true)=True:=by simp [farL]
theorem v_move {x:Operand}:Jsw ⟨t,r⟩ ⟨dst,.move x,ty,ps,af,g⟩=(farL ((St.mk t r).get x)=true):=by simp [Jsw,Op.operands]
theorem v_ia {T:TypeId} {x y:Operand}:Jsw ⟨t,r⟩ ⟨dst,.indexAddr T x y,ty,ps,af,g⟩=(farL ((St.mk t r).get x)=true∧farL ((St.mk t r).get y)=true):=by simp [Jsw,Op.operands]
theorem v_fa {T:TypeId} {x:Operand} {f:Nat}:Jsw ⟨t,r⟩ ⟨dst,.fieldAddr T x f,ty,ps,af,g⟩=(farL ((St.mk t r).get x)=true):=by simp [Jsw,Op.operands]
theorem v_ld {T:TypeId} {x:Operand}:Jsw ⟨t,r⟩ ⟨dst,.load T x,ty,ps,af,g⟩=(farL ((St.mk t r).get x)=true):=by simp [Jsw,Op.operands]
def callQ (X:Cx) (args:List L) (C:L→Prop) (l:L):Prop:=match l with
 | .fn g []=>Bi X g args C
 | _=>False
theorem Kda {n:Tmp} {args:Array Operand} {ats:Array TypeId} {C:L→Prop}:lqc X ⟨t,r⟩ ⟨dst,.call { callee:=.value (.tmp n),args:=args,argTypes:=ats },ty,ps,af,g⟩ C=callQ X (args.toList.map (St.mk t r).get) C ((St.mk t r).get (.tmp n)):=(rfl)
theorem Kdc {f:FuncId} {args:List L} {C:L→Prop}:callQ X args C (.fn f [])=Bi X f args C:=(rfl)
attribute [go_sem] Kda Kdc Kaj v_take v_at0 v_atS v_kp v_ke v_fp v_fe v_move v_ia v_fa v_ld
end
end Go.LX
namespace Go.LX
open Go Go.RowKit Go.Proofs
theorem Al.perm {X:Cx} {f:FuncId} {args:List L} {rs rs':Regs} {Post:L→Regs→Prop} (hp:rs'.Perm rs) (h:Al X f args rs Post):Al X f args rs' Post:=by
 refine ⟨h.1,fun β Im w vs hg hf=>?_⟩
 have hmi:∀ x,x∈rs ↔ x∈rs':=fun x=>hp.symm.mem_iff
 have hf':Fit β w Im ⟨args,rs⟩ ⟨vs⟩:={ size:=hf.size,tmps:=hf.tmps,im:=hf.im,regs:=fun d r hd=>hf.regs d r ((hmi _).1 hd),nodup:=((hp.map _).nodup_iff).1 hf.nodup,live:=fun d r loc hd hl=>hf.live d r loc ((hmi _).1 hd) hl,apart:=fun d r d' r' l1 l2 hd hd' hne h1 h2=>hf.apart d r d' r' l1 l2 ((hmi _).1 hd) ((hmi _).1 hd') hne h1 h2 }
 refine (h.2 β Im w vs hg hf').mono fun e w' ⟨v,m,q,β',Im',he,hP,hr,hc⟩=>⟨v,m,q,β',Im',he,hP,hr,?_⟩
 exact { hc with
  block:=fun k hk hno=>hc.block k hk fun d r loc hd hl=>hno d r loc ((hmi _).1 hd) hl
  imnew:=fun b hb=>by
   rcases hc.imnew b hb with h | h | ⟨d,r,loc,h1,h2⟩
   ·exact .inl h
   ·exact .inr (.inl h)
   ·exact .inr (.inr ⟨d,r,loc,(hmi _).1 h1,h2⟩)
  keys:=fun d r hd=>by
   rcases hc.keys d r hd with h | ⟨r0,h⟩
   ·exact .inl h
   ·exact .inr ⟨r0,(hmi _).1 h⟩
  regnew:=fun d r loc hd hl=>by
   rcases hc.regnew d r loc hd hl with h | ⟨d1,r1,loc1,h1,h2⟩
   ·exact .inl h
   ·exact .inr ⟨d1,r1,loc1,(hmi _).1 h1,h2⟩ }
end Go.LX
set_option maxRecDepth 100000
set_option maxHeartbeats 2000000
namespace Go.LX
open Go Go.RowKit Go.Proofs
attribute [local irreducible] Al SWP Bi
theorem nc_num (m m':Int) (nm nm' s s':List UInt8) (g g':Bool) (e e':Int) (h:Yz s g e) (h':Yz s' g' e'):Det cx 184 [.p (.agg [.int .i64 3,.int .i64 m,.str nm,.str s,.bool g,.int .i64 e]),.p (.agg [.int .i64 3,.int .i64 m',.str nm',.str s',.bool g',.int .i64 e'])] [] (.p (.int .i64 (Jty (ndN s g e) (ndN s' g' e')))) []:=by
 have:=J7k ⟨3,m,nm,s,g,e⟩ ⟨3,m',nm',s',g',e'⟩ (Jwa h) (Jwa h')
 exact this
theorem J97 (s s':List UInt8) (g g':Bool) (e e':Int) (h:Yz s g e) (h':Yz s' g' e'):Det cx 189 [.p (.agg [.int .i64 3,.int .i64 0,.str [],.str s,.bool g,.int .i64 e]),.p (.agg [.int .i64 3,.int .i64 0,.str [],.str s',.bool g',.int .i64 e'])] [] (.p (.int .i64 (Jty (ndN s g e) (ndN s' g' e')))) []:=by
 have:=J94 ⟨3,0,[],s,g,e⟩ ⟨3,0,[],s',g',e'⟩ (Jwa h) (Jwa h')
 rw [← J4x h h']
 exact this
theorem J1e {a b:Int} (h:¬ a=b):¬ cmpI a b=0:=by
 unfold cmpI
 split
 ·decide
 ·split
  ·decide
  ·omega
theorem Jud {k:Int} {s:List UInt8} {g:Bool} {e:Int} {kids:Forest} (h:okT (.mk k s g e kids)) {p:KT} (hp:p∈kids.list):okT p.2:=Jdo.1 (Lu.1 h).2.2 p hp
theorem J7m (n:Nat) (t u:Tree) (hn:(t.enc []).length≤n) (ht:okT t) (hu:okT u) (hs:(t.enc []).length≤1000000) (hs':(u.enc []).length≤1000000):Det cx 105 [.p (.sl (valL (t.enc []))),.p (.sl (valL (u.enc [])))] [] (.p (.int .i64 (cmpT t u))) []:=by
 induction n generalizing t u with
 | zero=>have:=Et t [];omega
 | succ n ih =>
 cases t with
 | mk k s g e kids =>
 cases u with
 | mk k' s' g' e' kids' =>
 have hok:=Lu.1 ht
 have hok':=Lu.1 hu
 rw [A6,List.length_cons] at hn hs hs'
 have hg:=Cc [] k s g e kids
 have hg':=Cc [] k' s' g' e' kids'
 have hll:=Forest.len_le kids
 have hll':=Forest.len_le kids'
 have hkl:=Forest.list_len kids
 have hkl':=Forest.list_len kids'
 have hc:∀ p∈kids.list,∀ q∈kids'.list,Det cx 105 [.p (.sl (valL (p.2.enc []))),.p (.sl (valL (q.2.enc [])))] [] (.p (.int .i64 (cmp2 p q))) []:=fun p hp q hq=>ih p.2 q.2 (by have:=Jd7 hp;omega) (Jud ht hp) (Jud hu hq) (by have:=Jd7 hp;omega) (by have:=Jd7 hq;omega)
 have hCF:=Jz3 kids.list kids'.list (by omega) (by omega) hc
 by_cases hkk:k=k'
 ·subst hkk
  by_cases h3:k=3
  ·subst h3
   (refine Jqa false [] Tryz.func105 ?_;refine Ae hm _ _ _ ?_;simp only [Tryz.ntmps105,Tryz.results105,go_sem,simprocAttr,hg,hg',if_true,if_false])
   (repeat' (first | (refine iteI (fun h=>?_) (fun h=>?_))|((first | (refine Jqd hm ?_)|(refine Det.useQ (Jw2 _ _) ?_)|(refine Det.useQ (nc_num _ _ _ _ _ _ _ _ _ _ (Jsy hok.1 rfl) (Jsy hok'.1 rfl)) ?_));simp only [go_sem,simprocAttr,hg,hg']) | fail))
   all_goals first
    | exact absurd (Jrp _) (by assumption)
    | (rw [Jrd,if_pos rfl,if_pos rfl];done)
  ·by_cases h4:k=4
   ·subst h4
    (refine Jqa false [] Tryz.func105 ?_;refine Ae hm _ _ _ ?_;simp only [Tryz.ntmps105,Tryz.results105,go_sem,simprocAttr,hg,hg',if_true,if_false])
    (repeat' (first | (refine iteI (fun h=>?_) (fun h=>?_))|((first | (refine Jqd hm ?_)|(refine Det.useQ (Jw2 _ _) ?_)|(refine Det.useQ (J9j _ _) ?_));simp only [go_sem,simprocAttr,hg,hg']) | fail))
    all_goals first
     | exact absurd (Jrp _) (by assumption)
     | (rw [Jrd,if_pos rfl,if_neg (by decide),if_pos rfl];done)
   ·by_cases h6:k=6
    ·subst h6
     (refine Jqa false [] Tryz.func105 ?_;refine Ae hm _ _ _ ?_;simp only [Tryz.ntmps105,Tryz.results105,go_sem,simprocAttr,hg,hg',if_true,if_false])
     (repeat' (first | (refine iteI (fun h=>?_) (fun h=>?_))|((first | (refine Jqd hm ?_)|(refine Det.useQ (Jw2 _ _) ?_)|(refine Det.use (J5q [] s g e kids (by omega)) ?_)|(refine Det.use (J5q [] s' g' e' kids' (by omega)) ?_)|(refine Det.use (Jy4 _ _ (by omega) (by omega)) ?_)|(refine Det.use (Px [] 6 s g e kids (by omega)) ?_)|(refine Det.use (Px [] 6 s' g' e' kids' (by omega)) ?_)|(refine Det.use (hCF) ?_));simp only [go_sem,simprocAttr,hg,hg']) | fail))
     all_goals first
      | exact absurd (Jrp _) (by assumption)
      | (rw [Jrd,if_pos rfl,if_neg (by decide),if_neg (by decide),if_pos rfl,if_neg (by assumption)];done)
      | (rw [Jrd,if_pos rfl,if_neg (by decide),if_neg (by decide),if_pos rfl,if_pos (Decidable.not_not.1 (by assumption)),Jtf];done)
    ·by_cases h5:k=5
     ·subst h5
      (refine Jqa false [] Tryz.func105 ?_;refine Ae hm _ _ _ ?_;simp only [Tryz.ntmps105,Tryz.results105,go_sem,simprocAttr,hg,hg',if_true,if_false])
      (repeat' (first | (refine iteI (fun h=>?_) (fun h=>?_))|((first | (refine Jqd hm ?_)|(refine Det.useQ (Jw2 _ _) ?_)|(refine Det.use (Px [] 5 s g e kids (by omega)) ?_)|(refine Det.use (Px [] 5 s' g' e' kids' (by omega)) ?_)|(refine Det.use (hCF) ?_));simp only [go_sem,simprocAttr,hg,hg']) | fail))
      all_goals first
       | exact absurd (Jrp _) (by assumption)
       | (rw [Jrd,if_pos rfl,if_neg (by decide),if_neg (by decide),if_neg (by decide),if_pos rfl,Jtf];done)
     ·(refine Jqa false [] Tryz.func105 ?_;refine Ae hm _ _ _ ?_;simp only [Tryz.ntmps105,Tryz.results105,go_sem,simprocAttr,hg,hg',if_true,if_false])
      (repeat' (first | (refine iteI (fun h=>?_) (fun h=>?_))|((first | (refine Jqd hm ?_)|(refine Det.useQ (Jw2 _ _) ?_));simp only [go_sem,simprocAttr,hg,hg'])|(exfalso;omega)))
      all_goals first
       | exact absurd (Jrp _) (by assumption)
       | (rw [Jrd,if_pos rfl,if_neg h3,if_neg h4,if_neg h6,if_neg h5];done)
 ·(refine Jqa false [] Tryz.func105 ?_;refine Ae hm _ _ _ ?_;simp only [Tryz.ntmps105,Tryz.results105,go_sem,simprocAttr,hg,hg',if_true,if_false])
  (repeat' (first | (refine iteI (fun h=>?_) (fun h=>?_))|((first | (refine Jqd hm ?_)|(refine Det.useQ (Jw2 _ _) ?_));simp only [go_sem,simprocAttr,hg,hg']) | fail))
  all_goals first
   | (rw [Jrd,if_neg hkk];done)
   | exact absurd (Decidable.not_not.1 (by assumption)) (J1e hkk)
   | exact absurd (by assumption) (J1e hkk)
theorem J6j {a b:Int}:cmpI a b=if a=b then 0 else if a<b then -1 else 1:=by
 unfold cmpI
 split
 ·rw [if_neg (by omega)]
 ·split
  ·rw [if_neg (by omega)]
  ·rw [if_pos (by omega)]
theorem Juz {a b:List UInt8}:cmpS a b=if a=b then 0 else if Op.bytesLess a b=true then -1 else 1:=by
 by_cases h:a=b
 ·subst h;rw [if_pos rfl,Jsl]
 ·rw [if_neg h,J5c h]
theorem Jwx (n:Nat) (t u:Tree) (hn:(t.enc []).length≤n) (ht:okT t) (hu:okT u) (hs:(t.enc []).length≤1000000) (hs':(u.enc []).length≤1000000):Det cx 107 [.p (.sl (valL (t.enc []))),.p (.sl (valL (u.enc [])))] [] (.p (.int .i64 (cmpT t u))) []:=by
 induction n generalizing t u with
 | zero=>have:=Et t [];omega
 | succ n ih =>
 cases t with
 | mk k s g e kids =>
 cases u with
 | mk k' s' g' e' kids' =>
 have hok:=Lu.1 ht
 have hok':=Lu.1 hu
 rw [A6,List.length_cons] at hn hs hs'
 have hg:=Cc [] k s g e kids
 have hg':=Cc [] k' s' g' e' kids'
 have hll:=Forest.len_le kids
 have hll':=Forest.len_le kids'
 have hkl:=Forest.list_len kids
 have hkl':=Forest.list_len kids'
 have hc:∀ p∈kids.list,∀ q∈kids'.list,Det cx 107 [.p (.sl (valL (p.2.enc []))),.p (.sl (valL (q.2.enc [])))] [] (.p (.int .i64 (cmp2 p q))) []:=fun p hp q hq=>ih p.2 q.2 (by have:=Jd7 hp;omega) (Jud ht hp) (Jud hu hq) (by have:=Jd7 hp;omega) (by have:=Jd7 hq;omega)
 have hCF:=J4i kids.list kids'.list (by omega) (by omega) hc
 by_cases hkk:k=k'
 ·subst hkk
  by_cases h3:k=3
  ·subst h3
   have hm0:(kids.len:Int)=0:=by have:=hok.1;simp [G3] at this;omega
   have hm1:(kids'.len:Int)=0:=by have:=hok'.1;simp [G3] at this;omega
   rw [hm0] at hg
   rw [hm1] at hg'
   (refine Jqa false [] Tryz.func107 ?_;refine Ae hm _ _ _ ?_;simp only [Tryz.ntmps107,Tryz.results107,go_sem,simprocAttr,hg,hg',if_true,if_false,hg,hg'])
   (repeat' (first | ((refine Jqd hm ?_);simp only [go_sem,simprocAttr,hg,hg',hg,hg']) | fail))
   refine Jt5 6 [0,1,2,3,4,5] (.node 6 (.node 7 (.node 8 (.node 9 .leaf .nil) .nil) .nil) (.node 7 (.node 6 (.node 8 (.node 9 .leaf .nil) .nil) .nil) .nil)) 4 hm rfl (by kernel_rfl) (by kernel_rfl) ?_
   simp only [go_sem,simprocAttr,hg,hg',hg,hg']
   refine ⟨?_,?_⟩
   ·(repeat' (first | ((refine Det.use (J97 _ _ _ _ _ _ (Jsy hok.1 rfl) (Jsy hok'.1 rfl)) ?_);simp only [go_sem,simprocAttr]) | fail))
    rw [Jrd,if_pos rfl,if_pos rfl]
   ·(repeat' (first | ((refine Det.use (J97 _ _ _ _ _ _ (Jsy hok.1 rfl) (Jsy hok'.1 rfl)) ?_);simp only [go_sem,simprocAttr]) | fail))
    rw [Jrd,if_pos rfl,if_pos rfl]
  ·by_cases h4:k=4
   ·subst h4
    (refine Jqa false [] Tryz.func107 ?_;refine Ae hm _ _ _ ?_;simp only [Tryz.ntmps107,Tryz.results107,go_sem,simprocAttr,hg,hg',if_true,if_false])
    (repeat' (first | ((first | (refine Jqd hm ?_)|(refine Det.useQ (Jtx _ _) ?_));simp only [go_sem,simprocAttr,hg,hg']) | fail))
    all_goals first
     | exact (by rw [Jrd,if_pos rfl,if_neg (by decide),if_pos rfl,Juz]:cmpT _ _=_).symm
   ·by_cases h6:k=6
    ·subst h6
     (refine Jqa false [] Tryz.func107 ?_;refine Ae hm _ _ _ ?_;simp only [Tryz.ntmps107,Tryz.results107,go_sem,simprocAttr,hg,hg',if_true,if_false])
     (repeat' (first | (refine iteI (fun h=>?_) (fun h=>?_))|((first | (refine Jqd hm ?_)|(refine Det.use (Ir [] s g e kids (by omega)) ?_)|(refine Det.use (Ir [] s' g' e' kids' (by omega)) ?_)|(refine Det.use (J26 _ _ (by omega) (by omega)) ?_)|(refine Det.use (Dy [] 6 s g e kids (by omega)) ?_)|(refine Det.use (Dy [] 6 s' g' e' kids' (by omega)) ?_)|(refine Det.use (hCF) ?_));simp only [go_sem,simprocAttr,hg,hg']) | fail))
     all_goals first
      | (rw [Jrd,if_pos rfl,if_neg (by decide),if_neg (by decide),if_pos rfl,if_neg (by assumption)];done)
      | (rw [Jrd,if_pos rfl,if_neg (by decide),if_neg (by decide),if_pos rfl,if_pos (Decidable.not_not.1 (by assumption)),Jtf];done)
    ·by_cases h5:k=5
     ·subst h5
      (refine Jqa false [] Tryz.func107 ?_;refine Ae hm _ _ _ ?_;simp only [Tryz.ntmps107,Tryz.results107,go_sem,simprocAttr,hg,hg',if_true,if_false])
      (repeat' (first | ((first | (refine Jqd hm ?_)|(refine Det.use (Dy [] 5 s g e kids (by omega)) ?_)|(refine Det.use (Dy [] 5 s' g' e' kids' (by omega)) ?_)|(refine Det.use (hCF) ?_));simp only [go_sem,simprocAttr,hg,hg']) | fail))
      all_goals first
       | (rw [Jrd,if_pos rfl,if_neg (by decide),if_neg (by decide),if_neg (by decide),if_pos rfl,Jtf];done)
     ·have h3':=eq_false h3
      have h4':=eq_false h4
      have h5':=eq_false h5
      have h6':=eq_false h6
      (refine Jqa false [] Tryz.func107 ?_;refine Ae hm _ _ _ ?_;simp only [Tryz.ntmps107,Tryz.results107,go_sem,simprocAttr,hg,hg',if_true,if_false,h3',h4',h5',h6'])
      (repeat' (first | ((refine Jqd hm ?_);simp only [go_sem,simprocAttr,hg,hg',h3',h4',h5',h6']) | fail))
      all_goals first
       | (rw [Jrd,if_pos rfl,if_neg h3,if_neg h4,if_neg h6,if_neg h5];done)
 ·have hkk':=eq_false hkk
  (refine Jqa false [] Tryz.func107 ?_;refine Ae hm _ _ _ ?_;simp only [Tryz.ntmps107,Tryz.results107,go_sem,simprocAttr,hg,hg',if_true,if_false,hkk'])
  (repeat' (first | ((first | (refine Jqd hm ?_)|(refine Det.use (Jtx _ _) ?_));simp only [go_sem,simprocAttr,hg,hg',hkk']) | fail))
  all_goals first
   | (rw [Jrd,if_neg hkk,J6j,if_neg hkk];done)
def Jqh (l:List Tree):List (List PV):=l.map fun t=>[.sl (valL (t.enc []))]
@[simp] theorem Jqj (l:List Tree):(Jqh l).length=l.length:=by simp [Jqh]
theorem Jro {l:List Tree} {i:Nat} {t:Tree} (h:l[i]? = some t):(Jqh l)[i]? = some [.sl (valL (t.enc []))]:=by simp [Jqh,h]
def Jrr:List Tree→Bool
 | a :: b :: l=>decide (0≤cmpT b a) && Jrr (b :: l)
 | _=>true
theorem Jtw:∀ {l:List Tree},Jrr l=true ↔ ∀ (i:Nat) (a b:Tree),l[i]? = some a→l[i+1]? = some b→0≤cmpT b a
 | []=>by simp [Jrr]
 | [a]=>by
  simp only [Jrr,true_iff]
  intro i x y hx hy
  simp at hy
 | a :: b :: l=>by
  rw [Jrr,Bool.and_eq_true,decide_eq_true_eq,Jtw (l:=b :: l)]
  constructor
  ·rintro ⟨h1,h2⟩ i x y hx hy
   cases i with
   | zero=>simp at hx hy;subst hx;subst hy;exact h1
   | succ i=>exact h2 i x y (by simpa using hx) (by simpa using hy)
  ·intro h
   exact ⟨h 0 a b rfl rfl,fun i x y hx hy=>h (i+1) x y (by simpa using hx) (by simpa using hy)⟩
theorem J6e {l:List Tree} {i:Nat} {a b:Tree} (ha:l[i]? = some a) (hb:l[i+1]? = some b) (h:cmpT b a<0):false=Jrr l:=by
 cases hr:Jrr l with
 | false=>rfl
 | true=>have:=Jtw.1 hr i a b ha hb;omega
def okTs (l:List Tree):Prop:=l.length≤1000000∧∀ t∈l,okT t∧(t.enc []).length≤1000000
theorem J4j (l:List Tree) (hl:okTs l):Det cx 141 [.p (.sl (Jqh l)),.fn 105 []] [] (.p (.bool (Jrr l))) []:=by
 obtain ⟨hll,ho⟩:=hl
 have w0:IntKind.i64.wrap ((l.length:Int) - 1)=(l.length:Int) - 1:=Aa (by omega) (by omega)
 (refine Jqa false [] Tryz.func141 ?_;refine Ae hm _ _ _ ?_;simp only [Tryz.ntmps141,Tryz.results141,go_sem,simprocAttr,Jqj,w0,if_true,if_false])
 skip
 refine SWP.loop (fun k:Nat=>⟨Ba 25 [(0,.p (.sl (Jqh l))),(1,.fn 105 []),(5,.p (.int .i64 ((l.length:Int) - 1 - k)))],[]⟩) (fun k=>k≤l.length∧∀ (i:Nat) (a b:Tree),l.length≤i+1+k→l[i]? = some a→l[i+1]? = some b→0≤cmpT b a) (fun k=>l.length - k) 0 (by rw [show ((0:Nat):Int)=0 from rfl,Int.sub_zero];exact Jqb) ⟨Nat.zero_le _,fun i a b h1 h2 h3=>by have:=(List.getElem?_eq_some_iff.1 h3).1;omega⟩ ?_
 rintro k ⟨h1,h2⟩
 by_cases hk:k+1<l.length
 ·have c1:((0:Int)<(l.length:Int) - 1 - (k:Int))=True:=eq_true (by omega)
  obtain ⟨i,hi⟩:∃ i,l.length=i+1+1+k:=⟨l.length - 2 - k,by omega⟩
  have hi1:(l.length:Int) - 1 - (k:Int)=((i+1:Nat):Int):=by omega
  have w1:IntKind.i64.wrap (((i+1:Nat):Int) - 1)=(i:Int):=by rw [Aa (by omega) (by omega)];omega
  obtain ⟨a,ha⟩:∃ a,l[i]? = some a:=⟨_,List.getElem?_eq_getElem (by omega)⟩
  obtain ⟨b,hb⟩:∃ b,l[i+1]? = some b:=⟨_,List.getElem?_eq_getElem (by omega)⟩
  have hga:=Jro ha
  have hgb:=Jro hb
  have c2:((0:Int)<((i+1:Nat):Int))=True:=eq_true (by omega)
  obtain ⟨oa,sa⟩:=ho a (List.mem_of_getElem? ha)
  obtain ⟨ob,sb⟩:=ho b (List.mem_of_getElem? hb)
  have hC:=J7m (b.enc []).length b a (Nat.le_refl _) ob oa sb sa
  rw [hi1]
  (refine Ae hm _ _ _ ?_;simp only [go_sem,simprocAttr,c2])
  (repeat' (first | (refine iteI (fun h=>?_) (fun h=>?_))|((first | (refine Jqd hm ?_)|(refine Det.useQ (hC) ?_));simp only [go_sem,simprocAttr,w1,hga,hgb]) | fail))
  ·exact J6e ha hb (by assumption)
  ·refine ⟨k+1,⟨by omega,fun i' a' b' q1 q2 q3=>?_⟩,by omega,?_⟩
   ·by_cases hii:i'=i
    ·subst hii
     rw [ha] at q2;rw [hb] at q3
     cases q2;cases q3
     omega
    ·exact h2 i' a' b' (by omega) q2 q3
   ·rw [show (l.length:Int) - 1 - ((k+1:Nat):Int)=(i:Int) by omega]
    exact Jqb
 ·have c1:((0:Int)<(l.length:Int) - 1 - (k:Int))=False:=eq_false (by omega)
  (refine Ae hm _ _ _ ?_;simp only [go_sem,simprocAttr,c1])
  skip
  exact (Jtw.2 fun i a b q1 q2=>h2 i a b (by omega) q1 q2).symm
theorem Kdn (l:List Tree) (hl:okTs l):Det cx 59 [.p (.sl (Jqh l))] [] (.p (.bool (Jrr l))) []:=by
 (refine Jqa false [] Tryz.func59 ?_;refine Ae hm _ _ _ ?_;simp only [Tryz.ntmps59,Tryz.results59,go_sem,simprocAttr])
 (repeat' (first | ((refine Det.use (J4j l hl) ?_);simp only [go_sem,simprocAttr]) | fail))
theorem Kb6 (l:List Tree) (hl:okTs l):Det cx 67 [.p (.sl (Jqh l))] [] (.p (.bool (Jrr l))) []:=by
 obtain ⟨hll,ho⟩:=hl
 (refine Jqa false [] Tryz.func67 ?_;refine Ae hm _ _ _ ?_;simp only [Tryz.ntmps67,Tryz.results67,go_sem,simprocAttr,Jqj,if_true,if_false])
 refine SWP.loop (fun k:Nat=>⟨Ba 21 [(0,.p (.sl (Jqh l))),(3,.p (.int .i64 (k+1:Nat)))],[]⟩) (fun k=>k≤l.length∧∀ (i:Nat) (a b:Tree),i<k→l[i]? = some a→l[i+1]? = some b→0≤cmpT b a) (fun k=>l.length - k) 0 Jqb ⟨Nat.zero_le _,fun i a b h1 h2 h3=>by omega⟩ ?_
 rintro k ⟨h1,h2⟩
 by_cases hk:k+1<l.length
 ·have c1:(((k+1:Nat):Int)<(l.length:Int))=True:=eq_true (by omega)
  have w1:IntKind.i64.wrap (((k+1:Nat):Int) - 1)=(k:Int):=by rw [Aa (by omega) (by omega)];omega
  obtain ⟨a,ha⟩:∃ a,l[k]? = some a:=⟨_,List.getElem?_eq_getElem (by omega)⟩
  obtain ⟨b,hb⟩:∃ b,l[k+1]? = some b:=⟨_,List.getElem?_eq_getElem (by omega)⟩
  have hga:=Jro ha
  have hgb:=Jro hb
  obtain ⟨oa,sa⟩:=ho a (List.mem_of_getElem? ha)
  obtain ⟨ob,sb⟩:=ho b (List.mem_of_getElem? hb)
  have hC:=Jwx (b.enc []).length b a (Nat.le_refl _) ob oa sb sa
  (refine Ae hm _ _ _ ?_;simp only [go_sem,simprocAttr,Jqj,c1,wj1 (i:=k+1) (by omega)])
  (repeat' (first | (refine iteI (fun h=>?_) (fun h=>?_))|((first | (refine Jqd hm ?_)|(refine Det.useQ (hC) ?_));simp only [go_sem,simprocAttr,w1,hga,hgb,wj1 (i:=k+1) (by omega)]) | fail))
  ·exact J6e ha hb (by assumption)
  ·refine ⟨k+1,⟨by omega,fun i' a' b' q1 q2 q3=>?_⟩,by omega,Jqb⟩
   by_cases hii:i'=k
   ·subst hii
    rw [ha] at q2;rw [hb] at q3
    cases q2;cases q3
    omega
   ·exact h2 i' a' b' (by omega) q2 q3
 ·have c1:(((k+1:Nat):Int)<(l.length:Int))=False:=eq_false (by omega)
  (refine Ae hm _ _ _ ?_;simp only [go_sem,simprocAttr,Jqj,c1])
  skip
  exact (Jtw.2 fun i a b q1 q2=>h2 i a b (by have:=(List.getElem?_eq_some_iff.1 q2).1;omega) q1 q2).symm
end Go.LX
namespace Go.LX
open Go
def ndT (n:Node):Tree:=.mk n.kind n.s n.neg n.e .nil
def J7y:Tree→Node
 | .mk k s g e kids=>⟨k,kids.len,[],s,g,e⟩
def J0z:Tree→Bool
 | .mk _ _ _ _ .nil=>true
 | .mk _ _ _ _ (.cons _ _ _)=>false
def J0u (n c:Int):Bool :=
 if n=0 then decide (c=0) else if n=1 then decide (c≠0) else if n=2 then decide (c<0) else if n=3 then decide (c≤0) else if n=4 then decide (0<c) else decide (0≤c)
def Jsn (a:Int×Node) (x:Node):Bool:=J0u a.1 (cmpT (ndT x) (ndT a.2))
def Jv8 (mask kind:Int):Bool:=decide (mask.toNat / 2 ^ kind.toNat % 2=1)
def Jqs (mask:Int) (l:List (Int×Node)) (x:Node):Bool:=decide (Jq0 x) && (Jv8 mask x.kind && l.all fun a=>Jsn a x)
def keyV (s:List UInt8) (v:Tree):List Node:=match getT (Je s).1 v with
 | .ok u=>u.enc []
 | .error _=>[]
def keyT (s:List UInt8) (v:Tree):Tree:=match getT (Je s).1 v with
 | .ok u=>u
 | .error _=>.mk 0 [] false 0 .nil
def Jtk (ps:List (Tree→Bool)):Tree→Bool:=match ps with
 | []=>fun _=>true
 | p :: _=>p
def Jv4 (kids:List KT) (nm:List UInt8) (p:Tree→Bool):Bool:=match Ch nm kids with
 | some u=>p u
 | none=>false
def objS (kids:List KT):List RKT→List (Tree→Bool)→Bool
 | r :: rows,p :: ps=>Jv4 kids r.1 p && objS kids rows ps
 | _,_=>true
def tupS:List (Tree→Bool)→List KT→Bool
 | [],[]=>true
 | p :: ps,q :: l=>p q.2 && tupS ps l
 | [],_ :: _=>false
 | _ :: _,[]=>false
def sKey:List UInt8:=[107,101,121]
def sVal:List UInt8:=[118,97,108,117,101]
def entK:Tree→Option (List UInt8×Tree)
 | .mk k _ _ _ kids=>if k=6∧kids.len=2 then (match Ch sKey kids.list,Ch sVal kids.list with
  | some (.mk k' s' _ _ _),some x=>if k'=4 then some (s',x) else none
  | _,_=>none) else none
def Js1 (last:Option (List UInt8)) (key:List UInt8):Bool:=match last with
 | none=>true
 | some l=>Op.bytesLess l key
def entS (P:Tree→Bool):Option (List UInt8)→List KT→Bool
 | _,[]=>true
 | last,q :: l=>match entK q.2 with
  | none=>false
  | some (key,x)=>Js1 last key && (P x && entS P (some key) l)
def Ju8 (a b:Tree):Bool:=decide (a.enc []=b.enc [])
def Jzq (last:Option Tree) (key:Tree):Bool:=match last with
 | none=>true
 | some l=>decide (cmpT l key<0)
def Jrz (P:Tree→Bool) (q:KT):Bool:=decide (q.2.kind=5) && (decide (q.2.kids.len≠0) && q.2.kids.list.all fun x=>P x.2)
def Jrh (s:List UInt8) (l:List KT):List Tree:=l.map fun q=>keyT s q.2
def Ju5 (l:List Tree):Tree:=l.headD (.mk 0 [] false 0 .nil)
def Jtb (P:Tree→Bool) (s:List UInt8):Option Tree→List KT→Bool
 | _,[]=>true
 | last,q :: l=>Jrz P q && (((Jrh s q.2.kids.list).all fun k=>Ju8 k (Ju5 (Jrh s q.2.kids.list))) && (Jzq last (Ju5 (Jrh s q.2.kids.list)) && Jtb P s (some (Ju5 (Jrh s q.2.kids.list))) l))
def allP (P:Tree→Bool) (l:List KT):Bool:=l.all fun q=>P q.2
def inK (k:Int) (s:List UInt8) (n:Int) (rows:List RKT) (ps:List (Tree→Bool)) (v:Tree):Bool :=
 if k=0 then true
 else if k=1 then J0z v && Jqs n (Jqx rows) (J7y v)
 else if k=2 then decide (v.kind=6) && ((decide (n≠0) || decide (v.kids.len=rows.length)) && objS v.kids.list rows ps)
 else if k=3 then decide (v.kind=6) && allP (Jtk ps) v.kids.list
 else decide (v.kind=5) && (
  if k=4 then tupS ps v.kids.list
  else if k=6 then entS (Jtk ps) none v.kids.list
  else if k=8 then Jtb (Jtk ps) s none v.kids.list
  else if k=7 then allP (Jtk ps) v.kids.list && Jrr (Jrh s v.kids.list)
  else allP (Jtk ps) v.kids.list)
mutual
def inTy:RT→Tree→Bool
 | .mk k s n _ kids=>fun v=>inK k s n kids.list (inL kids) v
def inL:RF→List (Tree→Bool)
 | .nil=>[]
 | .cons _ t r=>inTy t :: inL r
end
theorem Juw {k:Int} {s:List UInt8} {n:Int} {c:Node} {kids:RF} {v:Tree}:inTy (.mk k s n c kids) v=inK k s n kids.list (inL kids) v:=by rw [inTy]
theorem Jxz:inL .nil=[]:=by rw [inL]
theorem Jt8 {nm:List UInt8} {t:RT} {r:RF}:inL (.cons nm t r)=inTy t :: inL r:=by rw [inL]
theorem Jxq:∀ (f:RF),inL f=f.list.map fun p=>inTy p.2
 | .nil=>by rw [Jxz];rfl
 | .cons nm t r=>by rw [Jt8,Jxq r];rfl
theorem J0h {kids:List KT} {name:List UInt8} {u:RT}:∀ {rows:List RKT},objS kids rows (rows.map fun p=>inTy p.2)=true→Jv1 name rows=some u→∃ w,Ch name kids=some w∧inTy u w=true
 | [],_,h=>by cases h
 | r :: rows,ho,h=>by
  rw [List.map_cons,objS,Bool.and_eq_true] at ho
  rw [Jv1] at h
  split at h
  ·rename_i hn
   cases h
   have:=ho.1
   unfold Jv4 at this
   rw [hn] at this
   cases hf:Ch name kids with
   | none=>rw [hf] at this;cases this
   | some w=>rw [hf] at this;exact ⟨w,rfl,this⟩
  ·exact J0h ho.2 h
theorem J49:∀ {p:List Step} {t u:RT} {v:Tree},Jva t p=some u→inTy t v=true→∃ w,getT p v=.ok w∧inTy u w=true
 | [],t,u,v,h,hi=>by
  rw [Jw0] at h;cases h
  exact ⟨v,rfl,hi⟩
 | x :: p,.mk k s n c kids,u,.mk vk vs vg ve vkids,h,hi=>by
  rw [Jx8] at h
  split at h
  ·rename_i hk
   obtain ⟨hk,hx⟩:=hk
   have hk:k=2:=hk
   subst hk
   cases hf:Jv1 x.name (RT.mk 2 s n c kids).kids.list with
   | none=>rw [hf] at h;cases h
   | some t' =>
    rw [hf] at h
    have h:Jva t' p=some u:=h
    rw [Juw] at hi
    simp only [inK,if_neg (show ¬ (2:Int)=0 by decide),if_neg (show ¬ (2:Int)=1 by decide),if_true,Bool.and_eq_true,decide_eq_true_eq] at hi
    obtain ⟨hv6,_,ho⟩:=hi
    have hv6:vk=6:=hv6
    subst hv6
    rw [Jxq] at ho
    obtain ⟨w,hw,hiw⟩:=J0h ho hf
    obtain ⟨w2,h1,h2⟩:=J49 h hiw
    refine ⟨w2,?_,h2⟩
    have hw:Ch x.name vkids.list=some w:=hw
    rw [getT,Tp hx,hw]
    exact h1
  ·cases h
theorem Kad {u:RT} {w:Tree} (hk:u.kind=1) (h:inTy u w=true):J0z w=true∧Jq0 (J7y w):=by
 cases u with
 | mk k s n c kids =>
  have hk:k=1:=hk
  subst hk
  rw [Juw] at h
  simp only [inK,if_neg (show ¬ (1:Int)=0 by decide),if_true,Bool.and_eq_true,Jqs,decide_eq_true_eq] at h
  exact ⟨h.1,h.2.1⟩
end Go.LX
namespace Go.LX
open Go
def idxF (b:Nat→Bool):Nat→Nat→Int
 | 0,_=>-1
 | k+1,i=>if b i=true then idxF b k (i+1) else i
def allF (b:Nat→Bool):Nat→Nat→Bool
 | 0,_=>true
 | k+1,i=>b i && allF b k (i+1)
theorem Jun {b:Nat→Bool}:∀ {k i:Nat},decide (0≤idxF b k i) = !allF b k i
 | 0,i=>rfl
 | k+1,i=>by
  rw [idxF,allF]
  cases b i
  ·simp
  ·simp only [if_true,Bool.true_and];exact Jun
theorem Jwm {α:Type} {P:α→Bool} {d:α}:∀ {l m:List α} {i:Nat},l.drop i=m→allF (fun j=>P (l.getD j d)) m.length i=m.all P
 | l,[],i,_=>rfl
 | l,x :: m,i,h=>by
  have hx:l.getD i d=x:=by
   have:=congrArg (·[0]?) h
   simp only [List.getElem?_drop,Nat.add_zero,List.getElem?_cons_zero] at this
   rw [List.getD_eq_getElem?_getD,this];rfl
  rw [List.length_cons,allF,List.all_cons,hx,Jwm (l:=l) (m:=m) (i:=i+1) (by rw [← List.drop_drop,h];rfl)]
def keyK (t:Tree):List UInt8:=match entK t with
 | some p=>p.1
 | none=>[]
def kd0:KT:=([],.mk 0 [] false 0 .nil)
def entB (P:Tree→Bool) (l:List KT) (i:Nat):Bool:=match entK (l.getD i kd0).2 with
 | none=>false
 | some (key,x)=>(if i=0 then true else Op.bytesLess (keyK (l.getD (i - 1) kd0).2) key) && P x
theorem Jt0 {α:Type} {l:List α} {i:Nat} {x d:α} (h:l[i]? = some x):l.getD i d=x:=by rw [List.getD_eq_getElem?_getD,h];rfl
theorem J2r {P:Tree→Bool} {l:List KT}:∀ {m:List KT} {i:Nat} {last:Option (List UInt8)},l.drop i=m→last=(if i=0 then none else some (keyK (l.getD (i - 1) kd0).2))→allF (entB P l) m.length i=entS P last m
 | [],i,last,_,_=>by rw [entS];rfl
 | q :: m,i,last,h,hl=>by
  have hq:l.getD i kd0=q:=Jt0 (by have:=congrArg (·[0]?) h;simpa using this)
  rw [List.length_cons,allF,entS,entB,hq]
  cases hk:entK q.2 with
  | none=>rfl
  | some p =>
   obtain ⟨key,x⟩:=p
   simp only
   have ih:=J2r (P:=P) (l:=l) (m:=m) (i:=i+1) (last:=some key) (by rw [← List.drop_drop,h];rfl) (by simp only [Nat.add_one_ne_zero,if_false,Nat.add_sub_cancel];rw [hq,keyK,hk])
   rw [ih,Bool.and_assoc]
   congr 1
   subst hl
   unfold Js1
   by_cases h0:i=0
   ·rw [if_pos h0,if_pos h0]
   ·rw [if_neg h0,if_neg h0]
def grpH (s:List UInt8) (q:KT):Tree:=Ju5 (Jrh s q.2.kids.list)
def grpB (P:Tree→Bool) (s:List UInt8) (l:List KT) (i:Nat):Bool :=
 Jrz P (l.getD i kd0) && (((Jrh s (l.getD i kd0).2.kids.list).all fun k=>Ju8 k (grpH s (l.getD i kd0))) && (if i=0 then true else decide (cmpT (grpH s (l.getD (i - 1) kd0)) (grpH s (l.getD i kd0))<0)))
theorem Jyx {P:Tree→Bool} {s:List UInt8} {l:List KT}:∀ {m:List KT} {i:Nat} {last:Option Tree},l.drop i=m→last=(if i=0 then none else some (grpH s (l.getD (i - 1) kd0)))→allF (grpB P s l) m.length i=Jtb P s last m
 | [],i,last,_,_=>by rw [Jtb];rfl
 | q :: m,i,last,h,hl=>by
  have hq:l.getD i kd0=q:=Jt0 (by have:=congrArg (·[0]?) h;simpa using this)
  rw [List.length_cons,allF,Jtb,grpB,hq]
  have ih:=Jyx (P:=P) (s:=s) (l:=l) (m:=m) (i:=i+1) (last:=some (grpH s q)) (by rw [← List.drop_drop,h];rfl) (by simp only [Nat.add_one_ne_zero,if_false,Nat.add_sub_cancel];rw [hq])
  rw [ih,Bool.and_assoc,Bool.and_assoc]
  congr 3
  subst hl
  unfold Jzq
  by_cases h0:i=0
  ·rw [if_pos h0,if_pos h0]
  ·rw [if_neg h0,if_neg h0];rfl
def objB (kids:List KT) (rows:List RKT) (i:Nat):Bool:=match rows[i]? with
 | some r=>Jv4 kids r.1 (inTy r.2)
 | none=>true
theorem J3a {kids:List KT} {rows:List RKT}:∀ {m:List RKT} {i:Nat},rows.drop i=m→allF (objB kids rows) m.length i=objS kids m (m.map fun p=>inTy p.2)
 | [],i,_=>by rw [List.map_nil,objS];rfl;simp
 | r :: m,i,h=>by
  have hr:rows[i]? = some r:=by have:=congrArg (·[0]?) h;simpa using this
  rw [List.length_cons,allF,List.map_cons,objS,objB,hr,J3a (m:=m) (i:=i+1) (by rw [← List.drop_drop,h];rfl)]
end Go.LX
namespace Go.LX
open Go Go.Proofs
@[go_sem] theorem f_a60:B2 Tryz.prog 60=some false:=by kernel_rfl
@[go_sem] theorem f_c60:Tryz.prog.cellsOf 60=1:=by kernel_rfl
@[go_sem] theorem f_a111:B2 Tryz.prog 111=some false:=by kernel_rfl
@[go_sem] theorem f_c111:Tryz.prog.cellsOf 111=1:=by kernel_rfl
end Go.LX
