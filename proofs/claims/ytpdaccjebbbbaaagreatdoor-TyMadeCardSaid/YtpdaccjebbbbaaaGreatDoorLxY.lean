/- Regions that draw their order, with variables that are made in between: calls that only read may be taken first, too. -/
import Derived.Test.YtpdaccjebbbbaaaGreatDoorLxU
import Derived.Test.YtpdaccjebbbbaaaGreatDoorLxX
import Derived.Test.YtpdaccjebbbbaaaGreatDoorLxQ
import Derived.Test.YtpdaccjebbbbaaaGreatDoorLxW
import Derived.Test.YtpdaccjebbbbaaaGreatDoorLxV
set_option linter.unusedSimpArgs false
set_option linter.unusedVariables false
set_option linter.unusedSectionVars false
set_option linter.unnecessarySimpa false
namespace Go.LX
open Go Go.RowKit Go.Proofs
theorem Jru (s:St) (d:Nat) {T:TypeId} {ls:List L} {ps:List PV} (hr:Am d s.regs=some (.var T ls)) (hp:Bg L.pure? ls=some ps):s.Le (Dx d (some (.ar ps)) s):=by
 rintro Γ a w ⟨ms,hdef,β,Im,hx⟩;exact ⟨ms,hdef,β,_,hx.freezeZ d (.ar ps) ⟨_,_,hx.fit.regs d _ (Ax hr),hp⟩ _ (Ax hr)⟩
def farC:L→Bool
 | .p _=>true
 | .eptr _=>true
 | .fn _ []=>true
 | .tup _=>true
 | _=>false
theorem Jxc {d:Nat} {l:L} (h:farC l=true):L.forget d l=l:=by
 cases l with
 | fn f ds=>cases ds with
  | nil=>rfl
  | cons a b=>cases h
 | p x=>rfl
 | eptr x=>rfl
 | tup x=>rfl
 | _=>cases h
section
variable {X:Cx} {ro:Option Nat} {ops:Array Oper}
def Jsg (o:Oper):Bool:=o.guard.isNone && match o.op with
 | .move _=>true
 | .extract ..=>true
 | .call { callee:=.value _,args:=_,argTypes:=_ }=>true
 | _=>false
def Jrt (s:St) (o:Oper):Prop:=∀ x∈o.op.operands.toList,farC (s.get x)=true∧(Jsg o=true∨farL (s.get x)=true)
theorem Kba {ds:List (Option Tmp)} {s s':St} {o:Oper} {K:L→Prop} (h:Jsg o=true) (hg:∀ x∈o.op.operands.toList,s'.get x=s.get x) (hy:YS X ds s o K):YS X ds s' o K:=by
 obtain ⟨dst,op,ty,ps,af,g⟩:=o;cases g with
 | some g=>simp [Jsg] at h
 | none =>
  cases op <;> simp [Jsg] at h
  case move x =>
   have e:=hg x (by simp [Op.operands]);have hy:K (s.get x):=hy;show K (s'.get x);rw [e];exact hy
  case extract x i =>
   have e:=hg x (by simp [Op.operands]);have hy:Qk (s.get x) i K:=hy;show Qk (s'.get x) i K;rw [e];exact hy
  case call c =>
   obtain ⟨callee,args,ts⟩:=c;cases callee with
   | value f =>
    have e:=hg f (by simp [Op.operands,Call.operands]);have ea:args.toList.map s'.get=args.toList.map s.get:=List.map_congr_left fun x hx=>hg x (by simp [Op.operands,Call.operands];exact .inr (by simpa using hx))
    have hy:J57 X (args.toList.map s.get) K (s.get f):=hy;show J57 X (args.toList.map s'.get) K (s'.get f);rw [e,ea];exact hy
   | _=>simp at h
theorem J3r {ds:List (Option Tmp)} {s s':St} {o:Oper} {K:L→Prop} (hp:Js9 o=true∨Jsg o=true) (hf:∀ x∈o.op.operands.toList,Jsg o=true∨farL (s.get x)=true) (hg:∀ x∈o.op.operands.toList,s'.get x=s.get x) (hy:YS X ds s o K):YS X ds s' o K:=by
 by_cases h:Jsg o=true
 ·exact Kba h hg hy
 ·have hp:Js9 o=true:=hp.resolve_right h;rw [J9v hp] at hy ⊢;exact lq_far (fun x hx=>by rw [hg x hx];exact (hf x hx).resolve_left h) (Jj8 hg hy)
theorem J9f {s:St} {dst:Option Tmp} {v:L} {d:Nat} {r:Reg} {l:L} (hv:farC v=true) (hne:∀ x,dst=some x→x≠d):(((s.newReg d r).put (some d) l).put dst v)=(((s.put dst v).newReg d r).put (some d) l):=by
 cases dst with
 | none=>rfl
 | some x =>
  have:=hne x rfl;simp only [St.put,St.newReg,List.map_set,Jxc hv];rw [List.set_comm _ _ this]
theorem J5e {s:St} {d:Nat} {r:Reg} {l:L} {x:Operand} (hx:x≠.tmp d) (hf:farC (s.get x)=true):((s.newReg d r).put (some d) l).get x=s.get x:=by
 rw [Jmw (fun e he=>by cases he;exact hx)];cases x with
 | tmp i =>
  simp only [St.get,St.newReg,List.getD_eq_getElem?_getD,List.getElem?_map] at hf ⊢;cases hi:s.tmps[i]? with
  | none=>rfl
  | some m =>
   rw [hi] at hf;simp only [Option.map_some,Option.getD_some] at hf ⊢;exact Jxc hf
 | _=>rfl
theorem Jw1 {d:Nat} {z:Fz} {l:L} (h:farC l=true):L.freeze d z l=l:=by
 cases l with
 | fn f ds=>cases ds with
  | nil=>rfl
  | cons a b=>cases h
 | p x=>rfl
 | eptr x=>rfl
 | tup x=>rfl
 | _=>cases h
theorem J3l {s:St} {d:Nat} {dst:Option Tmp} {v:L} (hv:farC v=true):(s.put dst v).freeze d=(s.freeze d).put dst v:=by
 cases dst with
 | none=>rfl
 | some x =>
  simp only [St.put,St.freeze,Dx];cases fzOf (Am d s.regs) with
  | none=>rfl
  | some z=>simp only [List.map_set,Jw1 hv]
theorem J3o {s:St} {d:Nat} {y:Operand} (hf:farC (s.get y)=true):(s.freeze d).get y=s.get y:=by
 unfold St.freeze Dx;cases fzOf (Am d s.regs) with
 | none=>rfl
 | some z =>
 cases y with
 | tmp i =>
  simp only [St.get,List.getD_eq_getElem?_getD,List.getElem?_map] at hf ⊢;cases hi:s.tmps[i]? with
  | none=>rfl
  | some m =>
   rw [hi] at hf;simp only [Option.map_some,Option.getD_some] at hf ⊢;exact Jw1 hf
 | _=>rfl
theorem Jx9 {s:St} {x:Operand} {dst:Option Tmp} {v:L} (hv:farC v=true) (hx:∀ d,dst=some d→x≠.tmp d):(s.put dst v).freezeOps [x]=(s.freezeOps [x]).put dst v:=by
 simp only [St.freezeOps,Jmw hx];cases s.get x <;> first | rfl | (simp only;split <;> first | exact J3l hv | rfl)
theorem Jx0 {s:St} {x y:Operand} (hf:farC (s.get y)=true):(s.freezeOps [x]).get y=s.get y:=by
 simp only [St.freezeOps];cases s.get x <;> first | rfl | (simp only;split <;> first | exact J3o hf | rfl)
theorem J3z {P:Program} {t:TypeId} {s:St} {a x:Operand} {dst:Option Tmp} {v:L} {K:St→Prop} (hv:farC v=true) (ha:∀ d,dst=some d→a≠.tmp d) (hx:∀ d,dst=some d→x≠.tmp d) (h:Nv P t (s.put dst v) a x K) :
  Nv P t s a x fun s'=>K (s'.put dst v)∧∀ y,farC (s.get y)=true→s'.get y=s.get y:=by
 unfold Nv at h ⊢;rw [Jmw ha,Jmw hx,J22] at h;split at h
 ·rename_i d i j hd;simp only;split at h
  ·obtain ⟨xs,h1,h2,h3,h4,h5,h6⟩:=h;refine ⟨xs,h1,h2,h3,h4,h5,?_,fun y _=>?_⟩
   ·rw [Jx8] at h6;exact h6
   ·cases y <;> rfl
  ·rw [Jx9 hv hx] at h;obtain ⟨xs,h1,ps,h2,e,h3,h4,h5,h6,h7,h8,h9⟩:=h;rw [Jmw hx] at h1;rw [J22] at h7 h9;rw [Jmw ha] at h8;refine ⟨xs,h1,ps,h2,e,h3,h4,h5,h6,h7,h8,?_,fun y hy=>?_⟩
   ·rw [Jx8] at h9;exact h9
   ·have:=Jx0 (x:=x) hy;cases y <;> exact this
  ·obtain ⟨xs,h1,e,h2,h3,h4,h5,h6⟩:=h;refine ⟨xs,h1,e,h2,h3,h4,h5,?_,fun y _=>?_⟩
   ·rw [Jx8] at h6;exact h6
   ·cases y <;> rfl
  ·exact h.elim
  ·exact h.elim
 ·exact h.elim
theorem J1e {k:Nat} {K:St→Prop} {i:Nat} {oi:Oper} {v:L} (hi:ops[i]? = some oi) (hik:i<k) (hp:Js9 oi=true∨Jsg oi=true) (hv:farC v=true) (hA:∀ j oj,k≤j→ops[j]? = some oj→ancB .any ops ops.size i j=true∨Jt9 oj=true∨Jua oj=true):∀ (fuel:Nat) (listed:Array Bool) (s:St),Down .any ops listed→Jrt s oi →
   (∀ j oj,ops[j]? = some oj→j≠i→listed.getD j true=false→(∀ e∈oj.after,Region.binds .any e=true→e.on≠i)→oi.apart ops oj=true) →
   i∈Region.ready .any ops listed→YS X (ops.toList.map (·.dst)) s oi (fun m=>m=v) →
   Jtk X .any ops k K fuel (listed.setIfInBounds i true) (s.put oi.dst v)→Jtk X .any ops k K (fuel+1) listed s:=by
 intro fuel
 induction fuel with
 | zero =>
  intro listed s hd _ _ hr hy H;have only:∀ j∈Region.ready .any ops listed,j=i:=by
   intro j hj;by_cases hji:j=i
   ·exact hji
   ·have:=ready_mono hj hji;rw [H.1] at this;cases this
  refine ⟨fun h=>(by rw [h] at hr;cases hr),fun j hj oj hoj=>?_⟩;have:=only j hj;subst this;rw [hi] at hoj;cases hoj;exact ⟨fun _=>Kr (fun l hl=>by rw [hl];exact H) hy,fun h=>by omega⟩
 | succ fuel ih =>
  intro listed s hd hfar hfree hr hy H;refine ⟨fun h=>(by rw [h] at hr;cases hr),fun j hj oj hoj=>?_⟩;by_cases hji:j=i
  ·subst hji;rw [hi] at hoj;cases hoj;exact ⟨fun _=>Kr (fun l hl=>by rw [hl];exact H) hy,fun h=>by omega⟩
  ·obtain ⟨hjun,oj',hoj',hall⟩:=mem_ready.1 hj;rw [hoj] at hoj';cases hoj';have hnot:∀ e∈oj.after,Region.binds .any e=true→e.on≠i:=fun e he hb heq=>by
    have h1:=hall e he hb;have h0:=(Hn.1 (mem_ready.1 hr).1).2;rw [heq] at h1;rw [h1] at h0;cases h0
   obtain ⟨a1,a2,a3⟩:=Oper.apart_spec (hfree j oj hoj hji hjun hnot);have hfree':∀ q ok,ops[q]? = some ok→q≠i→(listed.setIfInBounds j true).getD q true=false →
     (∀ e∈ok.after,Region.binds .any e=true→e.on≠i)→oi.apart ops ok=true:=fun q ok hk hki hun hno=>by
    refine hfree q ok hk hki ?_ hno;by_cases hjk:j=q
    ·subst hjk;exact hjun
    ·rw [getD_set_ne true hjk] at hun;exact hun
   have hop:∀ d,oj.dst=some d→∀ x∈oi.op.operands.toList,x≠.tmp d:=fun d hd x hx hxd=>a3 d hd (by
    subst hxd;exact List.mem_append_left _ (List.mem_filterMap.2 ⟨.tmp d,by simpa using hx,rfl⟩))
   refine ⟨fun hjk=>?_,fun hkj=>?_⟩
   ·have h1:=(H.2 j (ready_mono hj hji) oj hoj).1 hjk;refine Kr (fun l hl=>?_) (Yr a1 h1);refine ih (listed.setIfInBounds j true) (s.put oj.dst l) (hd.set hj) (fun x hx=>?_) hfree' (ready_mono hr (Ne.symm hji)) (Uk a3 hy) ?_
    ·rw [Jmw (fun d hd=>hop d hd x hx)];exact hfar x hx
    ·rw [Array.setIfInBounds_comm _ _ hji];rw [← Js7 s v l a2];exact hl
   ·have hal:Jt9 oj=true∨Jua oj=true:=by
     rcases hA j oj hkj hoj with h | h
     ·exfalso;have h1:=Qb hd _ i j oj hoj hall h;have h2:=(Hn.1 (mem_ready.1 hr).1).2;rw [h1] at h2;cases h2
     ·exact h
    obtain ⟨C,h1,h2⟩:=(H.2 j (ready_mono hj hji) oj hoj).2 hkj;have hlook:∀ d,oi.dst=some d→∀ x∈oj.op.operands.toList,x≠.tmp d:=fun d hd x hx hxd=>a1 d hd (by
     subst hxd;exact List.mem_append_left _ (List.mem_filterMap.2 ⟨.tmp d,by simpa using hx,rfl⟩))
    obtain ⟨dst,op,ty,ps,af,g⟩:=oj;cases g with
    | some g=>simp [Jt9,Jua] at hal
    | none =>
    rcases hal with hal | hal
    ·cases dst with
     | none=>cases op <;> simp [Jt9] at hal
     | some d =>
     cases op <;> simp [Jt9] at hal;rename_i T;unfold lAt at h1;rw [Array.getElem?_toList,hoj] at h1;simp only [F4,lop] at h1;obtain ⟨hd1,zs,hzs,hC⟩:=h1;have hne:∀ x,oi.dst=some x→x≠d:=fun x hx e=>a2 x hx (by rw [e])
     have hop':=hop d rfl;refine ⟨fun s'=>s'=(s.newReg d (.var T (zs.map .p))).put (some d) (.ptr d 0 0),?_,?_⟩
     ·unfold lAt;rw [Array.getElem?_toList,hoj];exact ⟨hd1,zs,hzs,rfl⟩
     ·rintro s' rfl;have hg:∀ x∈oi.op.operands.toList,((s.newReg d (.var T (zs.map .p))).put (some d) (.ptr d 0 0)).get x=s.get x:=fun x hx=>J5e (hop' x hx) (hfar x hx).1
      refine ih (listed.setIfInBounds j true) _ (hd.set hj) (fun x hx=>by rw [hg x hx];exact hfar x hx) hfree' (ready_mono hr (Ne.symm hji)) ?_ ?_
      ·exact J3r hp (fun x hx=>(hfar x hx).2) hg hy
      ·rw [Array.setIfInBounds_comm _ _ hji,J9f hv hne];exact h2 _ hC
    ·cases dst with
     | some d=>cases op <;> simp [Jua] at hal
     | none =>
     cases op <;> simp [Jua] at hal;rename_i T a x;unfold lAt at h1;rw [Array.getElem?_toList,hoj] at h1;simp only [F4,lop] at h1;have h3:=J3z hv (fun d hd=>hlook d hd a (by simp [Op.operands])) (fun d hd=>hlook d hd x (by simp [Op.operands])) h1;refine ⟨fun s'=>C (s'.put oi.dst v)∧∀ y,farC (s.get y)=true→s'.get y=s.get y,?_,?_⟩
     ·unfold lAt;rw [Array.getElem?_toList,hoj];exact h3
     ·rintro s' ⟨hC,hgy⟩;have hg:∀ x∈oi.op.operands.toList,s'.get x=s.get x:=fun x hx=>hgy x (hfar x hx).1
      refine ih (listed.setIfInBounds j true) _ (hd.set hj) (fun x hx=>by rw [hg x hx];exact hfar x hx) hfree' (ready_mono hr (Ne.symm hji)) ?_ ?_
      ·exact J3r hp (fun x hx=>(hfar x hx).2) hg hy
      ·rw [Array.setIfInBounds_comm _ _ hji];exact h2 _ hC
def Jtq (X:Cx) (ds:List (Option Tmp)) (ops:List Oper) (E:St→Prop):List Nat→St→Prop
 | [],s=>E s
 | i :: I,s=>match ops[i]? with
  | some o=>Jrt s o∧YS X ds s o fun l=>farC l=true∧Jtq X ds ops E I (s.put o.dst l)
  | none=>False
def J1n (ops:Array Oper) (k:Nat):List Nat→Array Bool→Bool
 | [],_=>true
 | i :: I,listed=>(Region.ready .any ops listed).contains i && (Region.free .any ops listed i && (decide (i<k) && ((match ops[i]? with | some o=>Js9 o || Jsg o | none=>false) && ((List.range ops.size).all (fun j=>decide (j<k) || (ancB .any ops ops.size i j || match ops[j]? with | some o=>Jt9 o || Jua o | none=>false)) && J1n ops k I (listed.setIfInBounds i true)))))
theorem Jv2 {k:Nat} {K:St→Prop} {fuel:Nat}:∀ (I:List Nat) (listed:Array Bool) (s:St),J1n ops k I listed=true→Down .any ops listed →
  Jtq X (ops.toList.map (·.dst)) ops.toList (Jtk X .any ops k K fuel (Jx6 I listed)) I s→Jtk X .any ops k K (fuel+I.length) listed s
 | [],listed,s,_,_,h=>h
 | i :: I,listed,s,hB,hd,h=>by
  simp only [J1n,Bool.and_eq_true,List.contains_eq_mem,decide_eq_true_eq] at hB;obtain ⟨h1,h2,h3,hp,h4,h5⟩:=hB;obtain ⟨_,oi,hoi,_⟩:=mem_ready.1 h1;rw [hoi] at hp;simp only [Jtq] at h;rw [Array.getElem?_toList,hoi] at h;obtain ⟨hf,h⟩:=h;obtain ⟨v,hy,hv,hK⟩:=Jab (X:=X) h;refine J1e hoi h3 (by simpa using hp) hv (fun j oj hj hoj=>?_) (fuel+I.length) listed s hd hf (Region.free_spec hoi h2) h1 hy (Jv2 I _ _ h5 (hd.set h1) hK);have:=List.all_eq_true.1 h4 j (List.mem_range.2 (Array.getElem?_eq_some_iff.1 hoj).1);rw [Bool.or_eq_true,decide_eq_true_eq,hoj,Bool.or_eq_true] at this;rcases this with h | h | h
  ·omega
  ·exact .inl h
  ·exact .inr (by simpa using h)
theorem Jxi {ds:List (Option Tmp)} {os:List Oper} {E E':St→Prop} (hE:∀ s,E s→E' s):∀ (I:List Nat) (s:St),Jtq X ds os E I s→Jtq X ds os E' I s
 | [],s,h=>hE s h
 | i :: I,s,h=>by
  simp only [Jtq] at h ⊢;split
  ·rename_i o ho;rw [ho] at h;exact ⟨h.1,Kr (fun l hl=>⟨hl.1,Jxi hE I _ hl.2⟩) h.2⟩
  ·rename_i ho;rw [ho] at h;exact h
theorem Juo {id:Nat} {Q:Ex→St→Prop} {s:St} (k:Nat) (I:List Nat) (T:Ord) (f:Nat) (hm:X.P.follows .mixedOrders=true) (hf:f+I.length=ops.size) (hB:J1n ops k I (Array.replicate ops.size false)=true) (hT:P6 ops f (Jx6 I (Array.replicate ops.size false))=T)
  (h:Jtq X (ops.toList.map (·.dst)) ops.toList (Js6 X (ops.toList.map (·.dst)) ops.toList k (Q .normal) T) I s):SWP X ro (.region id ops true) Q s:=fun Γ a w hG hr=>by
 have h':RR Γ s a { w with drawn:=w.drawn+1 }:=by
  obtain ⟨ms,hdef,β,Im,hx⟩:=hr;exact ⟨ms,hdef,β,Im,hx.grow (Grow.drew hx.fit.im)⟩
 refine wpIn_region_any hm (G0 (k:=k) (K:=Q .normal) hG.1 (fun s _ _ h1 h2=>⟨s,h1,h2⟩) _ _ s a _ h' ?_);have hd:Down .any ops (Array.replicate ops.size false):=by
  intro i o ho hl;exfalso;have hi:=(Array.getElem?_eq_some_iff.1 ho).1;simp [Array.getD_eq_getD_getElem?,hi] at hl
 have:=Jv2 (X:=X) (K:=Q .normal) (fuel:=f) I (Array.replicate ops.size false) s hB hd ?_
 ·rw [hf] at this;exact this
 ·subst hT;exact Jxi (fun s hs=>Js8 f _ s hs) I s h
end
section
variable {X:Cx} {ds:List (Option Tmp)} {t:List L} {r:Regs} {E:St→Prop} {dst:Option Tmp} {ty:TypeId} {ps:String} {af:Array Edge} {g:Option (Nat×Bool)}
def YVac (X:Cx) (ds:List (Option Tmp)) (ops:List Oper) (i:Nat) (C:St→Prop) (s:St):Prop:=match ops[i]? with
 | some o=>Jrt s o∧YS X ds s o fun l=>farC l=true∧C (s.put o.dst l)
 | none=>False
def Jv3 (dst:Option Tmp) (C:St→Prop) (s:St) (l:L):Prop:=farC l=true∧C (s.put dst l)
theorem J9l {ops:List Oper}:Jtq X ds ops E [] ⟨t,r⟩=E ⟨t,r⟩:=(rfl)
theorem Kas {ops:List Oper} {i:Nat} {I:List Nat}:Jtq X ds ops E (i :: I) ⟨t,r⟩=YVac X ds ops i (Jtq X ds ops E I) ⟨t,r⟩:=(rfl)
theorem vc_at0 {o:Oper} {ops:List Oper}:YVac X ds (o :: ops) 0 E ⟨t,r⟩=(Jrt ⟨t,r⟩ o∧YS X ds ⟨t,r⟩ o (Jv3 o.dst E ⟨t,r⟩)):=(rfl)
theorem vc_atS {o:Oper} {ops:List Oper} {i:Nat}:YVac X ds (o :: ops) (i+1) E ⟨t,r⟩=YVac X ds ops i E ⟨t,r⟩:=(rfl)
theorem vc_kp {x:PV}:Jv3 dst E ⟨t,r⟩ (.p x)=kput dst E ⟨t,r⟩ (.p x):=by simp [Jv3,farC,kput]
theorem vc_ke {cs:List PV}:Jv3 dst E ⟨t,r⟩ (.eptr cs)=kput dst E ⟨t,r⟩ (.eptr cs):=by simp [Jv3,farC,kput]
theorem vc_kt {cs:List PV}:Jv3 dst E ⟨t,r⟩ (.tup cs)=kput dst E ⟨t,r⟩ (.tup cs):=by simp [Jv3,farC,kput]
theorem vc_kf {f:FuncId}:Jv3 dst E ⟨t,r⟩ (.fn f [])=kput dst E ⟨t,r⟩ (.fn f []):=by simp [Jv3,farC,kput]
theorem vc_fp {x:PV}:(farC (.p x)=true)=True:=by simp [farC]
theorem vc_ft {cs:List PV}:(farC (.tup cs)=true)=True:=by simp [farC]
theorem vc_ff {f:FuncId}:(farC (.fn f [])=true)=True:=by simp [farC]
theorem Ka3 {x:Operand}:Jrt ⟨t,r⟩ ⟨dst,.move x,ty,ps,af,none⟩=(farC ((St.mk t r).get x)=true):=by simp [Jrt,Op.operands,Jsg]
theorem vc_ext {x:Operand} {i:Nat}:Jrt ⟨t,r⟩ ⟨dst,.extract x i,ty,ps,af,none⟩=(farC ((St.mk t r).get x)=true):=by simp [Jrt,Op.operands,Jsg]
theorem Kaz {x:Operand} {args:Array Operand} {ts:Array TypeId}:Jrt ⟨t,r⟩ ⟨dst,.call ⟨.value x,args,ts⟩,ty,ps,af,none⟩=(farC ((St.mk t r).get x)=true∧((args.toList.map (St.mk t r).get).all farC)=true):=by
 simp only [Jrt,Op.operands,Call.operands,Jsg,Option.isNone_none,Bool.true_and,true_or,and_true,List.all_map,List.all_eq_true,Function.comp];refine propext ⟨fun h=>⟨h x sm,fun y hy=>h y (by simp;exact .inr (by simpa using hy))⟩,?_⟩
 ·rintro ⟨h1,h2⟩ y hy;simp only [Array.toList_append,List.mem_append,List.mem_cons,List.not_mem_nil,or_false] at hy;rcases hy with rfl | hy
  ·exact h1
  ·exact h2 y hy
theorem J4k {l:L}:(farC l=true∧farL l=true)=(farL l=true):=by
 cases l <;> simp [farC,farL]
theorem vc_fa {T:TypeId} {x:Operand} {f:Nat}:Jrt ⟨t,r⟩ ⟨dst,.fieldAddr T x f,ty,ps,af,g⟩=(farL ((St.mk t r).get x)=true):=by simp [Jrt,Op.operands,Jsg,J4k]
theorem vc_ld {T:TypeId} {x:Operand}:Jrt ⟨t,r⟩ ⟨dst,.load T x,ty,ps,af,g⟩=(farL ((St.mk t r).get x)=true):=by simp [Jrt,Op.operands,Jsg,J4k]
theorem vc_bin {T U:TypeId} {x y:Operand} {b:BinOp}:Jrt ⟨t,r⟩ ⟨dst,.binOp b T x y U,ty,ps,af,g⟩=(farL ((St.mk t r).get x)=true∧farL ((St.mk t r).get y)=true):=by simp [Jrt,Op.operands,Jsg,J4k]
attribute [go_sem] J9l Kas vc_at0 vc_atS vc_kp vc_ke vc_kt vc_kf vc_fp vc_ft vc_ff Ka3 vc_ext Kaz vc_fa vc_ld vc_bin
end
end Go.LX
set_option maxRecDepth 100000
set_option maxHeartbeats 2000000
namespace Go.LX
open Go Go.RowKit Go.Proofs
attribute [local irreducible] Al SWP Bi
theorem Jt1 {c:Prop} [Decidable c] {a b:Node×Int} (ha:¬ a.2=0→a.1=node0) (hb:¬ b.2=0→b.1=node0):¬ (if c then a else b).2=0→(if c then a else b).1=node0:=by
 by_cases h:c
 ·rw [if_pos h];exact ha
 ·rw [if_neg h];exact hb
theorem J05 {g:Bool} {s:List UInt8} {e:Int}:¬ (make g s e).2=0→(make g s e).1=node0:=by
 unfold make;dsimp only;exact Jt1 (fun _=>rfl) (Jt1 (fun h=>absurd rfl h) (Jt1 (fun _=>rfl) (Jt1 (fun _=>rfl) (Jt1 (fun _=>rfl) (Jt1 (fun _=>rfl) (Jt1 (fun _=>rfl) (fun h=>absurd rfl h)))))))
theorem Jtx {X:Cx} {ro:Option Nat} {c:Code} {Q:Ex→St→Prop} {s:St} (s0:St) (h:SWP X ro c (kun (fun s=>St.Le s s0) Q) s) (hQ:Q .normal s0):SWP X ro c Q s:=by
 refine h.of_ex fun Γ e a w hG hq=>?_
 cases e with
 | normal=>obtain ⟨s1,h1,hr⟩:=hq;exact ⟨s0,hQ,h1 Γ a w hr⟩
 | exit id=>exact hq
 | ret=>exact hq
 | goto l=>exact hq.elim
 | panic c=>exact hq.elim
 | outgrown=>exact hq.elim
theorem J1f {x:Node×Int} (h:¬ x.2=0→x.1=node0):L.tup [.agg [.int .i64 x.1.kind,.int .i64 x.1.many,.str x.1.name,.str x.1.s,.bool x.1.neg,.int .i64 x.1.e],.bool (x.2 == 0)]=besL (if x.2=0 then some x.1 else none):=by
 by_cases hz:x.2=0
 ·rw [if_pos hz,show (x.2 == 0)=true by simp [hz]];rfl
 ·rw [if_neg hz,show (x.2 == 0)=false by simp [hz],h hz];rfl
theorem Kap (s:List UInt8):(upS s).length≤s.length+1:=by
 unfold upS;split
 ·rw [List.length_drop,J0l];omega
 ·rw [J0l];exact Nat.le_refl _
theorem J65 {n:Node} (a:Bool) (hs:n.s.length≤100) (h0:-1000≤n.e):Jqm n a≤n.e:=by
 unfold Jqm topR;split <;> omega
theorem J09 (n:Node) (a:Bool) (hk:n.kind=3) (hp:Jqk n):Det cx 63 [.p (.agg [.int .i64 n.kind,.int .i64 n.many,.str n.name,.str n.s,.bool n.neg,.int .i64 n.e]),.p (.bool a)] [] (besL (Jri n a)) []:=by
 have hnr:Yz n.s n.neg n.e:=J1v hp.2.2 hk;obtain ⟨f0,f1,f2,f3,f4,f5⟩:=hnr;by_cases hs0:n.s=[]
 ·have c1:=eq_true hs0;rw [show Jri n a=some ⟨3,0,[],[49],!a,-1000⟩ from if_pos hs0];simp only [besL];have hK:=Jwm (!a) [49] (-1000) sm;have e1:make (!a) [49] (-1000)=(⟨3,0,[],[49],!a,-1000⟩,0):=by cases a <;> rfl
  rw [e1,Jst] at hK;(refine bgo Tryz.func63 ?_;simp only [go_sem,simprocAttr,c1]);(repeat' (first | ((refine Jqa (hK) ?_);simp only [go_sem,simprocAttr]) | fail))
 ·have c1:=eq_false hs0;rw [show Jri n a=(if (make n.neg (Jth n a) (Jqm n a)).2=0 then some (make n.neg (Jth n a) (Jqm n a)).1 else none) from if_neg hs0];have htop:-1001≤topR n a∧topR n a≤1100:=by unfold topR;split <;> omega
  have hle:-1000≤Jqm n a∧Jqm n a≤1000:=by unfold Jqm;omega
  have hle2:=J65 a f1 f2;have hplen:=J25 n (Jqm n a);have hfig:∀ c∈Jqy n (Jqm n a),48≤c∧c≤57:=by
   intro c hc;unfold Jqy at hc;rcases List.mem_append.1 hc with h | h
   ·have:=List.all_eq_true.1 f0 c h;simp only [Ja8,Bool.and_eq_true,decide_eq_true_eq] at this;exact ⟨UInt8.le_iff_toNat_le.2 this.1,UInt8.le_iff_toNat_le.2 this.2⟩
   ·rw [List.eq_of_mem_replicate h];exact ⟨by decide,by decide⟩
  have hM:=d_up (Jqy n (Jqm n a)) omg hfig;have hL:=d_down (Jqy n (Jqm n a)) omg (by
   rw [if_neg hs0] at f5;have hpos:0<n.s.length:=by
    cases h:n.s with
    | nil=>exact absurd h hs0
    | cons=>simp
   refine ⟨n.s[0],by unfold Jqy;exact List.mem_append_left _ (List.getElem_mem hpos),fun h=>f5.1 ?_⟩;rw [Ql hpos,h];rfl) hfig
  have hR:=J0s [48] (n.e - Jqm n a) omg omg (by simp;omega);have hpd:n.s ++ Lib.repeatL [48] (n.e - Jqm n a).toNat=Jqy n (Jqm n a):=by unfold Jqy;rw [J6p]
  have hrl:(Lib.repeatL [48] (n.e - Jqm n a).toNat).length=(n.e - Jqm n a).toNat:=by rw [Lib.repeatL_length];simp
  have wE:IntKind.i64.wrap (n.e - Jqm n a)=n.e - Jqm n a:=Aa omg omg;have w1:IntKind.i64.wrap ((n.s.length:Int)+n.e)=(n.s.length:Int)+n.e:=Aa omg omg;have w2:IntKind.i64.wrap ((n.s.length:Int)+n.e - 1)=(n.s.length:Int)+n.e - 1:=Aa omg omg;have w3:IntKind.i64.wrap ((n.s.length:Int)+n.e - 100)=(n.s.length:Int)+n.e - 100:=Aa omg omg;have w4:IntKind.i64.wrap ((n.s.length:Int)+n.e - 1 - 100)=(n.s.length:Int)+n.e - 1 - 100:=Aa omg omg;by_cases hg:n.neg=a
  ·have c2:=eq_true hg;have hst:Jth n a=Juf (Jqy n (Jqm n a)):=if_neg (by rw [hg];simp);rw [hst];have hK:=Jwm n.neg (Juf (Jqy n (Jqm n a))) (Jqm n a) (by rw [J7x];omega);have hno:=J05 (g:=n.neg) (s:=Juf (Jqy n (Jqm n a))) (e:=Jqm n a);rw [Jst] at hK;by_cases h49:n.s=[49]
   ·have c3:=eq_true h49;have hE:max ((n.s.length:Int)+n.e - 1 - 100) (-1000)=Jqm n a:=by unfold Jqm topR;rw [if_pos ⟨by rw [hg];simp,h49⟩]
    generalize Jqm n a=E at *
    generalize Lib.repeatL [48] (n.e - E).toNat=z at *
    generalize make n.neg (Juf (Jqy n E)) E=mk at hK hno ⊢;generalize Juf (Jqy n E)=st at *
    generalize Jqy n E=pd at *
    clear hM hst hfig f0 f5 hp;(refine bgo Tryz.func63 ?_;simp only [go_sem,simprocAttr,c1]);(repeat' (first | ((refine Jql ?_);simp only [go_sem,simprocAttr,c2,c3,w1,w2,w4,hE]) | fail));refine Jqn (Jru _ 2 (T:=23) (ls:=[.p (.int .i64 n.kind),.p (.int .i64 n.many),.p (.str n.name),.p (.str n.s),.p (.bool n.neg),.p (.int .i64 n.e)]) (ps:=[.int .i64 n.kind,.int .i64 n.many,.str n.name,.str n.s,.bool n.neg,.int .i64 n.e]) rfl rfl) ?_;simp only [go_sem,simprocAttr];refine Jqn (show St.Le _ ⟨Ba 63 [(2,.eptr [.int .i64 n.kind,.int .i64 n.many,.str n.name,.str n.s,.bool n.neg,.int .i64 n.e]),(4,.ptr 4 0 0),(8,.fn 92 []),(10,.p (.int .i64 E))],[(4,.var 23 [.p (.int .i64 0),.p (.int .i64 0),.p (.str []),.p (.str []),.p (.bool false),.p (.int .i64 0)])]⟩ from Jqc) ?_;refine Jtx ⟨Ba 63 [(4,.ptr 4 0 0),(11,.ptr 11 0 0),(12,.p (.int .i64 mk.2))],[(11,.var 23 [.p (.int .i64 mk.1.kind),.p (.int .i64 mk.1.many),.p (.str mk.1.name),.p (.str mk.1.s),.p (.bool mk.1.neg),.p (.int .i64 mk.1.e)]),(4,.var 23 [.p (.int .i64 0),.p (.int .i64 0),.p (.str []),.p (.str []),.p (.bool false),.p (.int .i64 0)])]⟩ ?_ ?_
    ·refine Juo 17 [0,1,2,3,4,5,6,7,8,9,10,11,12,13,14,15,16] (.node 17 (.node 18 (.node 19 .leaf .nil) .nil) .nil) 3 hm rfl krf krf ?_;simp only [go_sem,simprocAttr,wE];(repeat' (first | (refine And.intro ?_ ?_)|((first | (refine Jqe (hR) ?_)|(refine Jqe (hL) ?_)|(refine Jqe (hK) ?_));simp only [go_sem,simprocAttr,hpd]) | fail))
     all_goals first
      | omega
      | exact rfl
      | exact Jqc
      | (simp only [List.length_append,List.length_cons,List.length_nil];omega)
    ·simp only [go_sem,simprocAttr]
     all_goals exact J1f hno
   ·have c3:=eq_false h49;have hE:max ((n.s.length:Int)+n.e - 100) (-1000)=Jqm n a:=by unfold Jqm topR;rw [if_neg (fun h=>h49 h.2)]
    generalize Jqm n a=E at *
    generalize Lib.repeatL [48] (n.e - E).toNat=z at *
    generalize make n.neg (Juf (Jqy n E)) E=mk at hK hno ⊢;generalize Juf (Jqy n E)=st at *
    generalize Jqy n E=pd at *
    clear hM hst hfig f0 f5 hp;(refine bgo Tryz.func63 ?_;simp only [go_sem,simprocAttr,c1]);(repeat' (first | ((refine Jql ?_);simp only [go_sem,simprocAttr,c2,c3,w1,w3,hE]) | fail));refine Jqn (Jru _ 2 (T:=23) (ls:=[.p (.int .i64 n.kind),.p (.int .i64 n.many),.p (.str n.name),.p (.str n.s),.p (.bool n.neg),.p (.int .i64 n.e)]) (ps:=[.int .i64 n.kind,.int .i64 n.many,.str n.name,.str n.s,.bool n.neg,.int .i64 n.e]) rfl rfl) ?_;simp only [go_sem,simprocAttr];refine Jqn (show St.Le _ ⟨Ba 63 [(2,.eptr [.int .i64 n.kind,.int .i64 n.many,.str n.name,.str n.s,.bool n.neg,.int .i64 n.e]),(4,.ptr 4 0 0),(8,.fn 92 []),(10,.p (.int .i64 E))],[(4,.var 23 [.p (.int .i64 0),.p (.int .i64 0),.p (.str []),.p (.str []),.p (.bool false),.p (.int .i64 0)])]⟩ from Jqc) ?_;refine Jtx ⟨Ba 63 [(4,.ptr 4 0 0),(11,.ptr 11 0 0),(12,.p (.int .i64 mk.2))],[(11,.var 23 [.p (.int .i64 mk.1.kind),.p (.int .i64 mk.1.many),.p (.str mk.1.name),.p (.str mk.1.s),.p (.bool mk.1.neg),.p (.int .i64 mk.1.e)]),(4,.var 23 [.p (.int .i64 0),.p (.int .i64 0),.p (.str []),.p (.str []),.p (.bool false),.p (.int .i64 0)])]⟩ ?_ ?_
    ·refine Juo 17 [0,1,2,3,4,5,6,7,8,9,10,11,12,13,14,15,16] (.node 17 (.node 18 (.node 19 .leaf .nil) .nil) .nil) 3 hm rfl krf krf ?_;simp only [go_sem,simprocAttr,wE];(repeat' (first | (refine And.intro ?_ ?_)|((first | (refine Jqe (hR) ?_)|(refine Jqe (hL) ?_)|(refine Jqe (hK) ?_));simp only [go_sem,simprocAttr,hpd]) | fail))
     all_goals first
      | omega
      | exact rfl
      | exact Jqc
      | (simp only [List.length_append,List.length_cons,List.length_nil];omega)
    ·simp only [go_sem,simprocAttr]
     all_goals exact J1f hno
  ·have c2:=eq_false hg;have hst:Jth n a=Jvh (Jqy n (Jqm n a)):=if_pos (by
    revert hg;cases n.neg <;> cases a <;> simp)
   rw [hst,← Kao];have hul:=Kap (Jqy n (Jqm n a));have hK:=Jwm n.neg (upS (Jqy n (Jqm n a))) (Jqm n a) omg;have hno:=J05 (g:=n.neg) (s:=upS (Jqy n (Jqm n a))) (e:=Jqm n a);rw [Jst] at hK;have hE:max ((n.s.length:Int)+n.e - 100) (-1000)=Jqm n a:=by
    unfold Jqm topR;rw [if_neg (fun h=>by
     have:=h.1;revert hg this;cases n.neg <;> cases a <;> simp)]
   generalize Jqm n a=E at *
   generalize Lib.repeatL [48] (n.e - E).toNat=z at *
   generalize make n.neg (upS (Jqy n E)) E=mk at hK hno ⊢;generalize upS (Jqy n E)=st at *
   generalize Jqy n E=pd at *
   clear hL hst hfig f0 f5 hp;(refine bgo Tryz.func63 ?_;simp only [go_sem,simprocAttr,c1]);(repeat' (first | ((refine Jql ?_);simp only [go_sem,simprocAttr,c2,w1,w3,hE]) | fail));refine Jqn (Jru _ 2 (T:=23) (ls:=[.p (.int .i64 n.kind),.p (.int .i64 n.many),.p (.str n.name),.p (.str n.s),.p (.bool n.neg),.p (.int .i64 n.e)]) (ps:=[.int .i64 n.kind,.int .i64 n.many,.str n.name,.str n.s,.bool n.neg,.int .i64 n.e]) rfl rfl) ?_;simp only [go_sem,simprocAttr];refine Jqn (show St.Le _ ⟨Ba 63 [(2,.eptr [.int .i64 n.kind,.int .i64 n.many,.str n.name,.str n.s,.bool n.neg,.int .i64 n.e]),(4,.ptr 4 0 0),(8,.fn 91 []),(10,.p (.int .i64 E))],[(4,.var 23 [.p (.int .i64 0),.p (.int .i64 0),.p (.str []),.p (.str []),.p (.bool false),.p (.int .i64 0)])]⟩ from Jqc) ?_;refine Jtx ⟨Ba 63 [(4,.ptr 4 0 0),(11,.ptr 11 0 0),(12,.p (.int .i64 mk.2))],[(11,.var 23 [.p (.int .i64 mk.1.kind),.p (.int .i64 mk.1.many),.p (.str mk.1.name),.p (.str mk.1.s),.p (.bool mk.1.neg),.p (.int .i64 mk.1.e)]),(4,.var 23 [.p (.int .i64 0),.p (.int .i64 0),.p (.str []),.p (.str []),.p (.bool false),.p (.int .i64 0)])]⟩ ?_ ?_
   ·refine Juo 17 [0,1,2,3,4,5,6,7,8,9,10,11,12,13,14,15,16] (.node 17 (.node 18 (.node 19 .leaf .nil) .nil) .nil) 3 hm rfl krf krf ?_;simp only [go_sem,simprocAttr,wE];(repeat' (first | (refine And.intro ?_ ?_)|((first | (refine Jqe (hR) ?_)|(refine Jqe (hM) ?_)|(refine Jqe (hK) ?_));simp only [go_sem,simprocAttr,hpd]) | fail))
    all_goals first
     | omega
     | exact rfl
     | exact Jqc
     | (simp only [List.length_append,List.length_cons,List.length_nil];omega)
   ·simp only [go_sem,simprocAttr]
    all_goals exact J1f hno
@[go_sem] theorem jp_bslice {X:Cx} {xs:List (List PV)} {l:Nat} {dst:Option Tmp} {ty:TypeId} {ps:String} {af:Array Edge} {g:Option (Nat×Bool)} {K:Option Nat→St→Prop} {n:Option Nat} {t:List L} {r:Regs} {tx:TypeId} {m:Nat} {pt:Array (Nat×Operand)}:jop X xs l ⟨dst,.buildSlice tx m pt,ty,ps,af,g⟩ K n ⟨t,r⟩=lop X ⟨dst,.buildSlice tx m pt,ty,ps,af,g⟩ (K n) ⟨t,r⟩:=(rfl)
theorem J13 (u:List UInt8):∃ z,u=Jqx u ++ z:=by
 refine ⟨(u.reverse.takeWhile (· == 48)).reverse,?_⟩;unfold Jqx;rw [← List.reverse_append,List.takeWhile_append_dropWhile,List.reverse_reverse]
theorem J3v (u:List UInt8) (h:0<(Jqx u).length):at_ (Jqx u) ((Jqx u).length - 1)≠48:=by
 unfold Jqx at h ⊢;cases hw:u.reverse.dropWhile (· == 48) with
 | nil=>rw [hw] at h;simp at h
 | cons c r =>
  have hc:c≠48:=by
   have:=List.head?_dropWhile_not (p:=(· == (48:UInt8))) u.reverse;rw [hw] at this;simpa using this
  rw [List.reverse_cons,show (r.reverse ++ [c]).length - 1=r.reverse.length by simp,J1l];exact fun h=>hc (Ju1.1 h)
theorem J2i {u:List UInt8} (h:0<(Jqx u).length) (h0:at_ u 0≠48):at_ (Jqx u) 0≠48:=by
 obtain ⟨z,hz⟩:=J13 u;intro h1;apply h0;rw [hz];cases ht:Jqx u with
 | nil=>rw [ht] at h;simp at h
 | cons c r=>rw [ht] at h1;rw [List.cons_append,Jxt];rw [Jxt] at h1;exact h1
theorem J5g {s:List UInt8} (h:Jq4 s=true):Pk (Jqx (Jqo s))=true:=by
 rw [Jvo] at h;unfold Pk at h ⊢;rw [List.all_eq_true] at h ⊢;intro c hc;refine h c ?_;unfold Jqx at hc;have h1:=(List.dropWhile_sublist (· == (48:UInt8)) (l:=(Jqo s).reverse)).mem (List.mem_reverse.1 hc);exact (List.dropWhile_sublist (· == (48:UInt8)) (l:=s)).mem (List.mem_reverse.1 h1)
theorem Jwq {s:List UInt8} {g:Bool} {e:Int} (h:Yz s g e):Jqk ⟨3,0,[],s,g,e⟩:=by
 refine ⟨by show (3:Int)<5;decide,rfl,?_⟩;unfold G3;rw [if_neg sm,if_pos rfl];exact ⟨rfl,h⟩
theorem J46 {g:Bool} {s:List UInt8} {e:Int} (h:(make g s e).2=0):Jqk (make g s e).1:=by
 unfold make at h ⊢;by_cases h1:Jq4 s=false
 ·rw [if_pos h1] at h;cases h
 rw [if_neg h1] at h ⊢;have hf:Jq4 s=true:=by simpa using h1
 by_cases h2:(Jqo s).length=0
 ·rw [if_pos h2] at h ⊢;exact Jwq (s:=[]) (g:=false) (e:=0) de
 rw [if_neg h2] at h ⊢;by_cases h3:e < -100000000
 ·rw [if_pos h3] at h;cases h
 rw [if_neg h3] at h ⊢;by_cases h4:100000000<e
 ·rw [if_pos h4] at h;cases h
 rw [if_neg h4] at h ⊢;dsimp only at h ⊢;by_cases h5:100<((Jqx (Jqo s)).length:Int)
 ·rw [if_pos h5] at h;cases h
 rw [if_neg h5] at h ⊢;by_cases h6:e+(((Jqo s).length:Int) - ((Jqx (Jqo s)).length:Int)) < -1000
 ·rw [if_pos h6] at h;cases h
 rw [if_neg h6] at h ⊢;by_cases h7:1000<((Jqx (Jqo s)).length:Int)+(e+(((Jqo s).length:Int) - ((Jqx (Jqo s)).length:Int)))
 ·rw [if_pos h7] at h;cases h
 rw [if_neg h7];have hh:=Jxj s omg;have hp:=Jx3 _ _ rfl omg hh;refine Jwq ⟨J5g hf,by omega,by omega,by omega,by omega,?_⟩;rw [if_neg (fun e=>by rw [e] at hp;simp at hp)];exact ⟨J2i hp hh,J3v _ hp⟩
theorem Jwg {n m:Node} {a:Bool} (h:Jri n a=some m):Jqk m:=by
 unfold Jri at h;by_cases h1:n.s=[]
 ·rw [if_pos h1] at h;cases h;cases a <;> exact Jwq de
 ·rw [if_neg h1] at h;by_cases h2:(make n.neg (Jth n a) (Jqm n a)).2=0
  ·rw [if_pos h2] at h;cases h;exact J46 h2
  ·rw [if_neg h2] at h;cases h
theorem J5p {l:List (Int×Node)} (hl:∀ a∈l,Jqk a.2) {n:Node} (h:n∈Jsi l):Jqk n:=by
 simp only [Jsi,Jsu,List.mem_append,List.mem_cons,List.not_mem_nil,or_false,List.mem_flatMap] at h;rcases h with (((rfl | rfl | rfl | rfl) | ⟨a,ha,h⟩) | rfl) | ⟨a,ha,h⟩
 ·decide
 ·decide
 ·decide
 ·decide
 ·unfold numC at h;split at h
  ·simp only [List.mem_cons,List.mem_append,Option.mem_toList] at h;rcases h with rfl | h | h
   ·exact hl a ha
   ·exact Jwg h
   ·exact Jwg h
  ·cases h
 ·decide +kernel
 ·unfold strC at h;split at h
  ·rename_i h4;simp only [List.mem_cons,List.not_mem_nil,or_false] at h;rcases h with rfl | rfl
   ·exact hl a ha
   ·have hv:=(hl a ha).2.2;unfold G3 at hv;rw [if_neg omg,if_neg omg,if_pos h4] at hv;refine ⟨by show (4:Int)<5;decide,rfl,?_⟩;unfold G3;rw [if_neg sm,if_neg sm,if_pos rfl];exact ⟨J7d hv.1 (by decide +kernel),rfl,rfl,rfl⟩
  ·cases h
theorem J9e (al:List (Int×Node)):Det cx 47 [.p (.sl (Jq8 al))] [] (.fn 62 [900]) [(900,.var 49 [.p (.sl (Jq8 al))])]:=by
 (refine bgoR true [(1,900)] Tryz.func47 ?_;simp only [go_sem,simprocAttr])
def Jyd (c:List Node):List (List PV):=c.map fun n=>[.agg [.int .i64 n.kind,.int .i64 n.many,.str n.name,.str n.s,.bool n.neg,.int .i64 n.e]]
theorem J0m (c:List Node):(Jyd c).length=c.length:=by simp [Jyd]
theorem J7l {c:List Node} {i:Nat} {n:Node} (h:c[i]? = some n):(Jyd c)[i]? = some [.agg [.int .i64 n.kind,.int .i64 n.many,.str n.name,.str n.s,.bool n.neg,.int .i64 n.e]]:=by simp [Jyd,h]
def preC (p:List Node) (a:Node):Nat→List Node
 | 0=>p ++ [a]
 | 1=>p ++ [a] ++ (Jri a true).toList
 | _=>p ++ [a] ++ (Jri a true).toList ++ (Jri a false).toList
theorem J9n (p:List Node) (a:Node) (j:Nat):(preC p a j).length≤p.length+3:=by
 unfold preC;cases Jri a true <;> cases Jri a false <;> (split <;> simp)
theorem J86 {p:List Node} {a:Int×Node} (h:a.2.kind=3):preC p a.2 2=p ++ numC a:=by
 unfold numC;rw [if_pos h];show p ++ [a.2] ++ (Jri a.2 true).toList ++ (Jri a.2 false).toList=_;simp
theorem Jwt (c:List Node) (n:Node):valL (c ++ [n])=valL c ++ [[.int .i64 n.kind,.int .i64 n.many,.str n.name,.str n.s,.bool n.neg,.int .i64 n.e]]:=by simp [valL,Node.cells]
theorem J8l (al:List (Int×Node)) (hl:al.length≤100000) (ha:∀ a∈al,Jqk a.2∧a.2.s.length≤1000000):Tb cx 62 [.eptr [.sl (Jq8 al)]] (Jyd (Jsi al)):=by
 (refine Jsm (X:=cx) Tryz.func62 krf rfl krf (by simp only [List.length_cons,List.length_nil,Tryz.ntmps62];decide) fun l=>?_;refine N9 _ _ _ _ ?_;simp only [Tryz.ntmps62,go_sem,simprocAttr,Jr7]);refine JWP.loop (fun i:Nat=>(some 0,⟨Ba 90 [(0,.yld l),(1,.eptr [.sl (Jq8 al)]),(3,.own 18 0 (Jsu (al.take i)).length),(19,.p (.sl (Jq8 al))),(20,.p (.int .i64 al.length)),(21,.p (.int .i64 i))],[(18,.row 23 6 (valL (Jsu (al.take i))))]⟩)) (fun i=>i≤al.length) (fun i=>al.length - i) 0 rfl (by rw [show valL (Jsu (al.take 0))=[[.int .i64 0,.int .i64 0,.str [],.str [],.bool false,.int .i64 0],[.int .i64 1,.int .i64 0,.str [],.str [],.bool false,.int .i64 0],[.int .i64 2,.int .i64 0,.str [],.str [],.bool false,.int .i64 0],[.int .i64 3,.int .i64 0,.str [],.str [],.bool false,.int .i64 0]] from rfl,show (Jsu (al.take 0)).length=4 from rfl];dsimp only;exact Jqc) (Nat.zero_le _) ?_;intro i hi;have hcl:=J0k (al.take i);rw [List.length_take,Nat.min_eq_left hi] at hcl;have hpl:(valL (Jsu (al.take i))).length=(Jsu (al.take i)).length:=A7 _;by_cases hlt:i<al.length
 ·have c1:((i:Int)<(al.length:Int))=True:=eq_true omg;obtain ⟨a,hq⟩:∃ a,al[i]? = some a:=⟨_,List.getElem?_eq_getElem hlt⟩
  have hg:=Jva hq;have hap:=(ha a (List.mem_of_getElem? hq)).1;have htk:=J4g hq;have w1:=wj1 (i:=i) omg;by_cases hk:a.2.kind=3
  ·have c2:=eq_true hk;have hB1:=J09 a.2 true hk hap;have hB2:=J09 a.2 false hk hap;rw [← J86 hk] at htk;generalize Jsu (al.take i)=p at *
   (refine N9 _ _ _ _ ?_;simp only [go_sem,simprocAttr,c1,c2,hg,hpl]);(repeat' (first | (refine And.intro (by first | (simp;done)|(simp;omega)) ?_)|(refine Jqd ?_) | fail));have hpp:p.length≤300004:=by omega
   have hl2:∀ j,(valL (preC p a.2 j)).length=(preC p a.2 j).length:=fun j=>A7 _
   have hpc:=J9n p a.2;have hv0:valL (preC p a.2 0)=valL p ++ [[.int .i64 a.2.kind,.int .i64 a.2.many,.str a.2.name,.str a.2.s,.bool a.2.neg,.int .i64 a.2.e]]:=Jwt _ _;have hn0:(preC p a.2 0).length=p.length+1:=by simp [preC]
   have w01:IntKind.i64.wrap (0+1)=1:=by decide
   have w11:IntKind.i64.wrap (1+1)=2:=by decide
   have w00:IntKind.i64.wrap 0=0:=by decide
   have w10:IntKind.i64.wrap 1=1:=by decide
   refine JWP.loop (fun j:Nat=>(some 0,⟨Ba 90 [(0,.yld l),(1,.eptr [.sl (Jq8 al)]),(3,.own 51 0 (preC p a.2 j).length),(5,.ptr 5 0 0),(19,.p (.sl (Jq8 al))),(20,.p (.int .i64 al.length)),(21,.p (.int .i64 i)),(34,.own 34 0 2),(35,.p (.int .i64 2)),(36,.p (.int .i64 j))],[(51,.row 23 6 (valL (preC p a.2 j))),(34,.row 4 1 [[.bool true],[.bool false]]),(5,.var 55 [.p (.int .i64 a.1),.p (.int .i64 a.2.kind),.p (.int .i64 a.2.many),.p (.str a.2.name),.p (.str a.2.s),.p (.bool a.2.neg),.p (.int .i64 a.2.e)])]⟩)) (fun j=>j≤2) (fun j=>2 - j) 0 rfl ?_ omg ?_
   ·dsimp only;rw [hv0,hn0];refine (B1 [(33,51)] _ sm).trans ?_;simp only [go_sem,simprocAttr];exact Jqc
   intro j hj;have hl2j:=hl2 j;have hpcj:=hpc j;rcases (by omega:j=0∨j=1∨j=2) with rfl | rfl | rfl
   ·cases hb:Jri a.2 true with
    | none =>
     rw [hb] at hB1;simp only [besL] at hB1;have e:preC p a.2 1=preC p a.2 0:=by simp [preC,hb]
     generalize preC p a.2 0=q0 at *
     (refine N9 _ _ _ _ ?_;simp only [go_sem,simprocAttr]);(repeat' (first | ((refine Jqa (hB1) ?_);simp only [go_sem,simprocAttr,w10]) | fail));exact ⟨1,by omega,by omega,by rw [e];exact Jqc⟩
    | some m =>
     rw [hb] at hB1;simp only [besL] at hB1;have e:preC p a.2 1=preC p a.2 0 ++ [m]:=by simp [preC,hb]
     have e1:valL (preC p a.2 1)=valL (preC p a.2 0) ++ [[.int .i64 m.kind,.int .i64 m.many,.str m.name,.str m.s,.bool m.neg,.int .i64 m.e]]:=by rw [e,Jwt]
     have e2:(preC p a.2 1).length=(preC p a.2 0).length+1:=by rw [e];simp
     generalize preC p a.2 0=q0 at *
     (refine N9 _ _ _ _ ?_;simp only [go_sem,simprocAttr]);(repeat' (first | (refine And.intro (by first | (simp;done)|(simp;omega)) ?_)|(refine Jqd ?_)|((refine Jqa (hB1) ?_);simp only [go_sem,simprocAttr,w10,hl2j]) | fail));exact ⟨1,by omega,by omega,by rw [e1,e2];exact Jqc⟩
   ·cases hb:Jri a.2 false with
    | none =>
     rw [hb] at hB2;simp only [besL] at hB2;have e:preC p a.2 2=preC p a.2 1:=by simp [preC,hb]
     generalize preC p a.2 1=q0 at *
     (refine N9 _ _ _ _ ?_;simp only [go_sem,simprocAttr]);(repeat' (first | ((refine Jqa (hB2) ?_);simp only [go_sem,simprocAttr]) | fail));exact ⟨2,by omega,by omega,by rw [e];exact Jqc⟩
    | some m =>
     rw [hb] at hB2;simp only [besL] at hB2;have e:preC p a.2 2=preC p a.2 1 ++ [m]:=by simp [preC,hb]
     have e1:valL (preC p a.2 2)=valL (preC p a.2 1) ++ [[.int .i64 m.kind,.int .i64 m.many,.str m.name,.str m.s,.bool m.neg,.int .i64 m.e]]:=by rw [e,Jwt]
     have e2:(preC p a.2 2).length=(preC p a.2 1).length+1:=by rw [e];simp
     generalize preC p a.2 1=q0 at *
     (refine N9 _ _ _ _ ?_;simp only [go_sem,simprocAttr]);(repeat' (first | (refine And.intro (by first | (simp;done)|(simp;omega)) ?_)|(refine Jqd ?_)|((refine Jqa (hB2) ?_);simp only [go_sem,simprocAttr,hl2j]) | fail));exact ⟨2,by omega,by omega,by rw [e1,e2];exact Jqc⟩
   ·(refine N9 _ _ _ _ ?_;simp only [go_sem,simprocAttr,w1,w1]);refine ⟨i+1,by omega,by omega,?_⟩;rw [htk];refine (B1 [(51,18)] _ sm).trans ?_;simp only [go_sem,simprocAttr];exact Jqc
  ·have c2:=eq_false hk;rw [show numC a=[] from if_neg hk,List.append_nil] at htk;(refine N9 _ _ _ _ ?_;simp only [go_sem,simprocAttr,c1,c2,hg,w1]);exact ⟨i+1,by omega,by omega,by rw [htk];exact Jqc⟩
 ·obtain rfl:i=al.length:=by omega
  have c1:((al.length:Int)<(al.length:Int))=False:=eq_false omg;rw [List.take_length] at *
  (refine N9 _ _ _ _ ?_;simp only [go_sem,simprocAttr,Jr7,c1,hpl]);(repeat' (first | (refine And.intro (by first | (simp;done)|(simp;omega)) ?_)|(refine Jqd ?_) | fail));have hb0:valL (Jsb al 0)=valL (Jsu al) ++ [[.int .i64 4,.int .i64 0,.str [],.str [],.bool false,.int .i64 0]]:=by simp [Jsb,valL,Juy,Node.cells]
  have hbn0:(Jsb al 0).length=(Jsu al).length+1:=by simp [Jsb]
  refine JWP.loop (fun k:Nat=>(some 0,⟨Ba 90 [(0,.yld l),(1,.eptr [.sl (Jq8 al)]),(3,.own 57 0 (Jsb al k).length),(58,.p (.sl (Jq8 al))),(59,.p (.int .i64 al.length)),(60,.p (.int .i64 k))],[(57,.row 23 6 (valL (Jsb al k)))]⟩)) (fun k=>k≤al.length) (fun k=>al.length - k) 0 rfl (by dsimp only;rw [hb0,hbn0];exact Jqc) (Nat.zero_le _) ?_;intro k hk;have hclb:=Jz8 al k;have hplb:(valL (Jsb al k)).length=(Jsb al k).length:=A7 _;by_cases hlt:k<al.length
  ·have c1:((k:Int)<(al.length:Int))=True:=eq_true omg;obtain ⟨a,hq⟩:∃ a,al[k]? = some a:=⟨_,List.getElem?_eq_getElem hlt⟩
   have hg:=Jva hq;have htk:=J5v hq;have hsl:=(ha a (List.mem_of_getElem? hq)).2;have w1:=wj1 (i:=k) omg;by_cases hk4:a.2.kind=4
   ·have c2:=eq_true hk4;rw [show strC a=[a.2,⟨4,0,[],a.2.s ++ [0],false,0⟩] from if_pos hk4] at htk;have e1:valL (Jsb al k ++ [a.2,⟨4,0,[],a.2.s ++ [0],false,0⟩])=valL (Jsb al k) ++ [[.int .i64 a.2.kind,.int .i64 a.2.many,.str a.2.name,.str a.2.s,.bool a.2.neg,.int .i64 a.2.e],[.int .i64 4,.int .i64 0,.str [],.str (a.2.s ++ [0]),.bool false,.int .i64 0]]:=by simp [valL,Node.cells]
    have e2:(Jsb al k ++ [a.2,⟨4,0,[],a.2.s ++ [0],false,0⟩]).length=(Jsb al k).length+2:=by simp
    (refine N9 _ _ _ _ ?_;simp only [go_sem,simprocAttr,c1,c1,c2,hg,hplb,w1]);(repeat' (first | (refine And.intro (by first | (simp;done)|(simp;omega)) ?_)|(refine Jqd ?_) | fail));refine ⟨k+1,by omega,by omega,?_⟩;rw [htk];refine (B1 [(77,57)] _ sm).trans ?_;simp only [go_sem,simprocAttr];rw [e1,e2];exact Jqc
   ·have c2:=eq_false hk4;rw [show strC a=[] from if_neg hk4,List.append_nil] at htk;(refine N9 _ _ _ _ ?_;simp only [go_sem,simprocAttr,c1,c1,c2,hg,w1]);exact ⟨k+1,by omega,by omega,by rw [htk];exact Jqc⟩
  ·obtain rfl:k=al.length:=by omega
   have c1:((al.length:Int)<(al.length:Int))=False:=eq_false omg;have hR:Jsb al al.length=Jsi al:=by unfold Jsb Jsi;rw [List.take_length]
   rw [hR] at hclb hplb ⊢;generalize Jsi al=c at *
   have hle0:(c.length≤c.length)=True:=eq_true (Nat.le_refl _);have htk:List.take c.length (valL c)=valL c:=List.take_of_length_le omg;(refine N9 _ _ _ _ ?_;simp only [go_sem,simprocAttr,c1,c1]);refine JWP.loop (fun k:Nat=>(some k,⟨Ba 90 [(0,.yld l),(79,.p (.sl (valL c))),(80,.p (.int .i64 c.length)),(81,.p (.int .i64 k))],[]⟩)) (fun k=>k≤c.length) (fun k=>c.length - k) 0 rfl ?_ (Nat.zero_le _) ?_
   ·refine (Jzv _ (d:=57)).trans ?_;simp only [go_sem,simprocAttr,hplb,hle0,htk];exact Jqc
   intro k hk;by_cases hlt:k<c.length
   ·have c2:((k:Int)<(c.length:Int))=True:=eq_true omg;obtain ⟨n,hq⟩:∃ n,c[k]? = some n:=⟨_,List.getElem?_eq_getElem hlt⟩
    have hg:=U5 hq;have hgc:=J7l hq;have w1:=wj1 (i:=k) omg;(refine N9 _ _ _ _ ?_;simp only [go_sem,simprocAttr,c2,hg,w1,hgc]);exact ⟨⟨k+1,by omega,by omega,rfl,Jqc⟩,.inr trivial⟩
   ·obtain rfl:k=c.length:=by omega
    have c2:((c.length:Int)<(c.length:Int))=False:=eq_false omg;(refine N9 _ _ _ _ ?_;simp only [go_sem,simprocAttr,c2]);rw [J0m];exact .inl rfl
theorem J6x {n:Node} (h:Jqk n):0≤n.kind:=by
 have h3:=h.2.2;unfold G3 at h3
 repeat' split at h3
 all_goals first | omega | exact h3.elim
theorem J87 (m:Nat) (al:List (Int×Node)) (hmk:m≤31) (hl:al.length≤100000) (ha:∀ a∈al,Jrg a.1 a.2∧a.2.s.length≤500):Det cx 32 [.p (.int .i64 m),.p (.sl (Jq8 al))] [] (besL ((Jsi al).find? (Jr2 m al))) []:=by
 have hi:=J8l al hl (fun a h=>⟨(ha a h).1.2.2,by have:=(ha a h).2;omega⟩);have hE:=J9e al;have hfit:∀ n∈Jsi al,CandFit n:=fun n hn=>J85 (fun a h=>⟨J60 (ha a h).1.2.2 (ha a h).2,(ha a h).2⟩) hn
 have hpl:∀ n∈Jsi al,Jqk n:=fun n hn=>J5p (fun a h=>(ha a h).1.2.2) hn
 have hlen:=J69 al;generalize Jsi al=c at *
 obtain ⟨o,ho⟩:∃ o,o=c.find? (Jr2 m al):=⟨_,rfl⟩
 rw [← ho];(refine bgo Tryz.func32 ?_;simp only [go_sem,simprocAttr]);(repeat' (first | ((refine Jqa (hE) ?_);simp only [go_sem,simprocAttr]) | fail));refine Jqn (show St.Le _ ⟨Ba 16 [(2,.ptr 2 0 0),(3,.ptr 3 0 0),(4,.ptr 4 0 0),(5,.ptr 5 0 0),(8,.fn 62 [8])],[(8,.var 49 [.p (.sl (Jq8 al))]),(5,.var 4 [.p (.bool false)]),(4,.var 23 [.p (.int .i64 0),.p (.int .i64 0),.p (.str []),.p (.str []),.p (.bool false),.p (.int .i64 0)]),(3,.var 49 [.p (.sl (Jq8 al))]),(2,.var 3 [.p (.int .i64 m)])]⟩ from Jqc) ?_;(refine SWP.range (Jyd c) 16 [] sm _ _ _ _ _ (fun i R=>R=[(1000,.var 4 [.p (.bool false)]),(1001,.var 23 [.p (.int .i64 0),.p (.int .i64 0),.p (.str []),.p (.str []),.p (.bool false),.p (.int .i64 0)]),(1002,.var 49 [.p (.sl (Jq8 al))]),(1003,.var 3 [.p (.int .i64 m)])]∧o=(c.drop i).find? (Jr2 m al)) (fun y R=>y=.ret∧∃ n,o=some n∧R=[(1000,.var 4 [.p (.bool true)]),(1001,.var 23 [.p (.int .i64 n.kind),.p (.int .i64 n.many),.p (.str n.name),.p (.str n.s),.p (.bool n.neg),.p (.int .i64 n.e)])]) (by rfl) (by rfl) (by rfl) (hi) (by simp only [go_sem,simprocAttr] <;> rfl) (by first | rfl | simp [Cg]) sm ?hps (by simp only [go_sem,simprocAttr] <;> rfl) (by simp only [go_sem,simprocAttr] <;> rfl) (by simp only [go_sem,simprocAttr] <;> rfl) ?h0 ?hkI ?hkS ?hSn ?round ?done ?stop)
 case hps=>intro x hx;obtain ⟨n,_,rfl⟩:=List.mem_map.1 hx;rfl
 case h0=>exact ⟨rfl,ho⟩
 case hkI=>rintro k R ⟨rfl,_⟩;simp [Hg,findKey]
 case hkS=>rintro y R ⟨_,n,_,rfl⟩;simp [Hg,findKey]
 case hSn=>rintro R ⟨h,_⟩;cases h
 case stop =>
  rintro y R ⟨rfl,n,hn,rfl⟩;rw [hn];simp only [go_sem,simprocAttr];refine ⟨_,St.Le.refl _,?_⟩;simp only [go_sem,simprocAttr];rfl
 case done =>
  rintro R ⟨rfl,hno⟩;rw [J0m,List.drop_length] at hno;rw [show o=none from hno];simp only [go_sem,simprocAttr];refine ⟨_,St.Le.refl _,?_⟩;simp only [go_sem,simprocAttr];rfl
 case round =>
  rintro i y R l hx ⟨rfl,hno⟩;obtain ⟨n,hq,rfl⟩:∃ n,c[i]? = some n∧y=[.agg [.int .i64 n.kind,.int .i64 n.many,.str n.name,.str n.s,.bool n.neg,.int .i64 n.e]]:=by
   unfold Jyd at hx;rw [List.getElem?_map] at hx;obtain ⟨n,h1,h2⟩:=Option.map_eq_some_iff.1 hx;exact ⟨n,h1,h2.symm⟩
  have hn:=hfit n (List.mem_of_getElem? hq);have hp:=hpl n (List.mem_of_getElem? hq);have hM:=J8h m al n omg omg omg (fun a h=>(ha a h).1) (fun _=>hp) (by have:=hn.s;omega) (J6x hp);rw [J7n hq] at hno;cases hb:Jr2 m al n with
  | true =>
   rw [hb] at hM hno;simp only [go_sem,simprocAttr];(refine lws ?_;simp only [go_sem,simprocAttr]);(repeat' (first | ((refine Jqa (hM) ?_);simp only [go_sem,simprocAttr]) | fail));refine ⟨_,⟨n,?_,rfl⟩,(Jqp (by simp only [Ar]) (by simp (disch:=omega) [Az,A3,Aw,Am,Af,Ai,Au,Aa]) (by simp [Ay]))⟩;rw [hno,if_pos rfl]
  | false =>
   rw [hb] at hM hno;simp only [go_sem,simprocAttr];(refine lws ?_;simp only [go_sem,simprocAttr]);(repeat' (first | ((refine Jqa (hM) ?_);simp only [go_sem,simprocAttr]) | fail));refine ⟨_,⟨rfl,?_⟩,(Jqp (by simp only [Ar]) (by simp (disch:=omega) [Az,A3,Aw,Am,Af,Ai,Au,Aa]) (by simp [Ay]))⟩;rw [hno,if_neg sm]
end Go.LX
namespace Go.LX
open Go
def Jrf (v:List YRow) (i j:Nat):Prop:=∃ nm t rest,v.drop i=RT.enc nm t ++ rest∧okR t∧j=i+(RT.enc nm t).length
theorem J3m {v:List YRow} {i j k:Nat} (h:Jrf v i j) (h':Jrf v i k):j=k:=by
 obtain ⟨nm,t,r,h1,_,h2⟩:=h;obtain ⟨nm',t',r',h1',_,h2'⟩:=h';rw [h1] at h1';obtain ⟨rfl,rfl,_⟩:=J0o h1';rw [h2,h2']
open Classical in
noncomputable def Jx7 (v:List YRow) (i:Nat):Option Nat:=if h:∃ j,Jrf v i j then some h.choose else none
theorem J37 {v:List YRow} {i j:Nat} (h:Jrf v i j):Jx7 v i=some j:=by
 have hx:∃ j,Jrf v i j:=⟨j,h⟩
 unfold Jx7;rw [dif_pos hx,J3m hx.choose_spec h]
theorem J2d {v:List YRow} {i:Nat} (h:∀ j,¬ Jrf v i j):Jx7 v i=none:=by
 unfold Jx7;rw [dif_neg];rintro ⟨j,hj⟩;exact h j hj
theorem Jt4 {v:List YRow} {i j:Nat} (h:Jrf v i j):∃ y,v[i]? = some y∧Jqu y.kind y.s y.n y.c y.many∧y.many≤v.length:=by
 obtain ⟨nm,⟨k,s,n,c,K⟩,r,h1,h2,_⟩:=h;rw [Jqi,List.cons_append] at h1;refine ⟨⟨k,K.len,nm,s,n,c⟩,?_,(Jsv.1 h2).1,?_⟩
 ·have:=congrArg (·[0]?) h1;simpa using this
 ·have h3:=congrArg List.length h1;have h4:=Jq9 K;simp at h3;simp only;omega
theorem Jw7 {v:List YRow} {i j q:Nat} {y:YRow} {A:RF} (h:Jrf v i j) (hy:v[i]? = some y) (hA:v.drop (i+1)=A.enc ++ v.drop q) (hq:q=i+1+A.enc.length) (hl:(A.len:Int)<y.many) :
  ∃ (nm:List UInt8) (t:RT) (B:RF),v.drop q=RT.enc nm t ++ (B.enc ++ v.drop j)∧okR t∧Jra y.kind (A.list ++ (nm,t) :: B.list):=by
 obtain ⟨nm,⟨k,s,n,c,K⟩,r,h1,h2,h3⟩:=h;rw [Jqi,List.cons_append] at h1;have e0:y=⟨k,K.len,nm,s,n,c⟩:=by
  have:=congrArg (·[0]?) h1;simp only [List.getElem?_drop,Nat.add_zero,List.getElem?_cons_zero,hy] at this;exact Option.some.inj this
 subst e0;simp only at hl ⊢;have h4:v.drop (i+1)=K.enc ++ r:=by
  rw [← List.drop_drop,h1];rfl
 obtain ⟨A',B,rfl,hA'⟩:=Jwp A.len K omg;rw [Jqh,List.append_assoc] at h4;rw [h4] at hA;obtain ⟨rfl,hB⟩:=Jwu hA hA';rw [Jrq] at hl
 match B,hB,hl,h2,h3 with
 | .nil,hB,hl,h2,h3=>simp [RF.len] at hl
 | .cons nm' t B,hB,hl,h2,h3 =>
  obtain ⟨_,g2,_,g3⟩:=Jsv.1 h2;have g4:=(Jrv.1 (Jui.1 g3).2).1;have hj:v.drop j=r:=by
   rw [h3,Jqi,List.length_cons,← Nat.add_assoc,Nat.add_right_comm,← List.drop_drop,h4,Jqh,List.length_append,← List.append_assoc,List.drop_left' (by rw [List.length_append])]
  refine ⟨nm',t,B,?_,g4,?_⟩
  ·rw [← hB,Jqf,List.append_assoc,hj]
  ·rw [Jtn] at g2;exact g2
theorem J33 {v:List YRow} {i j q:Nat} {y:YRow} {A:RF} (h:Jrf v i j) (hy:v[i]? = some y) (hA:v.drop (i+1)=A.enc ++ v.drop q) (hq:q=i+1+A.enc.length) (hl:(A.len:Int)=y.many) :
  Js3 y.kind y.s A.list:=by
 obtain ⟨nm,⟨k,s,n,c,K⟩,r,h1,h2,h3⟩:=h;rw [Jqi,List.cons_append] at h1;have e0:y=⟨k,K.len,nm,s,n,c⟩:=by
  have:=congrArg (·[0]?) h1;simp only [List.getElem?_drop,Nat.add_zero,List.getElem?_cons_zero,hy] at this;exact Option.some.inj this
 subst e0;simp only at hl ⊢;have h4:v.drop (i+1)=K.enc ++ r:=by
  rw [← List.drop_drop,h1];rfl
 rw [h4] at hA;obtain ⟨rfl,_⟩:=Jwu hA omg;exact (Jsv.1 h2).2.2.1
theorem Jye {v:List YRow} {i q:Nat} {y:YRow} {A:RF} (hy:v[i]? = some y) (h1:Jqu y.kind y.s y.n y.c y.many) (hA:v.drop (i+1)=A.enc ++ v.drop q) (hq:q=i+1+A.enc.length) (hl:(A.len:Int)=y.many) (hk:Jra y.kind A.list) (hL:Js3 y.kind y.s A.list) (ho:okRF A):Jrf v i q:=by
 obtain ⟨k,m,nm,s,n,c⟩:=y;simp only at h1 hl hk hL;subst hl;obtain ⟨hi,hv⟩:=List.getElem?_eq_some_iff.1 hy;refine ⟨nm,.mk k s n c A,v.drop q,?_,Jsv.2 ⟨h1,hk,hL,ho⟩,?_⟩
 ·rw [List.drop_eq_getElem_cons hi,hv,hA,Jqi,List.cons_append]
 ·rw [Jqi,List.length_cons];omega
def tnx (k:Int) (l:List RKT) (nm:List UInt8) (kd:Int):Prop:=(kd=9 ↔ k=1)∧(k≠2→nm=[])∧(k=2→valid nm=true)∧(k=2→∀ p,l.getLast? = some p→Op.bytesLess p.1 nm=true)
theorem J4t {l:List RKT} {p:RKT} (h:J3x l) (hl:∀ q,l.getLast? = some q→Op.bytesLess q.1 p.1=true):J3x (l ++ [p]):=by
 unfold J3x at h ⊢;rw [List.pairwise_append];refine ⟨h,by simp,fun a ha b hb=>?_⟩;simp only [List.mem_singleton] at hb;subst hb;rcases List.eq_nil_or_concat l with rfl | ⟨l',q,rfl⟩
 ·cases ha
 ·rw [List.concat_eq_append] at *
  have hq:=hl q sm;rcases List.mem_append.1 ha with ha | ha
  ·exact H8 ((List.pairwise_append.1 h).2.2 a ha q sm) hq
  ·simp only [List.mem_singleton] at ha;subst ha;exact hq
theorem J4s {k:Int} {l:List RKT} {p:RKT} (h:Jra k l) (hp:tnx k l p.1 p.2.kind):Jra k (l ++ [p]):=by
 obtain ⟨h1,h2⟩:=h;obtain ⟨g1,g2,g3,g4⟩:=hp;refine ⟨fun x hx=>?_,fun hk=>J4t (h2 hk) (g4 hk)⟩;rcases List.mem_append.1 hx with hx | hx
 ·exact h1 x hx
 ·rw [List.mem_singleton.1 hx];exact ⟨g1,g2,g3⟩
theorem J4z {k:Int} {l r:List RKT} {p:RKT} (h:Jra k (l ++ p :: r)):tnx k l p.1 p.2.kind:=by
 obtain ⟨h1,h2⟩:=h;obtain ⟨g1,g2,g3⟩:=h1 p sm;refine ⟨g1,g2,g3,fun hk q hq=>?_⟩;exact (List.pairwise_append.1 (h2 hk)).2.2 q (List.mem_of_getLast? hq) p sm
theorem Jxf {v:List YRow} {q:Nat} {x:YRow} {nm:List UInt8} {t:RT} {r:List YRow} (h1:v.drop q=RT.enc nm t ++ r) (hx:v[q]? = some x):x.name=nm∧x.kind=t.kind:=by
 obtain ⟨k,s,n,c,K⟩:=t;rw [Jqi,List.cons_append] at h1;have:=congrArg (·[0]?) h1;simp only [List.getElem?_drop,Nat.add_zero,List.getElem?_cons_zero,hx] at this;cases Option.some.inj this;exact ⟨rfl,rfl⟩
theorem Jsq {v:List YRow} {i j q:Nat} {y x:YRow} {A:RF} (h:Jrf v i j) (hy:v[i]? = some y) (hx:v[q]? = some x) (hA:v.drop (i+1)=A.enc ++ v.drop q) (hq:q=i+1+A.enc.length) (hl:(A.len:Int)<y.many) :
  tnx y.kind A.list x.name x.kind∧∃ j',Jrf v q j':=by
 obtain ⟨nm,t,B,h1,h2,h3⟩:=Jw7 h hy hA hq hl;have e:=Jxf h1 hx;rw [e.1,e.2];exact ⟨J4z h3,_,nm,t,_,h1,h2,rfl⟩
theorem Jvn {v:List YRow} {i j q:Nat} {y:YRow} {A:RF} (h:Jrf v i j) (hy:v[i]? = some y) (hA:v.drop (i+1)=A.enc ++ v.drop q) (hq:q=i+1+A.enc.length) (hl:(A.len:Int)<y.many):q<v.length:=by
 obtain ⟨nm,t,B,h1,h2,h3⟩:=Jw7 h hy hA hq hl;have:=congrArg List.length h1;have hp:=Jr1 t nm;rw [List.length_append,List.length_drop] at this;omega
theorem Jvs {v:List YRow} {i j:Nat} (h:Jrf v i j):j≤v.length∧i<j:=by
 obtain ⟨nm,t,r,h1,h2,h3⟩:=h;have:=congrArg List.length h1;have hp:=Jr1 t nm;rw [List.length_append,List.length_drop] at this;omega
theorem Jup {v:List YRow} {i q j:Nat} {y x:YRow} {A:RF} (hx:v[q]? = some x) (hA:v.drop (i+1)=A.enc ++ v.drop q) (hq:q=i+1+A.enc.length) (hk:Jra y.kind A.list) (ho:okRF A) (hn:tnx y.kind A.list x.name x.kind) (hj:Jrf v q j) :
  ∃ B:RF,B.len=A.len+1∧v.drop (i+1)=B.enc ++ v.drop j∧j=i+1+B.enc.length∧q<j∧Jra y.kind B.list∧okRF B∧∃ t,B.list=A.list ++ [(x.name,t)]:=by
 obtain ⟨nm,t,r,h1,h2,h3⟩:=hj;have e:=Jxf h1 hx;have hp:=Jr1 t nm;have hr:v.drop j=r:=by rw [h3,← List.drop_drop,h1,List.drop_left]
 refine ⟨A.app (.cons nm t .nil),?_,?_,?_,by omega,?_,?_,t,?_⟩
 ·rw [Jrq];rfl
 ·rw [Jqh,Jqf,Jq5,List.append_nil,List.append_assoc,hr,← h1];exact hA
 ·rw [Jqh,Jqf,Jq5,List.append_nil,List.length_append];omega
 ·rw [Jtn];refine J4s hk ?_;rw [e.1,e.2] at hn;exact hn
 ·rw [Jui,Jrv];exact ⟨ho,h2,Jsc⟩
 ·rw [Jtn,e.1];rfl
theorem J4c {k:Int} {s:List UInt8} {n:Int} {c:Node} {m:Int} (h:Jqu k s n c m):0≤m:=by
 unfold Jqu at h
 repeat' split at h
 all_goals first
  | exact h.elim
  | (have h1:=h.1;omega)
noncomputable def Ju8 (v:List YRow) (i:Nat):L:=match Jx7 v i with
 | some j=>.tup [.int .i64 j,.bool true]
 | none=>.tup [.int .i64 0,.bool false]
theorem Jr8 {v:List YRow} {i j:Nat} (h:Jrf v i j):Ju8 v i=.tup [.int .i64 j,.bool true]:=by unfold Ju8;rw [J37 h]
theorem Jqt {v:List YRow} {i:Nat} (h:∀ j,¬ Jrf v i j):Ju8 v i=.tup [.int .i64 0,.bool false]:=by unfold Ju8;rw [J2d h]
end Go.LX
