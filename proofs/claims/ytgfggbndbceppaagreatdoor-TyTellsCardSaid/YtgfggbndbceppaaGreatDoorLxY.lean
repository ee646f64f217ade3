/- Regions that draw their order, with variables that are made in between: calls that only read may be taken first, too. -/
import Derived.Test.YtgfggbndbceppaaGreatDoorLxU
import Derived.Test.YtgfggbndbceppaaGreatDoorLxX
import Derived.Test.YtgfggbndbceppaaGreatDoorLxQ
import Derived.Test.YtgfggbndbceppaaGreatDoorLxW
import Derived.Test.YtgfggbndbceppaaGreatDoorLxV
set_option linter.unusedSimpArgs false
set_option linter.unusedVariables false
set_option linter.unusedSectionVars false
set_option linter.unnecessarySimpa false
namespace Go.LX
open Go Go.RowKit Go.Proofs
theorem Jsv (s:St) (d:Nat) {T:TypeId} {ls:List L} {ps:List PV} (hr:Am d s.regs=some (.var T ls)) (hp:Bg L.pure? ls=some ps):s.Le (Dx d (some (.ar ps)) s):=by
 rintro Γ a w ⟨ms,hdef,β,Im,hx⟩;exact ⟨ms,hdef,β,_,hx.freezeZ d (.ar ps) ⟨_,_,hx.fit.regs d _ (Ax hr),hp⟩ _ (Ax hr)⟩
def farC:L→Bool
 | .p _=>true
 | .eptr _=>true
 | .fn _ []=>true
 | .tup _=>true
 | _=>false
theorem Jy3 {d:Nat} {l:L} (h:farC l=true):L.forget d l=l:=by
 cases l with
 | fn f ds=>cases ds with
  | nil=>rfl
  | cons a b=>cases h
 | p x=>rfl
 | eptr x=>rfl
 | tup x=>rfl
 | _=>cases h
section
variable {X:Cx} {ro:Option Nat} {ops:Array Oper}
def Js3 (o:Oper):Bool:=o.guard.isNone && match o.op with
 | .move _=>true
 | .extract ..=>true
 | .call { callee:=.value _,args:=_,argTypes:=_ }=>true
 | _=>false
def Jsi (s:St) (o:Oper):Prop:=∀ x∈o.op.operands.toList,farC (s.get x)=true∧(Js3 o=true∨farL (s.get x)=true)
theorem Ke8 {ds:List (Option Tmp)} {s s':St} {o:Oper} {K:L→Prop} (h:Js3 o=true) (hg:∀ x∈o.op.operands.toList,s'.get x=s.get x) (hy:YS X ds s o K):YS X ds s' o K:=by
 obtain ⟨dst,op,ty,ps,af,g⟩:=o;cases g with
 | some g=>simp [Js3] at h
 | none =>
  cases op <;> simp [Js3] at h
  case move x =>
   have e:=hg x (by simp [Op.operands]);have hy:K (s.get x):=hy;show K (s'.get x);rw [e];exact hy
  case extract x i =>
   have e:=hg x (by simp [Op.operands]);have hy:Qk (s.get x) i K:=hy;show Qk (s'.get x) i K;rw [e];exact hy
  case call c =>
   obtain ⟨callee,args,ts⟩:=c;cases callee with
   | value f =>
    have e:=hg f (by simp [Op.operands,Call.operands]);have ea:args.toList.map s'.get=args.toList.map s.get:=List.map_congr_left fun x hx=>hg x (by simp [Op.operands,Call.operands];exact .inr (by simpa using hx))
    have hy:J95 X (args.toList.map s.get) K (s.get f):=hy;show J95 X (args.toList.map s'.get) K (s'.get f);rw [e,ea];exact hy
   | _=>simp at h
theorem J65 {ds:List (Option Tmp)} {s s':St} {o:Oper} {K:L→Prop} (hp:Jt4 o=true∨Js3 o=true) (hf:∀ x∈o.op.operands.toList,Js3 o=true∨farL (s.get x)=true) (hg:∀ x∈o.op.operands.toList,s'.get x=s.get x) (hy:YS X ds s o K):YS X ds s' o K:=by
 by_cases h:Js3 o=true
 ·exact Ke8 h hg hy
 ·have hp:Jt4 o=true:=hp.resolve_right h;rw [Kby hp] at hy ⊢;exact lq_far (fun x hx=>by rw [hg x hx];exact (hf x hx).resolve_left h) (Jj8 hg hy)
theorem Kcx {s:St} {dst:Option Tmp} {v:L} {d:Nat} {r:Reg} {l:L} (hv:farC v=true) (hne:∀ x,dst=some x→x≠d):(((s.newReg d r).put (some d) l).put dst v)=(((s.put dst v).newReg d r).put (some d) l):=by
 cases dst with
 | none=>rfl
 | some x =>
  have:=hne x rfl;simp only [St.put,St.newReg,List.map_set,Jy3 hv];rw [List.set_comm _ _ this]
theorem J7v {s:St} {d:Nat} {r:Reg} {l:L} {x:Operand} (hx:x≠.tmp d) (hf:farC (s.get x)=true):((s.newReg d r).put (some d) l).get x=s.get x:=by
 rw [Jmw (fun e he=>by cases he;exact hx)];cases x with
 | tmp i =>
  simp only [St.get,St.newReg,List.getD_eq_getElem?_getD,List.getElem?_map] at hf ⊢;cases hi:s.tmps[i]? with
  | none=>rfl
  | some m =>
   rw [hi] at hf;simp only [Option.map_some,Option.getD_some] at hf ⊢;exact Jy3 hf
 | _=>rfl
theorem Jyq {d:Nat} {z:Fz} {l:L} (h:farC l=true):L.freeze d z l=l:=by
 cases l with
 | fn f ds=>cases ds with
  | nil=>rfl
  | cons a b=>cases h
 | p x=>rfl
 | eptr x=>rfl
 | tup x=>rfl
 | _=>cases h
theorem J67 {s:St} {d:Nat} {dst:Option Tmp} {v:L} (hv:farC v=true):(s.put dst v).freeze d=(s.freeze d).put dst v:=by
 cases dst with
 | none=>rfl
 | some x =>
  simp only [St.put,St.freeze,Dx];cases fzOf (Am d s.regs) with
  | none=>rfl
  | some z=>simp only [List.map_set,Jyq hv]
theorem J50 {s:St} {d:Nat} {y:Operand} (hf:farC (s.get y)=true):(s.freeze d).get y=s.get y:=by
 unfold St.freeze Dx;cases fzOf (Am d s.regs) with
 | none=>rfl
 | some z =>
 cases y with
 | tmp i =>
  simp only [St.get,List.getD_eq_getElem?_getD,List.getElem?_map] at hf ⊢;cases hi:s.tmps[i]? with
  | none=>rfl
  | some m =>
   rw [hi] at hf;simp only [Option.map_some,Option.getD_some] at hf ⊢;exact Jyq hf
 | _=>rfl
theorem Jzv {s:St} {x:Operand} {dst:Option Tmp} {v:L} (hv:farC v=true) (hx:∀ d,dst=some d→x≠.tmp d):(s.put dst v).freezeOps [x]=(s.freezeOps [x]).put dst v:=by
 simp only [St.freezeOps,Jmw hx];cases s.get x <;> first | rfl | (simp only;split <;> first | exact J67 hv | rfl)
theorem J1h {s:St} {x y:Operand} (hf:farC (s.get y)=true):(s.freezeOps [x]).get y=s.get y:=by
 simp only [St.freezeOps];cases s.get x <;> first | rfl | (simp only;split <;> first | exact J50 hf | rfl)
theorem J51 {P:Program} {t:TypeId} {s:St} {a x:Operand} {dst:Option Tmp} {v:L} {K:St→Prop} (hv:farC v=true) (ha:∀ d,dst=some d→a≠.tmp d) (hx:∀ d,dst=some d→x≠.tmp d) (h:Nv P t (s.put dst v) a x K) :
  Nv P t s a x fun s'=>K (s'.put dst v)∧∀ y,farC (s.get y)=true→s'.get y=s.get y:=by
 unfold Nv at h ⊢;rw [Jmw ha,Jmw hx,J5l] at h;split at h
 ·rename_i d i j hd;simp only;split at h
  ·obtain ⟨xs,h1,h2,h3,h4,h5,h6⟩:=h;refine ⟨xs,h1,h2,h3,h4,h5,?_,fun y _=>?_⟩
   ·rw [J1o] at h6;exact h6
   ·cases y <;> rfl
  ·rw [Jzv hv hx] at h;obtain ⟨xs,h1,ps,h2,e,h3,h4,h5,h6,h7,h8,h9⟩:=h;rw [Jmw hx] at h1;rw [J5l] at h7 h9;rw [Jmw ha] at h8;refine ⟨xs,h1,ps,h2,e,h3,h4,h5,h6,h7,h8,?_,fun y hy=>?_⟩
   ·rw [J1o] at h9;exact h9
   ·have:=J1h (x:=x) hy;cases y <;> exact this
  ·obtain ⟨xs,h1,e,h2,h3,h4,h5,h6⟩:=h;refine ⟨xs,h1,e,h2,h3,h4,h5,?_,fun y _=>?_⟩
   ·rw [J1o] at h6;exact h6
   ·cases y <;> rfl
  ·exact h.elim
  ·exact h.elim
 ·exact h.elim
theorem J4l {k:Nat} {K:St→Prop} {i:Nat} {oi:Oper} {v:L} (hi:ops[i]? = some oi) (hik:i<k) (hp:Jt4 oi=true∨Js3 oi=true) (hv:farC v=true) (hA:∀ j oj,k≤j→ops[j]? = some oj→ancB .any ops ops.size i j=true∨Jva oj=true∨Jvs oj=true):∀ (fuel:Nat) (listed:Array Bool) (s:St),Down .any ops listed→Jsi s oi →
   (∀ j oj,ops[j]? = some oj→j≠i→listed.getD j true=false→(∀ e∈oj.after,Region.binds .any e=true→e.on≠i)→oi.apart ops oj=true) →
   i∈Region.ready .any ops listed→YS X (ops.toList.map (·.dst)) s oi (fun m=>m=v) →
   Ty X .any ops k K fuel (listed.setIfInBounds i true) (s.put oi.dst v)→Ty X .any ops k K (fuel+1) listed s:=by
 intro fuel
 induction fuel with
 | zero =>
  intro listed s hd _ _ hr hy H;have only:∀ j∈Region.ready .any ops listed,j=i:=by
   intro j hj;by_cases hji:j=i
   ·exact hji
   ·have:=ready_mono hj hji;rw [H.1] at this;cases this
  refine ⟨fun h=>(by rw [h] at hr;cases hr),fun j hj oj hoj=>?_⟩;have:=only j hj;subst this;rw [hi] at hoj;cases hoj;exact ⟨fun _=>Kr (fun l hl=>by rw [hl];exact H) hy,fun h=>by omega⟩
 | succ fuel ih =>
  intro listed s hd hfar hfree hr hy H;refine ⟨fun h=>(by rw [h] at hr;cases hr),fun j hj oj hoj=>?_⟩;by_cases hji:j=i
  ·subst hji;rw [hi] at hoj;cases hoj;exact ⟨fun _=>Kr (fun l hl=>by rw [hl];exact H) hy,fun h=>by omega⟩
  ·obtain ⟨hjun,oj',hoj',hall⟩:=mem_ready.1 hj;rw [hoj] at hoj';cases hoj';have hnot:∀ e∈oj.after,Region.binds .any e=true→e.on≠i:=fun e he hb heq=>by
    have h1:=hall e he hb;have h0:=(Hn.1 (mem_ready.1 hr).1).2;rw [heq] at h1;rw [h1] at h0;cases h0
   obtain ⟨a1,a2,a3⟩:=Oper.apart_spec (hfree j oj hoj hji hjun hnot);have hfree':∀ q ok,ops[q]? = some ok→q≠i→(listed.setIfInBounds j true).getD q true=false →
     (∀ e∈ok.after,Region.binds .any e=true→e.on≠i)→oi.apart ops ok=true:=fun q ok hk hki hun hno=>by
    refine hfree q ok hk hki ?_ hno;by_cases hjk:j=q
    ·subst hjk;exact hjun
    ·rw [getD_set_ne true hjk] at hun;exact hun
   have hop:∀ d,oj.dst=some d→∀ x∈oi.op.operands.toList,x≠.tmp d:=fun d hd x hx hxd=>a3 d hd (by
    subst hxd;exact List.mem_append_left _ (List.mem_filterMap.2 ⟨.tmp d,by simpa using hx,rfl⟩))
   refine ⟨fun hjk=>?_,fun hkj=>?_⟩
   ·have h1:=(H.2 j (ready_mono hj hji) oj hoj).1 hjk;refine Kr (fun l hl=>?_) (Yr a1 h1);refine ih (listed.setIfInBounds j true) (s.put oj.dst l) (hd.set hj) (fun x hx=>?_) hfree' (ready_mono hr (Ne.symm hji)) (Uk a3 hy) ?_
    ·rw [Jmw (fun d hd=>hop d hd x hx)];exact hfar x hx
    ·rw [Array.setIfInBounds_comm _ _ hji];rw [← Jt6 s v l a2];exact hl
   ·have hal:Jva oj=true∨Jvs oj=true:=by
     rcases hA j oj hkj hoj with h | h
     ·exfalso;have h1:=Qb hd _ i j oj hoj hall h;have h2:=(Hn.1 (mem_ready.1 hr).1).2;rw [h1] at h2;cases h2
     ·exact h
    obtain ⟨C,h1,h2⟩:=(H.2 j (ready_mono hj hji) oj hoj).2 hkj;have hlook:∀ d,oi.dst=some d→∀ x∈oj.op.operands.toList,x≠.tmp d:=fun d hd x hx hxd=>a1 d hd (by
     subst hxd;exact List.mem_append_left _ (List.mem_filterMap.2 ⟨.tmp d,by simpa using hx,rfl⟩))
    obtain ⟨dst,op,ty,ps,af,g⟩:=oj;cases g with
    | some g=>simp [Jva,Jvs] at hal
    | none =>
    rcases hal with hal | hal
    ·cases dst with
     | none=>cases op <;> simp [Jva] at hal
     | some d =>
     cases op <;> simp [Jva] at hal;rename_i T;unfold lAt at h1;rw [Array.getElem?_toList,hoj] at h1;simp only [F4,lop] at h1;obtain ⟨hd1,zs,hzs,hC⟩:=h1;have hne:∀ x,oi.dst=some x→x≠d:=fun x hx e=>a2 x hx (by rw [e])
     have hop':=hop d rfl;refine ⟨fun s'=>s'=(s.newReg d (.var T (zs.map .p))).put (some d) (.ptr d 0 0),?_,?_⟩
     ·unfold lAt;rw [Array.getElem?_toList,hoj];exact ⟨hd1,zs,hzs,rfl⟩
     ·rintro s' rfl;have hg:∀ x∈oi.op.operands.toList,((s.newReg d (.var T (zs.map .p))).put (some d) (.ptr d 0 0)).get x=s.get x:=fun x hx=>J7v (hop' x hx) (hfar x hx).1
      refine ih (listed.setIfInBounds j true) _ (hd.set hj) (fun x hx=>by rw [hg x hx];exact hfar x hx) hfree' (ready_mono hr (Ne.symm hji)) ?_ ?_
      ·exact J65 hp (fun x hx=>(hfar x hx).2) hg hy
      ·rw [Array.setIfInBounds_comm _ _ hji,Kcx hv hne];exact h2 _ hC
    ·cases dst with
     | some d=>cases op <;> simp [Jvs] at hal
     | none =>
     cases op <;> simp [Jvs] at hal;rename_i T a x;unfold lAt at h1;rw [Array.getElem?_toList,hoj] at h1;simp only [F4,lop] at h1;have h3:=J51 hv (fun d hd=>hlook d hd a (by simp [Op.operands])) (fun d hd=>hlook d hd x (by simp [Op.operands])) h1;refine ⟨fun s'=>C (s'.put oi.dst v)∧∀ y,farC (s.get y)=true→s'.get y=s.get y,?_,?_⟩
     ·unfold lAt;rw [Array.getElem?_toList,hoj];exact h3
     ·rintro s' ⟨hC,hgy⟩;have hg:∀ x∈oi.op.operands.toList,s'.get x=s.get x:=fun x hx=>hgy x (hfar x hx).1
      refine ih (listed.setIfInBounds j true) _ (hd.set hj) (fun x hx=>by rw [hg x hx];exact hfar x hx) hfree' (ready_mono hr (Ne.symm hji)) ?_ ?_
      ·exact J65 hp (fun x hx=>(hfar x hx).2) hg hy
      ·rw [Array.setIfInBounds_comm _ _ hji];exact h2 _ hC
def Jut (X:Cx) (ds:List (Option Tmp)) (ops:List Oper) (E:St→Prop):List Nat→St→Prop
 | [],s=>E s
 | i :: I,s=>match ops[i]? with
  | some o=>Jsi s o∧YS X ds s o fun l=>farC l=true∧Jut X ds ops E I (s.put o.dst l)
  | none=>False
def J4n (ops:Array Oper) (k:Nat):List Nat→Array Bool→Bool
 | [],_=>true
 | i :: I,listed=>(Region.ready .any ops listed).contains i && (Region.free .any ops listed i && (decide (i<k) && ((match ops[i]? with | some o=>Jt4 o || Js3 o | none=>false) && ((List.range ops.size).all (fun j=>decide (j<k) || (ancB .any ops ops.size i j || match ops[j]? with | some o=>Jva o || Jvs o | none=>false)) && J4n ops k I (listed.setIfInBounds i true)))))
theorem Jxr {k:Nat} {K:St→Prop} {fuel:Nat}:∀ (I:List Nat) (listed:Array Bool) (s:St),J4n ops k I listed=true→Down .any ops listed →
  Jut X (ops.toList.map (·.dst)) ops.toList (Ty X .any ops k K fuel (J0i I listed)) I s→Ty X .any ops k K (fuel+I.length) listed s
 | [],listed,s,_,_,h=>h
 | i :: I,listed,s,hB,hd,h=>by
  simp only [J4n,Bool.and_eq_true,List.contains_eq_mem,decide_eq_true_eq] at hB;obtain ⟨h1,h2,h3,hp,h4,h5⟩:=hB;obtain ⟨_,oi,hoi,_⟩:=mem_ready.1 h1;rw [hoi] at hp;simp only [Jut] at h;rw [Array.getElem?_toList,hoi] at h;obtain ⟨hf,h⟩:=h;obtain ⟨v,hy,hv,hK⟩:=Jab (X:=X) h;refine J4l hoi h3 (by simpa using hp) hv (fun j oj hj hoj=>?_) (fuel+I.length) listed s hd hf (Region.free_spec hoi h2) h1 hy (Jxr I _ _ h5 (hd.set h1) hK);have:=List.all_eq_true.1 h4 j (List.mem_range.2 (Array.getElem?_eq_some_iff.1 hoj).1);rw [Bool.or_eq_true,decide_eq_true_eq,hoj,Bool.or_eq_true] at this;rcases this with h | h | h
  ·omega
  ·exact .inl h
  ·exact .inr (by simpa using h)
theorem Jzb {ds:List (Option Tmp)} {os:List Oper} {E E':St→Prop} (hE:∀ s,E s→E' s):∀ (I:List Nat) (s:St),Jut X ds os E I s→Jut X ds os E' I s
 | [],s,h=>hE s h
 | i :: I,s,h=>by
  simp only [Jut] at h ⊢;split
  ·rename_i o ho;rw [ho] at h;exact ⟨h.1,Kr (fun l hl=>⟨hl.1,Jzb hE I _ hl.2⟩) h.2⟩
  ·rename_i ho;rw [ho] at h;exact h
theorem Jvy {id:Nat} {Q:Ex→St→Prop} {s:St} (k:Nat) (I:List Nat) (T:Ord) (f:Nat) (hm:X.P.follows .mixedOrders=true) (hf:f+I.length=ops.size) (hB:J4n ops k I (Array.replicate ops.size false)=true) (hT:P6 ops f (J0i I (Array.replicate ops.size false))=T)
  (h:Jut X (ops.toList.map (·.dst)) ops.toList (Jt3 X (ops.toList.map (·.dst)) ops.toList k (Q .normal) T) I s):SWP X ro (.region id ops true) Q s:=fun Γ a w hG hr=>by
 have h':RR Γ s a { w with drawn:=w.drawn+1 }:=by
  obtain ⟨ms,hdef,β,Im,hx⟩:=hr;exact ⟨ms,hdef,β,Im,hx.grow (Grow.drew hx.fit.im)⟩
 refine wpIn_region_any hm (G0 (k:=k) (K:=Q .normal) hG (fun s _ _ h1 h2=>⟨s,h1,h2⟩) _ _ s a _ h' ?_);have hd:Down .any ops (Array.replicate ops.size false):=by
  intro i o ho hl;exfalso;have hi:=(Array.getElem?_eq_some_iff.1 ho).1;simp [Array.getD_eq_getD_getElem?,hi] at hl
 have:=Jxr (X:=X) (K:=Q .normal) (fuel:=f) I (Array.replicate ops.size false) s hB hd ?_
 ·rw [hf] at this;exact this
 ·subst hT;exact Jzb (fun s hs=>Jt5 f _ s hs) I s h
end
section
variable {X:Cx} {ds:List (Option Tmp)} {t:List L} {r:Regs} {E:St→Prop} {dst:Option Tmp} {ty:TypeId} {ps:String} {af:Array Edge} {g:Option (Nat×Bool)}
def YVac (X:Cx) (ds:List (Option Tmp)) (ops:List Oper) (i:Nat) (C:St→Prop) (s:St):Prop:=match ops[i]? with
 | some o=>Jsi s o∧YS X ds s o fun l=>farC l=true∧C (s.put o.dst l)
 | none=>False
def Jxq (dst:Option Tmp) (C:St→Prop) (s:St) (l:L):Prop:=farC l=true∧C (s.put dst l)
theorem Kdy {ops:List Oper}:Jut X ds ops E [] ⟨t,r⟩=E ⟨t,r⟩:=(rfl)
theorem Ke2 {ops:List Oper} {i:Nat} {I:List Nat}:Jut X ds ops E (i :: I) ⟨t,r⟩=YVac X ds ops i (Jut X ds ops E I) ⟨t,r⟩:=(rfl)
theorem vc_at0 {o:Oper} {ops:List Oper}:YVac X ds (o :: ops) 0 E ⟨t,r⟩=(Jsi ⟨t,r⟩ o∧YS X ds ⟨t,r⟩ o (Jxq o.dst E ⟨t,r⟩)):=(rfl)
theorem vc_atS {o:Oper} {ops:List Oper} {i:Nat}:YVac X ds (o :: ops) (i+1) E ⟨t,r⟩=YVac X ds ops i E ⟨t,r⟩:=(rfl)
theorem vc_kp {x:PV}:Jxq dst E ⟨t,r⟩ (.p x)=kput dst E ⟨t,r⟩ (.p x):=by simp [Jxq,farC,kput]
theorem vc_ke {cs:List PV}:Jxq dst E ⟨t,r⟩ (.eptr cs)=kput dst E ⟨t,r⟩ (.eptr cs):=by simp [Jxq,farC,kput]
theorem vc_kt {cs:List PV}:Jxq dst E ⟨t,r⟩ (.tup cs)=kput dst E ⟨t,r⟩ (.tup cs):=by simp [Jxq,farC,kput]
theorem vc_kf {f:FuncId}:Jxq dst E ⟨t,r⟩ (.fn f [])=kput dst E ⟨t,r⟩ (.fn f []):=by simp [Jxq,farC,kput]
theorem vc_fp {x:PV}:(farC (.p x)=true)=True:=by simp [farC]
theorem vc_ft {cs:List PV}:(farC (.tup cs)=true)=True:=by simp [farC]
theorem vc_ff {f:FuncId}:(farC (.fn f [])=true)=True:=by simp [farC]
theorem Key {x:Operand}:Jsi ⟨t,r⟩ ⟨dst,.move x,ty,ps,af,none⟩=(farC ((St.mk t r).get x)=true):=by simp [Jsi,Op.operands,Js3]
theorem vc_ext {x:Operand} {i:Nat}:Jsi ⟨t,r⟩ ⟨dst,.extract x i,ty,ps,af,none⟩=(farC ((St.mk t r).get x)=true):=by simp [Jsi,Op.operands,Js3]
theorem Kei {x:Operand} {args:Array Operand} {ts:Array TypeId}:Jsi ⟨t,r⟩ ⟨dst,.call ⟨.value x,args,ts⟩,ty,ps,af,none⟩=(farC ((St.mk t r).get x)=true∧((args.toList.map (St.mk t r).get).all farC)=true):=by
 simp only [Jsi,Op.operands,Call.operands,Js3,Option.isNone_none,Bool.true_and,true_or,and_true,List.all_map,List.all_eq_true,Function.comp];refine propext ⟨fun h=>⟨h x sm,fun y hy=>h y (by simp;exact .inr (by simpa using hy))⟩,?_⟩
 ·rintro ⟨h1,h2⟩ y hy;simp only [Array.toList_append,List.mem_append,List.mem_cons,List.not_mem_nil,or_false] at hy;rcases hy with rfl | hy
  ·exact h1
  ·exact h2 y hy
theorem J7d {l:L}:(farC l=true∧farL l=true)=(farL l=true):=by
 cases l <;> simp [farC,farL]
theorem vc_fa {T:TypeId} {x:Operand} {f:Nat}:Jsi ⟨t,r⟩ ⟨dst,.fieldAddr T x f,ty,ps,af,g⟩=(farL ((St.mk t r).get x)=true):=by simp [Jsi,Op.operands,Js3,J7d]
theorem vc_ld {T:TypeId} {x:Operand}:Jsi ⟨t,r⟩ ⟨dst,.load T x,ty,ps,af,g⟩=(farL ((St.mk t r).get x)=true):=by simp [Jsi,Op.operands,Js3,J7d]
theorem vc_bin {T U:TypeId} {x y:Operand} {b:BinOp}:Jsi ⟨t,r⟩ ⟨dst,.binOp b T x y U,ty,ps,af,g⟩=(farL ((St.mk t r).get x)=true∧farL ((St.mk t r).get y)=true):=by simp [Jsi,Op.operands,Js3,J7d]
attribute [go_sem] Kdy Ke2 vc_at0 vc_atS vc_kp vc_ke vc_kt vc_kf vc_fp vc_ft vc_ff Key vc_ext Kei vc_fa vc_ld vc_bin
end
end Go.LX
set_option maxRecDepth 100000
set_option maxHeartbeats 4000000
namespace Go.LX
open Go Go.RowKit Go.Proofs
attribute [local irreducible] Al SWP Bi
attribute [go_sem] Tryz.ntmps140 Tryz.results140
theorem Jvb {c:Prop} [Decidable c] {a b:Node×Int} (ha:¬ a.2=0→a.1=node0) (hb:¬ b.2=0→b.1=node0):¬ (if c then a else b).2=0→(if c then a else b).1=node0:=by
 by_cases h:c
 ·rw [if_pos h];exact ha
 ·rw [if_neg h];exact hb
theorem J3d {g:Bool} {s:List UInt8} {e:Int}:¬ (make g s e).2=0→(make g s e).1=node0:=by
 unfold make;dsimp only;exact Jvb (fun _=>rfl) (Jvb (fun h=>absurd rfl h) (Jvb (fun _=>rfl) (Jvb (fun _=>rfl) (Jvb (fun _=>rfl) (Jvb (fun _=>rfl) (Jvb (fun _=>rfl) (fun h=>absurd rfl h)))))))
theorem Ju7 {X:Cx} {ro:Option Nat} {c:Code} {Q:Ex→St→Prop} {s:St} (s0:St) (h:SWP X ro c (kun (fun s=>St.Le s s0) Q) s) (hQ:Q .normal s0):SWP X ro c Q s:=by
 refine h.of_ex fun Γ e a w hG hq=>?_
 cases e with
 | normal=>obtain ⟨s1,h1,hr⟩:=hq;exact ⟨s0,hQ,h1 Γ a w hr⟩
 | exit id=>exact hq
 | ret=>exact hq
 | goto l=>exact hq.elim
 | panic c=>exact hq.elim
 | outgrown=>exact hq.elim
theorem J4j {x:Node×Int} (h:¬ x.2=0→x.1=node0):L.tup [.agg [.int .i64 x.1.kind,.int .i64 x.1.many,.str x.1.name,.str x.1.s,.bool x.1.neg,.int .i64 x.1.e],.bool (x.2 == 0)]=besL (if x.2=0 then some x.1 else none):=by
 by_cases hz:x.2=0
 ·rw [if_pos hz,show (x.2 == 0)=true by simp [hz]];rfl
 ·rw [if_neg hz,show (x.2 == 0)=false by simp [hz],h hz];rfl
theorem Keo (s:List UInt8):(upS s).length≤s.length+1:=by
 unfold upS;split
 ·rw [List.length_drop,J2y];omega
 ·rw [J2y];exact Nat.le_refl _
theorem Ka8 {n:Node} (a:Bool) (hs:n.s.length≤100) (h0:-1000≤n.e):Jqw n a≤n.e:=by
 unfold Jqw topR;split <;> omega
theorem J3j (n:Node) (a:Bool) (hk:n.kind=3) (hp:Jqr n):Det cx 140 [.p (.agg [.int .i64 n.kind,.int .i64 n.many,.str n.name,.str n.s,.bool n.neg,.int .i64 n.e]),.p (.bool a)] [] (besL (Jr2 n a)) []:=by
 have hnr:Yz n.s n.neg n.e:=J41 hp.2.2 hk;obtain ⟨f0,f1,f2,f3,f4,f5⟩:=hnr;by_cases hs0:n.s=[]
 ·have c1:=eq_true hs0;rw [show Jr2 n a=some ⟨3,0,[],[49],!a,-1000⟩ from if_pos hs0];simp only [besL];have hK:=Jye (!a) [49] (-1000) sm;have e1:make (!a) [49] (-1000)=(⟨3,0,[],[49],!a,-1000⟩,0):=by cases a <;> rfl
  rw [e1,Jr9] at hK;(refine bgo Tryz.func140 ?_;simp only [go_sem,simprocAttr,c1]);(repeat' (first | ((refine Jqa (hK) ?_);simp only [go_sem,simprocAttr]) | fail))
 ·have c1:=eq_false hs0;rw [show Jr2 n a=(if (make n.neg (Jug n a) (Jqw n a)).2=0 then some (make n.neg (Jug n a) (Jqw n a)).1 else none) from if_neg hs0];have htop:-1001≤topR n a∧topR n a≤1100:=by unfold topR;split <;> omega
  have hle:-1000≤Jqw n a∧Jqw n a≤1000:=by unfold Jqw;omega
  have hle2:=Ka8 a f1 f2;have hplen:=J57 n (Jqw n a);have hfig:∀ c∈Jrd n (Jqw n a),48≤c∧c≤57:=by
   intro c hc;unfold Jrd at hc;rcases List.mem_append.1 hc with h | h
   ·have:=List.all_eq_true.1 f0 c h;simp only [Ja8,Bool.and_eq_true,decide_eq_true_eq] at this;exact ⟨UInt8.le_iff_toNat_le.2 this.1,UInt8.le_iff_toNat_le.2 this.2⟩
   ·rw [List.eq_of_mem_replicate h];exact ⟨by decide,by decide⟩
  have hM:=d_up (Jrd n (Jqw n a)) omg hfig;have hL:=d_down (Jrd n (Jqw n a)) omg (by
   rw [if_neg hs0] at f5;have hpos:0<n.s.length:=by
    cases h:n.s with
    | nil=>exact absurd h hs0
    | cons=>simp
   refine ⟨n.s[0],by unfold Jrd;exact List.mem_append_left _ (List.getElem_mem hpos),fun h=>f5.1 ?_⟩;rw [Ql hpos,h];rfl) hfig
  have hR:=J20 [48] (n.e - Jqw n a) omg omg (by simp;omega);have hpd:n.s ++ Lib.repeatL [48] (n.e - Jqw n a).toNat=Jrd n (Jqw n a):=by unfold Jrd;rw [J9h]
  have hrl:(Lib.repeatL [48] (n.e - Jqw n a).toNat).length=(n.e - Jqw n a).toNat:=by rw [Lib.repeatL_length];simp
  have wE:IntKind.i64.wrap (n.e - Jqw n a)=n.e - Jqw n a:=Aa omg omg;have w1:IntKind.i64.wrap ((n.s.length:Int)+n.e)=(n.s.length:Int)+n.e:=Aa omg omg;have w2:IntKind.i64.wrap ((n.s.length:Int)+n.e - 1)=(n.s.length:Int)+n.e - 1:=Aa omg omg;have w3:IntKind.i64.wrap ((n.s.length:Int)+n.e - 100)=(n.s.length:Int)+n.e - 100:=Aa omg omg;have w4:IntKind.i64.wrap ((n.s.length:Int)+n.e - 1 - 100)=(n.s.length:Int)+n.e - 1 - 100:=Aa omg omg;by_cases hg:n.neg=a
  ·have c2:=eq_true hg;have hst:Jug n a=Jvt (Jrd n (Jqw n a)):=if_neg (by rw [hg];simp);rw [hst];have hK:=Jye n.neg (Jvt (Jrd n (Jqw n a))) (Jqw n a) (by rw [Kas];omega);have hno:=J3d (g:=n.neg) (s:=Jvt (Jrd n (Jqw n a))) (e:=Jqw n a);rw [Jr9] at hK;by_cases h49:n.s=[49]
   ·have c3:=eq_true h49;have hE:max ((n.s.length:Int)+n.e - 1 - 100) (-1000)=Jqw n a:=by unfold Jqw topR;rw [if_pos ⟨by rw [hg];simp,h49⟩]
    generalize Jqw n a=E at *
    generalize Lib.repeatL [48] (n.e - E).toNat=z at *
    generalize make n.neg (Jvt (Jrd n E)) E=mk at hK hno ⊢;generalize Jvt (Jrd n E)=st at *
    generalize Jrd n E=pd at *
    clear hM hst hfig f0 f5 hp;(refine bgo Tryz.func140 ?_;simp only [go_sem,simprocAttr,c1]);(repeat' (first | ((refine Jqp ?_);simp only [go_sem,simprocAttr,c2,c3,w1,w2,w4,hE]) | fail));refine Jqn (Jsv _ 2 (T:=35) (ls:=[.p (.int .i64 n.kind),.p (.int .i64 n.many),.p (.str n.name),.p (.str n.s),.p (.bool n.neg),.p (.int .i64 n.e)]) (ps:=[.int .i64 n.kind,.int .i64 n.many,.str n.name,.str n.s,.bool n.neg,.int .i64 n.e]) rfl rfl) ?_;simp only [go_sem,simprocAttr];refine Jqn (show St.Le _ ⟨Ba 63 [(2,.eptr [.int .i64 n.kind,.int .i64 n.many,.str n.name,.str n.s,.bool n.neg,.int .i64 n.e]),(4,.ptr 4 0 0),(8,.fn 170 []),(10,.p (.int .i64 E))],[(4,.var 35 [.p (.int .i64 0),.p (.int .i64 0),.p (.str []),.p (.str []),.p (.bool false),.p (.int .i64 0)])]⟩ from Jqb) ?_;refine Ju7 ⟨Ba 63 [(4,.ptr 4 0 0),(11,.ptr 11 0 0),(12,.p (.int .i64 mk.2))],[(11,.var 35 [.p (.int .i64 mk.1.kind),.p (.int .i64 mk.1.many),.p (.str mk.1.name),.p (.str mk.1.s),.p (.bool mk.1.neg),.p (.int .i64 mk.1.e)]),(4,.var 35 [.p (.int .i64 0),.p (.int .i64 0),.p (.str []),.p (.str []),.p (.bool false),.p (.int .i64 0)])]⟩ ?_ ?_
    ·refine Jvy 17 [0,1,2,3,4,5,6,7,8,9,10,11,12,13,14,15,16] (.node 17 (.node 18 (.node 19 .leaf .nil) .nil) .nil) 3 hm rfl krf krf ?_;simp only [go_sem,simprocAttr,wE];(repeat' (first | (refine And.intro ?_ ?_)|((first | (refine Jqg (hR) ?_)|(refine Jqg (hL) ?_)|(refine Jqg (hK) ?_));simp only [go_sem,simprocAttr,hpd]) | fail))
     all_goals first
      | omega
      | exact rfl
      | exact Jqb
      | (simp only [List.length_append,List.length_cons,List.length_nil];omega)
    ·simp only [go_sem,simprocAttr]
     all_goals exact J4j hno
   ·have c3:=eq_false h49;have hE:max ((n.s.length:Int)+n.e - 100) (-1000)=Jqw n a:=by unfold Jqw topR;rw [if_neg (fun h=>h49 h.2)]
    generalize Jqw n a=E at *
    generalize Lib.repeatL [48] (n.e - E).toNat=z at *
    generalize make n.neg (Jvt (Jrd n E)) E=mk at hK hno ⊢;generalize Jvt (Jrd n E)=st at *
    generalize Jrd n E=pd at *
    clear hM hst hfig f0 f5 hp;(refine bgo Tryz.func140 ?_;simp only [go_sem,simprocAttr,c1]);(repeat' (first | ((refine Jqp ?_);simp only [go_sem,simprocAttr,c2,c3,w1,w3,hE]) | fail));refine Jqn (Jsv _ 2 (T:=35) (ls:=[.p (.int .i64 n.kind),.p (.int .i64 n.many),.p (.str n.name),.p (.str n.s),.p (.bool n.neg),.p (.int .i64 n.e)]) (ps:=[.int .i64 n.kind,.int .i64 n.many,.str n.name,.str n.s,.bool n.neg,.int .i64 n.e]) rfl rfl) ?_;simp only [go_sem,simprocAttr];refine Jqn (show St.Le _ ⟨Ba 63 [(2,.eptr [.int .i64 n.kind,.int .i64 n.many,.str n.name,.str n.s,.bool n.neg,.int .i64 n.e]),(4,.ptr 4 0 0),(8,.fn 170 []),(10,.p (.int .i64 E))],[(4,.var 35 [.p (.int .i64 0),.p (.int .i64 0),.p (.str []),.p (.str []),.p (.bool false),.p (.int .i64 0)])]⟩ from Jqb) ?_;refine Ju7 ⟨Ba 63 [(4,.ptr 4 0 0),(11,.ptr 11 0 0),(12,.p (.int .i64 mk.2))],[(11,.var 35 [.p (.int .i64 mk.1.kind),.p (.int .i64 mk.1.many),.p (.str mk.1.name),.p (.str mk.1.s),.p (.bool mk.1.neg),.p (.int .i64 mk.1.e)]),(4,.var 35 [.p (.int .i64 0),.p (.int .i64 0),.p (.str []),.p (.str []),.p (.bool false),.p (.int .i64 0)])]⟩ ?_ ?_
    ·refine Jvy 17 [0,1,2,3,4,5,6,7,8,9,10,11,12,13,14,15,16] (.node 17 (.node 18 (.node 19 .leaf .nil) .nil) .nil) 3 hm rfl krf krf ?_;simp only [go_sem,simprocAttr,wE];(repeat' (first | (refine And.intro ?_ ?_)|((first | (refine Jqg (hR) ?_)|(refine Jqg (hL) ?_)|(refine Jqg (hK) ?_));simp only [go_sem,simprocAttr,hpd]) | fail))
     all_goals first
      | omega
      | exact rfl
      | exact Jqb
      | (simp only [List.length_append,List.length_cons,List.length_nil];omega)
    ·simp only [go_sem,simprocAttr]
     all_goals exact J4j hno
  ·have c2:=eq_false hg;have hst:Jug n a=Jwy (Jrd n (Jqw n a)):=if_pos (by
    revert hg;cases n.neg <;> cases a <;> simp)
   rw [hst,← Kfk];have hul:=Keo (Jrd n (Jqw n a));have hK:=Jye n.neg (upS (Jrd n (Jqw n a))) (Jqw n a) omg;have hno:=J3d (g:=n.neg) (s:=upS (Jrd n (Jqw n a))) (e:=Jqw n a);rw [Jr9] at hK;have hE:max ((n.s.length:Int)+n.e - 100) (-1000)=Jqw n a:=by
    unfold Jqw topR;rw [if_neg (fun h=>by
     have:=h.1;revert hg this;cases n.neg <;> cases a <;> simp)]
   generalize Jqw n a=E at *
   generalize Lib.repeatL [48] (n.e - E).toNat=z at *
   generalize make n.neg (upS (Jrd n E)) E=mk at hK hno ⊢;generalize upS (Jrd n E)=st at *
   generalize Jrd n E=pd at *
   clear hL hst hfig f0 f5 hp;(refine bgo Tryz.func140 ?_;simp only [go_sem,simprocAttr,c1]);(repeat' (first | ((refine Jqp ?_);simp only [go_sem,simprocAttr,c2,w1,w3,hE]) | fail));refine Jqn (Jsv _ 2 (T:=35) (ls:=[.p (.int .i64 n.kind),.p (.int .i64 n.many),.p (.str n.name),.p (.str n.s),.p (.bool n.neg),.p (.int .i64 n.e)]) (ps:=[.int .i64 n.kind,.int .i64 n.many,.str n.name,.str n.s,.bool n.neg,.int .i64 n.e]) rfl rfl) ?_;simp only [go_sem,simprocAttr];refine Jqn (show St.Le _ ⟨Ba 63 [(2,.eptr [.int .i64 n.kind,.int .i64 n.many,.str n.name,.str n.s,.bool n.neg,.int .i64 n.e]),(4,.ptr 4 0 0),(8,.fn 169 []),(10,.p (.int .i64 E))],[(4,.var 35 [.p (.int .i64 0),.p (.int .i64 0),.p (.str []),.p (.str []),.p (.bool false),.p (.int .i64 0)])]⟩ from Jqb) ?_;refine Ju7 ⟨Ba 63 [(4,.ptr 4 0 0),(11,.ptr 11 0 0),(12,.p (.int .i64 mk.2))],[(11,.var 35 [.p (.int .i64 mk.1.kind),.p (.int .i64 mk.1.many),.p (.str mk.1.name),.p (.str mk.1.s),.p (.bool mk.1.neg),.p (.int .i64 mk.1.e)]),(4,.var 35 [.p (.int .i64 0),.p (.int .i64 0),.p (.str []),.p (.str []),.p (.bool false),.p (.int .i64 0)])]⟩ ?_ ?_
   ·refine Jvy 17 [0,1,2,3,4,5,6,7,8,9,10,11,12,13,14,15,16] (.node 17 (.node 18 (.node 19 .leaf .nil) .nil) .nil) 3 hm rfl krf krf ?_;simp only [go_sem,simprocAttr,wE];(repeat' (first | (refine And.intro ?_ ?_)|((first | (refine Jqg (hR) ?_)|(refine Jqg (hM) ?_)|(refine Jqg (hK) ?_));simp only [go_sem,simprocAttr,hpd]) | fail))
    all_goals first
     | omega
     | exact rfl
     | exact Jqb
     | (simp only [List.length_append,List.length_cons,List.length_nil];omega)
   ·simp only [go_sem,simprocAttr]
    all_goals exact J4j hno
end Go.LX
set_option maxHeartbeats 2000000
namespace Go.LX
open Go Go.RowKit Go.Proofs
attribute [local irreducible] Al SWP Bi
attribute [go_sem] Tryz.ntmps115 Tryz.results115 Tryz.ntmps139
@[go_sem] theorem jp_bslice {X:Cx} {xs:List (List PV)} {l:Nat} {dst:Option Tmp} {ty:TypeId} {ps:String} {af:Array Edge} {g:Option (Nat×Bool)} {K:Option Nat→St→Prop} {n:Option Nat} {t:List L} {r:Regs} {tx:TypeId} {m:Nat} {pt:Array (Nat×Operand)}:jop X xs l ⟨dst,.buildSlice tx m pt,ty,ps,af,g⟩ K n ⟨t,r⟩=lop X ⟨dst,.buildSlice tx m pt,ty,ps,af,g⟩ (K n) ⟨t,r⟩:=(rfl)
theorem J45 (u:List UInt8):∃ z,u=Jqz u ++ z:=by
 refine ⟨(u.reverse.takeWhile (· == 48)).reverse,?_⟩;unfold Jqz;rw [← List.reverse_append,List.takeWhile_append_dropWhile,List.reverse_reverse]
theorem J5s (u:List UInt8) (h:0<(Jqz u).length):at_ (Jqz u) ((Jqz u).length - 1)≠48:=by
 unfold Jqz at h ⊢;cases hw:u.reverse.dropWhile (· == 48) with
 | nil=>rw [hw] at h;simp at h
 | cons c r =>
  have hc:c≠48:=by
   have:=List.head?_dropWhile_not (p:=(· == (48:UInt8))) u.reverse;rw [hw] at this;simpa using this
  rw [List.reverse_cons,show (r.reverse ++ [c]).length - 1=r.reverse.length by simp,J4h];exact fun h=>hc (Jv9.1 h)
theorem J6w {u:List UInt8} (h:0<(Jqz u).length) (h0:at_ u 0≠48):at_ (Jqz u) 0≠48:=by
 obtain ⟨z,hz⟩:=J45 u;intro h1;apply h0;rw [hz];cases ht:Jqz u with
 | nil=>rw [ht] at h;simp at h
 | cons c r=>rw [ht] at h1;rw [List.cons_append,Jws];rw [Jws] at h1;exact h1
theorem J75 {s:List UInt8} (h:Jrj s=true):Pk (Jqz (Jqt s))=true:=by
 rw [Jwv] at h;unfold Pk at h ⊢;rw [List.all_eq_true] at h ⊢;intro c hc;refine h c ?_;unfold Jqz at hc;have h1:=(List.dropWhile_sublist (· == (48:UInt8)) (l:=(Jqt s).reverse)).mem (List.mem_reverse.1 hc);exact (List.dropWhile_sublist (· == (48:UInt8)) (l:=s)).mem (List.mem_reverse.1 h1)
theorem Jya {s:List UInt8} {g:Bool} {e:Int} (h:Yz s g e):Jqr ⟨3,0,[],s,g,e⟩:=by
 refine ⟨by show (3:Int)<5;decide,rfl,?_⟩;unfold G3;rw [if_neg sm,if_pos rfl];exact ⟨rfl,h⟩
theorem J7h {g:Bool} {s:List UInt8} {e:Int} (h:(make g s e).2=0):Jqr (make g s e).1:=by
 unfold make at h ⊢;by_cases h1:Jrj s=false
 ·rw [if_pos h1] at h;cases h
 rw [if_neg h1] at h ⊢;have hf:Jrj s=true:=by simpa using h1
 by_cases h2:(Jqt s).length=0
 ·rw [if_pos h2] at h ⊢;exact Jya (s:=[]) (g:=false) (e:=0) de
 rw [if_neg h2] at h ⊢;by_cases h3:e < -100000000
 ·rw [if_pos h3] at h;cases h
 rw [if_neg h3] at h ⊢;by_cases h4:100000000<e
 ·rw [if_pos h4] at h;cases h
 rw [if_neg h4] at h ⊢;dsimp only at h ⊢;by_cases h5:100<((Jqz (Jqt s)).length:Int)
 ·rw [if_pos h5] at h;cases h
 rw [if_neg h5] at h ⊢;by_cases h6:e+(((Jqt s).length:Int) - ((Jqz (Jqt s)).length:Int)) < -1000
 ·rw [if_pos h6] at h;cases h
 rw [if_neg h6] at h ⊢;by_cases h7:1000<((Jqz (Jqt s)).length:Int)+(e+(((Jqt s).length:Int) - ((Jqz (Jqt s)).length:Int)))
 ·rw [if_pos h7] at h;cases h
 rw [if_neg h7];have hh:=Jy6 s omg;have hp:=J0r _ _ rfl omg hh;refine Jya ⟨J75 hf,by omega,by omega,by omega,by omega,?_⟩;rw [if_neg (fun e=>by rw [e] at hp;simp at hp)];exact ⟨J6w hp hh,J5s _ hp⟩
theorem Jxz {n m:Node} {a:Bool} (h:Jr2 n a=some m):Jqr m:=by
 unfold Jr2 at h;by_cases h1:n.s=[]
 ·rw [if_pos h1] at h;cases h;cases a <;> exact Jya de
 ·rw [if_neg h1] at h;by_cases h2:(make n.neg (Jug n a) (Jqw n a)).2=0
  ·rw [if_pos h2] at h;cases h;exact J7h h2
  ·rw [if_neg h2] at h;cases h
theorem J8l {l:List (Int×Node)} (hl:∀ a∈l,Jqr a.2) {n:Node} (h:n∈Js8 l):Jqr n:=by
 simp only [Js8,Jtl,List.mem_append,List.mem_cons,List.not_mem_nil,or_false,List.mem_flatMap] at h;rcases h with (((rfl | rfl | rfl | rfl) | ⟨a,ha,h⟩) | rfl) | ⟨a,ha,h⟩
 ·decide
 ·decide
 ·decide
 ·decide
 ·unfold numC at h;split at h
  ·simp only [List.mem_cons,List.mem_append,Option.mem_toList] at h;rcases h with rfl | h | h
   ·exact hl a ha
   ·exact Jxz h
   ·exact Jxz h
  ·cases h
 ·decide +kernel
 ·unfold strC at h;split at h
  ·rename_i h4;simp only [List.mem_cons,List.not_mem_nil,or_false] at h;rcases h with rfl | rfl
   ·exact hl a ha
   ·have hv:=(hl a ha).2.2;unfold G3 at hv;rw [if_neg omg,if_neg omg,if_pos h4] at hv;refine ⟨by show (4:Int)<5;decide,rfl,?_⟩;unfold G3;rw [if_neg sm,if_neg sm,if_pos rfl];exact ⟨Kan hv.1 (by decide +kernel),rfl,rfl,rfl⟩
  ·cases h
theorem Kdj (al:List (Int×Node)):Det cx 115 [.p (.sl (Jq9 al))] [] (.fn 139 [900]) [(900,.var 46 [.p (.sl (Jq9 al))])]:=by
 (refine bgoR true [(1,900)] Tryz.func115 ?_;simp only [go_sem,simprocAttr])
def J0f (c:List Node):List (List PV):=c.map fun n=>[.agg [.int .i64 n.kind,.int .i64 n.many,.str n.name,.str n.s,.bool n.neg,.int .i64 n.e]]
theorem J3a (c:List Node):(J0f c).length=c.length:=by simp [J0f]
theorem Kbo {c:List Node} {i:Nat} {n:Node} (h:c[i]? = some n):(J0f c)[i]? = some [.agg [.int .i64 n.kind,.int .i64 n.many,.str n.name,.str n.s,.bool n.neg,.int .i64 n.e]]:=by simp [J0f,h]
def preC (p:List Node) (a:Node):Nat→List Node
 | 0=>p ++ [a]
 | 1=>p ++ [a] ++ (Jr2 a true).toList
 | _=>p ++ [a] ++ (Jr2 a true).toList ++ (Jr2 a false).toList
theorem Kcp (p:List Node) (a:Node) (j:Nat):(preC p a j).length≤p.length+3:=by
 unfold preC;cases Jr2 a true <;> cases Jr2 a false <;> (split <;> simp)
theorem Kdu {p:List Node} {a:Int×Node} (h:a.2.kind=3):preC p a.2 2=p ++ numC a:=by
 unfold numC;rw [if_pos h];show p ++ [a.2] ++ (Jr2 a.2 true).toList ++ (Jr2 a.2 false).toList=_;simp
theorem Jx8 (c:List Node) (n:Node):valL (c ++ [n])=valL c ++ [[.int .i64 n.kind,.int .i64 n.many,.str n.name,.str n.s,.bool n.neg,.int .i64 n.e]]:=by simp [valL,Node.cells]
theorem Kc0 (al:List (Int×Node)) (hl:al.length≤100000) (ha:∀ a∈al,Jqr a.2∧a.2.s.length≤1000000):Tb cx 139 [.eptr [.sl (Jq9 al)]] (J0f (Js8 al)):=by
 (refine Jtg (X:=cx) Tryz.func139 krf rfl krf (by simp only [List.length_cons,List.length_nil,Tryz.ntmps139];decide) fun l=>?_;refine N9 _ _ _ _ ?_;simp only [Tryz.ntmps139,go_sem,simprocAttr,Jqm]);refine JWP.loop (fun i:Nat=>(some 0,⟨Ba 90 [(0,.yld l),(1,.eptr [.sl (Jq9 al)]),(3,.own 18 0 (Jtl (al.take i)).length),(19,.p (.sl (Jq9 al))),(20,.p (.int .i64 al.length)),(21,.p (.int .i64 i))],[(18,.row 35 6 (valL (Jtl (al.take i))))]⟩)) (fun i=>i≤al.length) (fun i=>al.length - i) 0 rfl (by rw [show valL (Jtl (al.take 0))=[[.int .i64 0,.int .i64 0,.str [],.str [],.bool false,.int .i64 0],[.int .i64 1,.int .i64 0,.str [],.str [],.bool false,.int .i64 0],[.int .i64 2,.int .i64 0,.str [],.str [],.bool false,.int .i64 0],[.int .i64 3,.int .i64 0,.str [],.str [],.bool false,.int .i64 0]] from rfl,show (Jtl (al.take 0)).length=4 from rfl];dsimp only;exact Jqb) (Nat.zero_le _) ?_;intro i hi;have hcl:=J3t (al.take i);rw [List.length_take,Nat.min_eq_left hi] at hcl;have hpl:(valL (Jtl (al.take i))).length=(Jtl (al.take i)).length:=A7 _;by_cases hlt:i<al.length
 ·have c1:((i:Int)<(al.length:Int))=True:=eq_true omg;obtain ⟨a,hq⟩:∃ a,al[i]? = some a:=⟨_,List.getElem?_eq_getElem hlt⟩
  have hg:=Jt9 hq;have hap:=(ha a (List.mem_of_getElem? hq)).1;have htk:=J8z hq;have w1:=wj1 (i:=i) omg;by_cases hk:a.2.kind=3
  ·have c2:=eq_true hk;have hB1:=J3j a.2 true hk hap;have hB2:=J3j a.2 false hk hap;rw [← Kdu hk] at htk;generalize Jtl (al.take i)=p at *
   (refine N9 _ _ _ _ ?_;simp only [go_sem,simprocAttr,c1,c2,hg,hpl]);(repeat' (first | (refine And.intro (by first | (simp;done)|(simp;omega)) ?_)|(refine Jqd ?_) | fail));have hpp:p.length≤300004:=by omega
   have hl2:∀ j,(valL (preC p a.2 j)).length=(preC p a.2 j).length:=fun j=>A7 _
   have hpc:=Kcp p a.2;have hv0:valL (preC p a.2 0)=valL p ++ [[.int .i64 a.2.kind,.int .i64 a.2.many,.str a.2.name,.str a.2.s,.bool a.2.neg,.int .i64 a.2.e]]:=Jx8 _ _;have hn0:(preC p a.2 0).length=p.length+1:=by simp [preC]
   have w01:IntKind.i64.wrap (0+1)=1:=by decide
   have w11:IntKind.i64.wrap (1+1)=2:=by decide
   have w00:IntKind.i64.wrap 0=0:=by decide
   have w10:IntKind.i64.wrap 1=1:=by decide
   refine JWP.loop (fun j:Nat=>(some 0,⟨Ba 90 [(0,.yld l),(1,.eptr [.sl (Jq9 al)]),(3,.own 51 0 (preC p a.2 j).length),(5,.ptr 5 0 0),(19,.p (.sl (Jq9 al))),(20,.p (.int .i64 al.length)),(21,.p (.int .i64 i)),(34,.own 34 0 2),(35,.p (.int .i64 2)),(36,.p (.int .i64 j))],[(51,.row 35 6 (valL (preC p a.2 j))),(34,.row 4 1 [[.bool true],[.bool false]]),(5,.var 49 [.p (.int .i64 a.1),.p (.int .i64 a.2.kind),.p (.int .i64 a.2.many),.p (.str a.2.name),.p (.str a.2.s),.p (.bool a.2.neg),.p (.int .i64 a.2.e)])]⟩)) (fun j=>j≤2) (fun j=>2 - j) 0 rfl ?_ omg ?_
   ·dsimp only;rw [hv0,hn0];refine (B1 [(33,51)] _ sm).trans ?_;simp only [go_sem,simprocAttr];exact Jqb
   intro j hj;have hl2j:=hl2 j;have hpcj:=hpc j;rcases (by omega:j=0∨j=1∨j=2) with rfl | rfl | rfl
   ·cases hb:Jr2 a.2 true with
    | none =>
     rw [hb] at hB1;simp only [besL] at hB1;have e:preC p a.2 1=preC p a.2 0:=by simp [preC,hb]
     generalize preC p a.2 0=q0 at *
     (refine N9 _ _ _ _ ?_;simp only [go_sem,simprocAttr]);(repeat' (first | ((refine Jqa (hB1) ?_);simp only [go_sem,simprocAttr,w10]) | fail));exact ⟨1,by omega,by omega,by rw [e];exact Jqb⟩
    | some m =>
     rw [hb] at hB1;simp only [besL] at hB1;have e:preC p a.2 1=preC p a.2 0 ++ [m]:=by simp [preC,hb]
     have e1:valL (preC p a.2 1)=valL (preC p a.2 0) ++ [[.int .i64 m.kind,.int .i64 m.many,.str m.name,.str m.s,.bool m.neg,.int .i64 m.e]]:=by rw [e,Jx8]
     have e2:(preC p a.2 1).length=(preC p a.2 0).length+1:=by rw [e];simp
     generalize preC p a.2 0=q0 at *
     (refine N9 _ _ _ _ ?_;simp only [go_sem,simprocAttr]);(repeat' (first | (refine And.intro (by first | (simp;done)|(simp;omega)) ?_)|(refine Jqd ?_)|((refine Jqa (hB1) ?_);simp only [go_sem,simprocAttr,w10,hl2j]) | fail));exact ⟨1,by omega,by omega,by rw [e1,e2];exact Jqb⟩
   ·cases hb:Jr2 a.2 false with
    | none =>
     rw [hb] at hB2;simp only [besL] at hB2;have e:preC p a.2 2=preC p a.2 1:=by simp [preC,hb]
     generalize preC p a.2 1=q0 at *
     (refine N9 _ _ _ _ ?_;simp only [go_sem,simprocAttr]);(repeat' (first | ((refine Jqa (hB2) ?_);simp only [go_sem,simprocAttr]) | fail));exact ⟨2,by omega,by omega,by rw [e];exact Jqb⟩
    | some m =>
     rw [hb] at hB2;simp only [besL] at hB2;have e:preC p a.2 2=preC p a.2 1 ++ [m]:=by simp [preC,hb]
     have e1:valL (preC p a.2 2)=valL (preC p a.2 1) ++ [[.int .i64 m.kind,.int .i64 m.many,.str m.name,.str m.s,.bool m.neg,.int .i64 m.e]]:=by rw [e,Jx8]
     have e2:(preC p a.2 2).length=(preC p a.2 1).length+1:=by rw [e];simp
     generalize preC p a.2 1=q0 at *
     (refine N9 _ _ _ _ ?_;simp only [go_sem,simprocAttr]);(repeat' (first | (refine And.intro (by first | (simp;done)|(simp;omega)) ?_)|(refine Jqd ?_)|((refine Jqa (hB2) ?_);simp only [go_sem,simprocAttr,hl2j]) | fail));exact ⟨2,by omega,by omega,by rw [e1,e2];exact Jqb⟩
   ·(refine N9 _ _ _ _ ?_;simp only [go_sem,simprocAttr,w1,w1]);refine ⟨i+1,by omega,by omega,?_⟩;rw [htk];refine (B1 [(51,18)] _ sm).trans ?_;simp only [go_sem,simprocAttr];exact Jqb
  ·have c2:=eq_false hk;rw [show numC a=[] from if_neg hk,List.append_nil] at htk;(refine N9 _ _ _ _ ?_;simp only [go_sem,simprocAttr,c1,c2,hg,w1]);exact ⟨i+1,by omega,by omega,by rw [htk];exact Jqb⟩
 ·obtain rfl:i=al.length:=by omega
  have c1:((al.length:Int)<(al.length:Int))=False:=eq_false omg;rw [List.take_length] at *
  (refine N9 _ _ _ _ ?_;simp only [go_sem,simprocAttr,Jqm,c1,hpl]);(repeat' (first | (refine And.intro (by first | (simp;done)|(simp;omega)) ?_)|(refine Jqd ?_) | fail));have hb0:valL (Js1 al 0)=valL (Jtl al) ++ [[.int .i64 4,.int .i64 0,.str [],.str [],.bool false,.int .i64 0]]:=by simp [Js1,valL,Jv2,Node.cells]
  have hbn0:(Js1 al 0).length=(Jtl al).length+1:=by simp [Js1]
  refine JWP.loop (fun k:Nat=>(some 0,⟨Ba 90 [(0,.yld l),(1,.eptr [.sl (Jq9 al)]),(3,.own 57 0 (Js1 al k).length),(58,.p (.sl (Jq9 al))),(59,.p (.int .i64 al.length)),(60,.p (.int .i64 k))],[(57,.row 35 6 (valL (Js1 al k)))]⟩)) (fun k=>k≤al.length) (fun k=>al.length - k) 0 rfl (by dsimp only;rw [hb0,hbn0];exact Jqb) (Nat.zero_le _) ?_;intro k hk;have hclb:=J25 al k;have hplb:(valL (Js1 al k)).length=(Js1 al k).length:=A7 _;by_cases hlt:k<al.length
  ·have c1:((k:Int)<(al.length:Int))=True:=eq_true omg;obtain ⟨a,hq⟩:∃ a,al[k]? = some a:=⟨_,List.getElem?_eq_getElem hlt⟩
   have hg:=Jt9 hq;have htk:=J73 hq;have hsl:=(ha a (List.mem_of_getElem? hq)).2;have w1:=wj1 (i:=k) omg;by_cases hk4:a.2.kind=4
   ·have c2:=eq_true hk4;rw [show strC a=[a.2,⟨4,0,[],a.2.s ++ [0],false,0⟩] from if_pos hk4] at htk;have e1:valL (Js1 al k ++ [a.2,⟨4,0,[],a.2.s ++ [0],false,0⟩])=valL (Js1 al k) ++ [[.int .i64 a.2.kind,.int .i64 a.2.many,.str a.2.name,.str a.2.s,.bool a.2.neg,.int .i64 a.2.e],[.int .i64 4,.int .i64 0,.str [],.str (a.2.s ++ [0]),.bool false,.int .i64 0]]:=by simp [valL,Node.cells]
    have e2:(Js1 al k ++ [a.2,⟨4,0,[],a.2.s ++ [0],false,0⟩]).length=(Js1 al k).length+2:=by simp
    (refine N9 _ _ _ _ ?_;simp only [go_sem,simprocAttr,c1,c1,c2,hg,hplb,w1]);(repeat' (first | (refine And.intro (by first | (simp;done)|(simp;omega)) ?_)|(refine Jqd ?_) | fail));refine ⟨k+1,by omega,by omega,?_⟩;rw [htk];refine (B1 [(77,57)] _ sm).trans ?_;simp only [go_sem,simprocAttr];rw [e1,e2];exact Jqb
   ·have c2:=eq_false hk4;rw [show strC a=[] from if_neg hk4,List.append_nil] at htk;(refine N9 _ _ _ _ ?_;simp only [go_sem,simprocAttr,c1,c1,c2,hg,w1]);exact ⟨k+1,by omega,by omega,by rw [htk];exact Jqb⟩
  ·obtain rfl:k=al.length:=by omega
   have c1:((al.length:Int)<(al.length:Int))=False:=eq_false omg;have hR:Js1 al al.length=Js8 al:=by unfold Js1 Js8;rw [List.take_length]
   rw [hR] at hclb hplb ⊢;generalize Js8 al=c at *
   have hle0:(c.length≤c.length)=True:=eq_true (Nat.le_refl _);have htk:List.take c.length (valL c)=valL c:=List.take_of_length_le omg;(refine N9 _ _ _ _ ?_;simp only [go_sem,simprocAttr,c1,c1]);refine JWP.loop (fun k:Nat=>(some k,⟨Ba 90 [(0,.yld l),(79,.p (.sl (valL c))),(80,.p (.int .i64 c.length)),(81,.p (.int .i64 k))],[]⟩)) (fun k=>k≤c.length) (fun k=>c.length - k) 0 rfl ?_ (Nat.zero_le _) ?_
   ·refine (J2m _ (d:=57)).trans ?_;simp only [go_sem,simprocAttr,hplb,hle0,htk];exact Jqb
   intro k hk;by_cases hlt:k<c.length
   ·have c2:((k:Int)<(c.length:Int))=True:=eq_true omg;obtain ⟨n,hq⟩:∃ n,c[k]? = some n:=⟨_,List.getElem?_eq_getElem hlt⟩
    have hg:=U5 hq;have hgc:=Kbo hq;have w1:=wj1 (i:=k) omg;(refine N9 _ _ _ _ ?_;simp only [go_sem,simprocAttr,c2,hg,w1,hgc]);exact ⟨⟨k+1,by omega,by omega,rfl,Jqb⟩,.inr trivial⟩
   ·obtain rfl:k=c.length:=by omega
    have c2:((c.length:Int)<(c.length:Int))=False:=eq_false omg;(refine N9 _ _ _ _ ?_;simp only [go_sem,simprocAttr,c2]);rw [J3a];exact .inl rfl
attribute [go_sem] Tryz.ntmps85 Tryz.results85
theorem Kbv {n:Node} (h:Jqr n):0≤n.kind:=by
 have h3:=h.2.2;unfold G3 at h3
 repeat' split at h3
 all_goals first | omega | exact h3.elim
theorem Kcd (m:Nat) (al:List (Int×Node)) (hmk:m≤31) (hl:al.length≤100000) (ha:∀ a∈al,Jrf a.1 a.2∧a.2.s.length≤500):Det cx 85 [.p (.int .i64 m),.p (.sl (Jq9 al))] [] (besL ((Js8 al).find? (Jso m al))) []:=by
 have hi:=Kc0 al hl (fun a h=>⟨(ha a h).1.2.2,by have:=(ha a h).2;omega⟩);have hE:=Kdj al;have hfit:∀ n∈Js8 al,CandFit n:=fun n hn=>Kca (fun a h=>⟨Kbr (ha a h).1.2.2 (ha a h).2,(ha a h).2⟩) hn
 have hpl:∀ n∈Js8 al,Jqr n:=fun n hn=>J8l (fun a h=>(ha a h).1.2.2) hn
 have hlen:=Kai al;generalize Js8 al=c at *
 obtain ⟨o,ho⟩:∃ o,o=c.find? (Jso m al):=⟨_,rfl⟩
 rw [← ho];(refine bgo Tryz.func85 ?_;simp only [go_sem,simprocAttr]);(repeat' (first | ((refine Jqa (hE) ?_);simp only [go_sem,simprocAttr]) | fail));refine Jqn (show St.Le _ ⟨Ba 16 [(2,.ptr 2 0 0),(3,.ptr 3 0 0),(4,.ptr 4 0 0),(5,.ptr 5 0 0),(8,.fn 139 [8])],[(8,.var 46 [.p (.sl (Jq9 al))]),(5,.var 4 [.p (.bool false)]),(4,.var 35 [.p (.int .i64 0),.p (.int .i64 0),.p (.str []),.p (.str []),.p (.bool false),.p (.int .i64 0)]),(3,.var 46 [.p (.sl (Jq9 al))]),(2,.var 3 [.p (.int .i64 m)])]⟩ from Jqb) ?_;(refine SWP.range (J0f c) 16 [] sm _ _ _ _ _ (fun i R=>R=[(1000,.var 4 [.p (.bool false)]),(1001,.var 35 [.p (.int .i64 0),.p (.int .i64 0),.p (.str []),.p (.str []),.p (.bool false),.p (.int .i64 0)]),(1002,.var 46 [.p (.sl (Jq9 al))]),(1003,.var 3 [.p (.int .i64 m)])]∧o=(c.drop i).find? (Jso m al)) (fun y R=>y=.ret∧∃ n,o=some n∧R=[(1000,.var 4 [.p (.bool true)]),(1001,.var 35 [.p (.int .i64 n.kind),.p (.int .i64 n.many),.p (.str n.name),.p (.str n.s),.p (.bool n.neg),.p (.int .i64 n.e)])]) (by rfl) (by rfl) (by rfl) (hi) (by simp only [go_sem,simprocAttr] <;> rfl) (by first | rfl | simp [Cg]) sm ?hps (by simp only [go_sem,simprocAttr] <;> rfl) (by simp only [go_sem,simprocAttr] <;> rfl) (by simp only [go_sem,simprocAttr] <;> rfl) ?h0 ?hkI ?hkS ?hSn ?round ?done ?stop)
 case hps=>intro x hx;obtain ⟨n,_,rfl⟩:=List.mem_map.1 hx;rfl
 case h0=>exact ⟨rfl,ho⟩
 case hkI=>rintro k R ⟨rfl,_⟩;simp [Hg,findKey]
 case hkS=>rintro y R ⟨_,n,_,rfl⟩;simp [Hg,findKey]
 case hSn=>rintro R ⟨h,_⟩;cases h
 case stop =>
  rintro y R ⟨rfl,n,hn,rfl⟩;rw [hn];simp only [go_sem,simprocAttr];refine ⟨_,St.Le.refl _,?_⟩;simp only [go_sem,simprocAttr];rfl
 case done =>
  rintro R ⟨rfl,hno⟩;rw [J3a,List.drop_length] at hno;rw [show o=none from hno];simp only [go_sem,simprocAttr];refine ⟨_,St.Le.refl _,?_⟩;simp only [go_sem,simprocAttr];rfl
 case round =>
  rintro i y R l hx ⟨rfl,hno⟩;obtain ⟨n,hq,rfl⟩:∃ n,c[i]? = some n∧y=[.agg [.int .i64 n.kind,.int .i64 n.many,.str n.name,.str n.s,.bool n.neg,.int .i64 n.e]]:=by
   unfold J0f at hx;rw [List.getElem?_map] at hx;obtain ⟨n,h1,h2⟩:=Option.map_eq_some_iff.1 hx;exact ⟨n,h1,h2.symm⟩
  have hn:=hfit n (List.mem_of_getElem? hq);have hp:=hpl n (List.mem_of_getElem? hq);have hM:=Kc9 m al n omg omg omg (fun a h=>(ha a h).1) (fun _=>hp) (by have:=hn.s;omega) (Kbv hp);rw [Ka6 hq] at hno;cases hb:Jso m al n with
  | true =>
   rw [hb] at hM hno;simp only [go_sem,simprocAttr];(refine lws ?_;simp only [go_sem,simprocAttr]);(repeat' (first | ((refine Jqa (hM) ?_);simp only [go_sem,simprocAttr]) | fail));refine ⟨_,⟨n,?_,rfl⟩,(Jqj (by simp only [Ar]) (by simp (disch:=omega) [Az,A3,Aw,Am,Af,Ai,Au,Aa]) (by simp [Ay]))⟩;rw [hno,if_pos rfl]
  | false =>
   rw [hb] at hM hno;simp only [go_sem,simprocAttr];(refine lws ?_;simp only [go_sem,simprocAttr]);(repeat' (first | ((refine Jqa (hM) ?_);simp only [go_sem,simprocAttr]) | fail));refine ⟨_,⟨rfl,?_⟩,(Jqj (by simp only [Ar]) (by simp (disch:=omega) [Az,A3,Aw,Am,Af,Ai,Au,Aa]) (by simp [Ay]))⟩;rw [hno,if_neg sm]
end Go.LX
namespace Go.LX
open Go
def Jrw (v:List YRow) (i j:Nat):Prop:=∃ nm t rest,v.drop i=RT.enc nm t ++ rest∧okR t∧j=i+(RT.enc nm t).length
theorem J48 {v:List YRow} {i j k:Nat} (h:Jrw v i j) (h':Jrw v i k):j=k:=by
 obtain ⟨nm,t,r,h1,_,h2⟩:=h;obtain ⟨nm',t',r',h1',_,h2'⟩:=h';rw [h1] at h1';obtain ⟨rfl,rfl,_⟩:=J3y h1';rw [h2,h2']
open Classical in
noncomputable def J0t (v:List YRow) (i:Nat):Option Nat:=if h:∃ j,Jrw v i j then some h.choose else none
theorem J5d {v:List YRow} {i j:Nat} (h:Jrw v i j):J0t v i=some j:=by
 have hx:∃ j,Jrw v i j:=⟨j,h⟩
 unfold J0t;rw [dif_pos hx,J48 hx.choose_spec h]
theorem J5t {v:List YRow} {i:Nat} (h:∀ j,¬ Jrw v i j):J0t v i=none:=by
 unfold J0t;rw [dif_neg];rintro ⟨j,hj⟩;exact h j hj
theorem Jvo {v:List YRow} {i j:Nat} (h:Jrw v i j):∃ y,v[i]? = some y∧Jqv y.kind y.s y.n y.c y.many∧y.many≤v.length:=by
 obtain ⟨nm,⟨k,s,n,c,K⟩,r,h1,h2,_⟩:=h;rw [Jqh,List.cons_append] at h1;refine ⟨⟨k,K.len,nm,s,n,c⟩,?_,(Jr5.1 h2).1,?_⟩
 ·have:=congrArg (·[0]?) h1;simpa using this
 ·have h3:=congrArg List.length h1;have h4:=Jqs K;simp at h3;simp only;omega
theorem Jyw {v:List YRow} {i j q:Nat} {y:YRow} {A:RF} (h:Jrw v i j) (hy:v[i]? = some y) (hA:v.drop (i+1)=A.enc ++ v.drop q) (hq:q=i+1+A.enc.length) (hl:(A.len:Int)<y.many) :
  ∃ (nm:List UInt8) (t:RT) (B:RF),v.drop q=RT.enc nm t ++ (B.enc ++ v.drop j)∧okR t∧Jrq y.kind (A.list ++ (nm,t) :: B.list):=by
 obtain ⟨nm,⟨k,s,n,c,K⟩,r,h1,h2,h3⟩:=h;rw [Jqh,List.cons_append] at h1;have e0:y=⟨k,K.len,nm,s,n,c⟩:=by
  have:=congrArg (·[0]?) h1;simp only [List.getElem?_drop,Nat.add_zero,List.getElem?_cons_zero,hy] at this;exact Option.some.inj this
 subst e0;simp only at hl ⊢;have h4:v.drop (i+1)=K.enc ++ r:=by
  rw [← List.drop_drop,h1];rfl
 obtain ⟨A',B,rfl,hA'⟩:=Jyc A.len K omg;rw [Jqk,List.append_assoc] at h4;rw [h4] at hA;obtain ⟨rfl,hB⟩:=Jyb hA hA';rw [Jry] at hl
 match B,hB,hl,h2,h3 with
 | .nil,hB,hl,h2,h3=>simp [RF.len] at hl
 | .cons nm' t B,hB,hl,h2,h3 =>
  obtain ⟨_,g2,_,g3⟩:=Jr5.1 h2;have g4:=(Jrv.1 (Jwb.1 g3).2).1;have hj:v.drop j=r:=by
   rw [h3,Jqh,List.length_cons,← Nat.add_assoc,Nat.add_right_comm,← List.drop_drop,h4,Jqk,List.length_append,← List.append_assoc,List.drop_left' (by rw [List.length_append])]
  refine ⟨nm',t,B,?_,g4,?_⟩
  ·rw [← hB,Jqe,List.append_assoc,hj]
  ·rw [Juo] at g2;exact g2
theorem J6l {v:List YRow} {i j q:Nat} {y:YRow} {A:RF} (h:Jrw v i j) (hy:v[i]? = some y) (hA:v.drop (i+1)=A.enc ++ v.drop q) (hq:q=i+1+A.enc.length) (hl:(A.len:Int)=y.many) :
  Jt1 y.kind y.s A.list:=by
 obtain ⟨nm,⟨k,s,n,c,K⟩,r,h1,h2,h3⟩:=h;rw [Jqh,List.cons_append] at h1;have e0:y=⟨k,K.len,nm,s,n,c⟩:=by
  have:=congrArg (·[0]?) h1;simp only [List.getElem?_drop,Nat.add_zero,List.getElem?_cons_zero,hy] at this;exact Option.some.inj this
 subst e0;simp only at hl ⊢;have h4:v.drop (i+1)=K.enc ++ r:=by
  rw [← List.drop_drop,h1];rfl
 rw [h4] at hA;obtain ⟨rfl,_⟩:=Jyb hA omg;exact (Jr5.1 h2).2.2.1
theorem J0d {v:List YRow} {i q:Nat} {y:YRow} {A:RF} (hy:v[i]? = some y) (h1:Jqv y.kind y.s y.n y.c y.many) (hA:v.drop (i+1)=A.enc ++ v.drop q) (hq:q=i+1+A.enc.length) (hl:(A.len:Int)=y.many) (hk:Jrq y.kind A.list) (hL:Jt1 y.kind y.s A.list) (ho:okRF A):Jrw v i q:=by
 obtain ⟨k,m,nm,s,n,c⟩:=y;simp only at h1 hl hk hL;subst hl;obtain ⟨hi,hv⟩:=List.getElem?_eq_some_iff.1 hy;refine ⟨nm,.mk k s n c A,v.drop q,?_,Jr5.2 ⟨h1,hk,hL,ho⟩,?_⟩
 ·rw [List.drop_eq_getElem_cons hi,hv,hA,Jqh,List.cons_append]
 ·rw [Jqh,List.length_cons];omega
def tnx (k:Int) (l:List RKT) (nm:List UInt8) (kd:Int):Prop:=(kd=9 ↔ k=1)∧(k≠2→nm=[])∧(k=2→valid nm=true)∧(k=2→∀ p,l.getLast? = some p→Op.bytesLess p.1 nm=true)
theorem J8d {l:List RKT} {p:RKT} (h:J5k l) (hl:∀ q,l.getLast? = some q→Op.bytesLess q.1 p.1=true):J5k (l ++ [p]):=by
 unfold J5k at h ⊢;rw [List.pairwise_append];refine ⟨h,by simp,fun a ha b hb=>?_⟩;simp only [List.mem_singleton] at hb;subst hb;rcases List.eq_nil_or_concat l with rfl | ⟨l',q,rfl⟩
 ·cases ha
 ·rw [List.concat_eq_append] at *
  have hq:=hl q sm;rcases List.mem_append.1 ha with ha | ha
  ·exact H8 ((List.pairwise_append.1 h).2.2 a ha q sm) hq
  ·simp only [List.mem_singleton] at ha;subst ha;exact hq
theorem J86 {k:Int} {l:List RKT} {p:RKT} (h:Jrq k l) (hp:tnx k l p.1 p.2.kind):Jrq k (l ++ [p]):=by
 obtain ⟨h1,h2⟩:=h;obtain ⟨g1,g2,g3,g4⟩:=hp;refine ⟨fun x hx=>?_,fun hk=>J8d (h2 hk) (g4 hk)⟩;rcases List.mem_append.1 hx with hx | hx
 ·exact h1 x hx
 ·rw [List.mem_singleton.1 hx];exact ⟨g1,g2,g3⟩
theorem J7e {k:Int} {l r:List RKT} {p:RKT} (h:Jrq k (l ++ p :: r)):tnx k l p.1 p.2.kind:=by
 obtain ⟨h1,h2⟩:=h;obtain ⟨g1,g2,g3⟩:=h1 p sm;refine ⟨g1,g2,g3,fun hk q hq=>?_⟩;exact (List.pairwise_append.1 (h2 hk)).2.2 q (List.mem_of_getLast? hq) p sm
theorem Jys {v:List YRow} {q:Nat} {x:YRow} {nm:List UInt8} {t:RT} {r:List YRow} (h1:v.drop q=RT.enc nm t ++ r) (hx:v[q]? = some x):x.name=nm∧x.kind=t.kind:=by
 obtain ⟨k,s,n,c,K⟩:=t;rw [Jqh,List.cons_append] at h1;have:=congrArg (·[0]?) h1;simp only [List.getElem?_drop,Nat.add_zero,List.getElem?_cons_zero,hx] at this;cases Option.some.inj this;exact ⟨rfl,rfl⟩
theorem Jtk {v:List YRow} {i j q:Nat} {y x:YRow} {A:RF} (h:Jrw v i j) (hy:v[i]? = some y) (hx:v[q]? = some x) (hA:v.drop (i+1)=A.enc ++ v.drop q) (hq:q=i+1+A.enc.length) (hl:(A.len:Int)<y.many) :
  tnx y.kind A.list x.name x.kind∧∃ j',Jrw v q j':=by
 obtain ⟨nm,t,B,h1,h2,h3⟩:=Jyw h hy hA hq hl;have e:=Jys h1 hx;rw [e.1,e.2];exact ⟨J7e h3,_,nm,t,_,h1,h2,rfl⟩
theorem Jw2 {v:List YRow} {i j q:Nat} {y:YRow} {A:RF} (h:Jrw v i j) (hy:v[i]? = some y) (hA:v.drop (i+1)=A.enc ++ v.drop q) (hq:q=i+1+A.enc.length) (hl:(A.len:Int)<y.many):q<v.length:=by
 obtain ⟨nm,t,B,h1,h2,h3⟩:=Jyw h hy hA hq hl;have:=congrArg List.length h1;have hp:=Jrs t nm;rw [List.length_append,List.length_drop] at this;omega
theorem Jw8 {v:List YRow} {i j:Nat} (h:Jrw v i j):j≤v.length∧i<j:=by
 obtain ⟨nm,t,r,h1,h2,h3⟩:=h;have:=congrArg List.length h1;have hp:=Jrs t nm;rw [List.length_append,List.length_drop] at this;omega
theorem Jv7 {v:List YRow} {i q j:Nat} {y x:YRow} {A:RF} (hx:v[q]? = some x) (hA:v.drop (i+1)=A.enc ++ v.drop q) (hq:q=i+1+A.enc.length) (hk:Jrq y.kind A.list) (ho:okRF A) (hn:tnx y.kind A.list x.name x.kind) (hj:Jrw v q j) :
  ∃ B:RF,B.len=A.len+1∧v.drop (i+1)=B.enc ++ v.drop j∧j=i+1+B.enc.length∧q<j∧Jrq y.kind B.list∧okRF B∧∃ t,B.list=A.list ++ [(x.name,t)]:=by
 obtain ⟨nm,t,r,h1,h2,h3⟩:=hj;have e:=Jys h1 hx;have hp:=Jrs t nm;have hr:v.drop j=r:=by rw [h3,← List.drop_drop,h1,List.drop_left]
 refine ⟨A.app (.cons nm t .nil),?_,?_,?_,by omega,?_,?_,t,?_⟩
 ·rw [Jry];rfl
 ·rw [Jqk,Jqe,Jq5,List.append_nil,List.append_assoc,hr,← h1];exact hA
 ·rw [Jqk,Jqe,Jq5,List.append_nil,List.length_append];omega
 ·rw [Juo];refine J86 hk ?_;rw [e.1,e.2] at hn;exact hn
 ·rw [Jwb,Jrv];exact ⟨ho,h2,Jsj⟩
 ·rw [Juo,e.1];rfl
theorem J7p {k:Int} {s:List UInt8} {n:Int} {c:Node} {m:Int} (h:Jqv k s n c m):0≤m:=by
 unfold Jqv at h
 repeat' split at h
 all_goals first
  | exact h.elim
  | (have h1:=h.1;omega)
noncomputable def Jwp (v:List YRow) (i:Nat):L:=match J0t v i with
 | some j=>.tup [.int .i64 j,.bool true]
 | none=>.tup [.int .i64 0,.bool false]
theorem Jsx {v:List YRow} {i j:Nat} (h:Jrw v i j):Jwp v i=.tup [.int .i64 j,.bool true]:=by unfold Jwp;rw [J5d h]
theorem Jq2 {v:List YRow} {i:Nat} (h:∀ j,¬ Jrw v i j):Jwp v i=.tup [.int .i64 0,.bool false]:=by unfold Jwp;rw [J5t h]
end Go.LX
