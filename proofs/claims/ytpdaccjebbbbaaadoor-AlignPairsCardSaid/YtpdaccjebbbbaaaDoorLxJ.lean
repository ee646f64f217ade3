/- Contracts in use; small facts that the steps meet. -/
import Derived.Test.YtpdaccjebbbbaaaDoorLxI
import Derived.RangeFuncLeaves
import Derived.RangeFuncRecord
set_option linter.unusedSimpArgs false
set_option linter.unusedVariables false
set_option linter.unusedSectionVars false
set_option linter.unnecessarySimpa false
namespace Go.LX
open Go Go.RowKit Go.Proofs
def Det (X:Cx) (f:FuncId) (args:List L) (rs:Regs) (l:L) (rs':Regs):Prop:=Al X f args rs fun m q=>m=l∧q=rs'
theorem Jqa {X:Cx} {f:FuncId} {args:List L} {rs:Regs} {l:L} {rs':Regs} {Post:L→Regs→Prop} (h:Det X f args rs l rs') (hp:Post l rs'):Al X f args rs Post :=
 h.mono fun m q ⟨h1,h2⟩=>by subst h1;subst h2;exact hp
theorem Jqh {X:Cx} {f:FuncId} {args:List L} {l:L} {C:L→Prop} (h:Det X f args [] l []) (hp:C l) (hr:l.retOK=true:=by rfl):Bi X f args C:=⟨l,⟨h.mono fun _ _ h=>h.1,hr⟩,hp⟩
theorem J53 {X:Cx} {g:FuncId} {args:List L} {l:L} {s:St} {dst:Option Tmp} {K:St→Prop} (h:Ad X g args s.regs l) (hK:K (s.put dst l)):Jkt X g args s dst K:=⟨l,h,hK⟩
theorem Jwa {X:Cx} {g:FuncId} {args:List L} {l:L} {s:St} {dst:Option Tmp} {K:St→Prop} (h:Ag X g args l) (hK:K (s.put dst l)):lext X g args s dst K:=⟨l,h,hK⟩
theorem Jwq {X:Cx} {f:FuncId} {args args':List L} {rs:Regs} {Post:L→Regs→Prop} (hle:Aw args args') (h:Al X f args' rs Post):Al X f args rs Post:=by
 refine ⟨h.1,fun β Im w vs hg hf=>h.2 β Im w vs hg ?_⟩;obtain ⟨h1,h2⟩:=Fp hle;exact { hf with size:=by rw [hf.size];exact h1,tmps:=fun i l hl=>by obtain ⟨l0,hl0,hle⟩:=h2 i l hl;exact hle.rep (hf.tmps i l0 hl0) }
theorem Aa {n:Int} (h1:-9223372036854775808≤n) (h2:n≤9223372036854775807):IntKind.i64.wrap n=n:=by
 have e:IntKind.i64.wrap n=if n % 18446744073709551616 ≥ 9223372036854775808 then n % 18446744073709551616 - 18446744073709551616 else n % 18446744073709551616:=by
  simp [IntKind.wrap,IntKind.signed,IntKind.bits]
 rw [e];split <;> omega
theorem Qs {n:Int} (h1:-2147483648≤n) (h2:n≤2147483647):IntKind.i32.wrap n=n:=by
 have e:IntKind.i32.wrap n=if n % 4294967296 ≥ 2147483648 then n % 4294967296 - 4294967296 else n % 4294967296:=by
  simp [IntKind.wrap,IntKind.signed,IntKind.bits]
 rw [e];split <;> omega
theorem Be (n:Int):IntKind.u8.wrap n=n % 256:=by simp [IntKind.wrap,IntKind.signed,IntKind.bits]
theorem Ec (n:Int):IntKind.u32.wrap n=n % 4294967296:=by simp [IntKind.wrap,IntKind.signed,IntKind.bits]
theorem Ub (n:Int):IntKind.u64.wrap n=n % 18446744073709551616:=by simp [IntKind.wrap,IntKind.signed,IntKind.bits]
theorem Ab {n:Int} (h1:0≤n) (h2:n≤255):IntKind.u8.wrap n=n:=by rw [Be];omega
theorem Jlh {n:Int} (h1:0≤n) (h2:n≤4294967295):IntKind.u32.wrap n=n:=by rw [Ec];omega
theorem Mf {n:Int} (h1:0≤n) (h2:n≤18446744073709551615):IntKind.u64.wrap n=n:=by rw [Ub];omega
def Rb (K:PV→Prop) (m:L):Prop :=
 match m with
 | .p x=>K x
 | _=>False
def H4 (P:Program) (s:St):List ResultVar→(List PV→Prop)→Prop
 | [],K=>K []
 | .tmp t :: l,K=>Rb (fun x=>H4 P s l fun xs=>K (x :: xs)) (s.tmps.getD t .junk)
 | .cell t T :: l,K=>Jc P s.regs T (s.tmps.getD t .junk) (Rb fun x=>H4 P s l fun xs=>K (x :: xs))
def Gm:List ResultVar→List Operand
 | []=>[]
 | .tmp t :: l=>.tmp t :: Gm l
 | .cell _ _ :: l=>Gm l
def Sg:List PV→L
 | [x]=>.p x
 | xs=>.tup xs
def Cu:List Nat→Regs→Regs
 | [],_=>[]
 | d :: ds,rs=>match Am d rs with
  | some r=>(d,r) :: Cu ds rs
  | none=>Cu ds rs
def kres (keys:List Nat) (Post:L→Regs→Prop) (rs:Regs) (xs:List PV):Prop:=Post (Sg xs) (Cu (900 :: keys) rs)
def Jdn (keys:List Nat) (Post:L→Regs→Prop) (rs:Regs) (l:L):Prop:=Post l (Cu (900 :: keys) rs)
def lretF (P:Program) (rvs:List ResultVar) (keys:List Nat) (Post:L→Regs→Prop) (s:St):Prop :=
 H4 P (s.freezeOps (Gm rvs)) rvs (kres keys Post (s.freezeOps (Gm rvs)).regs)
def Jdm (P:Program) (rvs:List ResultVar) (keys:List Nat) (Post:L→Regs→Prop) (s:St):Prop :=
 match rvs with
 | [.tmp t]=>Jdn keys Post s.regs (s.tmps.getD t .junk)
 | [.cell t T]=>Jc P s.regs T (s.tmps.getD t .junk) (Jdn keys Post s.regs)
 | _=>False
def Yo (d n:Nat) (s:St):St :=
 match findKey d s.regs with
 | true=>s.ren d n
 | false=>s
def Du:List (Nat×Nat)→St→St
 | [],s=>s
 | (d,n) :: l,s=>Du l (Yo d n s)
def O7 (P:Program) (own:Bool) (rvs:List ResultVar) (keys:List Nat) (Post:L→Regs→Prop) (s:St):Prop :=
 match own with
 | false=>lretF P rvs keys Post s
 | true=>Jdm P rvs keys Post s
def Jed (P:Program) (own:Bool) (rn:List (Nat×Nat)) (rvs:List ResultVar) (keys:List Nat) (Post:L→Regs→Prop):Ex→St→Prop
 | .normal,s=>O7 P own rvs keys Post (Du rn s)
 | .ret,s=>O7 P own rvs keys Post (Du rn s)
 | .exit _,_=>False
theorem Cf {d:Nat} {r:Reg}:∀ {ds:List Nat} {rs:Regs},(d,r)∈Cu ds rs→d∈ds∧(d,r)∈rs
 | [],_,h=>by cases h
 | e :: ds,rs,h=>by
  simp only [Cu] at h;split at h
  ·rename_i q hq;rcases List.mem_cons.1 h with h | h
   ·cases h;exact ⟨List.mem_cons_self,Ax hq⟩
   ·exact ⟨List.mem_cons_of_mem _ (Cf h).1,(Cf h).2⟩
  ·exact ⟨List.mem_cons_of_mem _ (Cf h).1,(Cf h).2⟩
theorem He:∀ (ds:List Nat) (rs:Regs),((Cu ds rs).map (·.1)).Sublist ds
 | [],_=>.slnil
 | e :: ds,rs=>by
  simp only [Cu];split
  ·exact (He ds rs).cons_cons e
  ·exact (He ds rs).cons e
theorem B1:∀ (l:List (Nat×Nat)) (s:St),(∀ x∈l,x.2<1000∨500000≤x.2)→s.Le (Du l s)
 | [],s,_=>St.Le.refl s
 | (d,n) :: l,s,h=>by
  simp only [Du];refine St.Le.trans ?_ (B1 l _ fun x hx=>h x (List.mem_cons_of_mem _ hx));unfold Yo;split
  ·exact J2e s (h _ List.mem_cons_self)
  ·exact St.Le.refl s
theorem Pb {P:Program} {t:TypeId} {u v:Value} {w:World} (h:(Instr.loadAt t u).run P w=.ok v w):(do loadVar t (← asAddr u):Sem Value).run P w=.ok v w:=by
 unfold Instr.loadAt Instr.sureAddr at h;cases u <;> simp_all [asAddr];rename_i a;cases a <;> simp_all
theorem Ic {P:Program} {β:Env} {w:World} {Im:Nat→Prop} {s:St} {a:Act} (hf:Fit β w Im s a.tmps) (g:ResultVar→Sem Value) (hg1:∀ t,g (.tmp t)=pure (a.tmps.getD t undef)) (hg2:∀ t T,g (.cell t T)=do loadVar T (← asAddr (a.tmps.getD t undef))) :
  ∀ (rvs:List ResultVar) (K:List PV→Prop),H4 P s rvs K→∃ vs xs,(rvs.mapM g).run P w=.ok vs w∧K xs∧vs.length=xs.length∧∀ (i:Nat) (v:Value) (x:PV),vs[i]? = some v→xs[i]? = some x→PRep w Im v x
 | [],K,h=>⟨[],[],by simp,h,rfl,fun i v x hv=>by simp at hv⟩
 | .tmp t :: l,K,h=>by
  simp only [H4] at h;unfold Rb at h;split at h
  ·rename_i x hx;obtain ⟨vs,xs,h1,h2,h3,h4⟩:=Ic hf g hg1 hg2 l _ h;refine ⟨a.tmps.getD t undef :: vs,x :: xs,?_,h2,by simp [h3],fun i v y hv hy=>?_⟩
   ·simp only [List.mapM_cons,hg1,Sem.run_bind,Sem.run_pure,Result.andThen_ok,h1]
   ·cases i with
    | zero =>
     simp at hv hy;subst hv;subst hy;have:=A2 hf (.tmp t);simp only [St.get,hx] at this;simpa [LRep,Act.eval,Array.getD_eq_getD_getElem?] using this
    | succ i=>simp at hv hy;exact h4 i v y hv hy
  ·exact h.elim
 | .cell t T :: l,K,h=>by
  simp only [H4] at h;have hr:=A2 hf (.tmp t);obtain ⟨v,m,hv,hm,hK⟩:=Jk hf hr h;unfold Rb at hK;split at hK
  ·rename_i x;obtain ⟨vs,xs,h1,h2,h3,h4⟩:=Ic hf g hg1 hg2 l _ hK;refine ⟨v :: vs,x :: xs,?_,h2,by simp [h3],fun i u y hu hy=>?_⟩
   ·have:=Pb hv;have e:a.eval (.tmp t)=a.tmps.getD t undef:=rfl;rw [e] at this;rw [List.mapM_cons];simp only [Sem.run_bind,hg2] at this ⊢;rw [this];simp only [Result.andThen_ok,h1,Sem.run_pure]
   ·cases i with
    | zero=>simp at hu hy;subst hu;subst hy;exact hm
    | succ i=>simp at hu hy;exact h4 i u y hu hy
  ·exact hK.elim
def Qd (tmps:Array Value):ResultVar→Sem Value
 | .tmp t=>pure (tmps.getD t undef)
 | .cell b T=>do loadVar T (← asAddr (tmps.getD b undef))
theorem G9 {P:Program} {fn:Func} {tmps:Array Value} {w:World} {vs:List Value} (h:(fn.results.toList.mapM (Qd tmps)).run P w=.ok vs w) :
  (results fn tmps).run P w=.ok (if h:vs.length=1 then vs[0] else .tuple ⟨vs⟩) w:=by
 have e:results fn tmps=(do
   let vs ← fn.results.mapM (Qd tmps)
   pure (if h:vs.size=1 then vs[0] else .tuple vs)):=by
  unfold results;congr 1
 rw [e,Array.mapM_eq_mapM_toList];simp only [Sem.run_bind,Sem.run_map,h,Result.andThen_ok,Sem.run_pure];rfl
theorem RRx.shut {Γ:Base} {β:Env} {Im:Nat→Prop} {s:St} {tmps:Array Value} {w:World} {D:Nat} {ms:List Nat} (h:RRx (Γ.wm (D :: ms)) β Im s tmps w):RRx (Γ.wm ms) β Im s tmps (w.putObj D (.deferred none)):=by
 obtain ⟨m1,m2,m3,m4⟩:=h.marks D List.mem_cons_self;have hlt:=(Array.getElem?_eq_some_iff.1 m1).1;have hnd:D ∉ ms∧ms.Nodup:=List.nodup_cons.1 h.mnod;have hoth:∀ k,k≠D→(w.putObj D (.deferred none)).heap[k]? = w.heap[k]?:=fun k hk=>World.putObj_heap_other hk
 have hk:Keeps w Im (w.putObj D (.deferred none)) Im:=⟨fun _ h=>h,fun b hb=>hoth b fun e=>m2 (e ▸ hb)⟩
 refine {
     fit:={ size:=h.fit.size,tmps:=fun i l hl=>(h.fit.tmps i l hl).mono' hk,regs:=fun d r hr=>(h.fit.regs d r hr).mono hk rfl (fun _ _=>rfl) fun loc hl=>hoth _ (m4 d r loc hr hl),nodup:=h.fit.nodup,live:=fun d r loc hr hl=>by rw [World.putObj_size];exact h.fit.live d r loc hr hl,apart:=h.fit.apart,im:=fun b hb=>by rw [World.putObj_size];exact h.fit.im b hb }
     os:=h.os,tape:=h.tape,output:=h.output,size:=by rw [World.putObj_size];exact h.size,block:=fun k hk' hm=>?_,imin:=h.imin,imnew:=h.imnew,regnew:=h.regnew,fixed:=h.fixed,glob:=Γ.mono hk h.glob,mnod:=hnd.2,marks:=fun E hE=>?_ }
 ·have m3':Γ.W0.heap.size≤D:=m3;have hk2:k<Γ.W0.heap.size:=hk';rw [hoth k omg];exact h.block k hk' hm
 ·obtain ⟨n1,n2,n3,n4⟩:=h.marks E (List.mem_cons_of_mem _ hE);exact ⟨(hoth E fun e=>hnd.1 (e ▸ hE)).trans n1,n2,n3,n4⟩
theorem Ie {F:Fence} {n:Nat} {P:Program} {fn:Func} {R:Ending→World→Prop} {Γ:Base} {β:Env} {Im:Nat→Prop} {s:St} {tmps:Array Value}:∀ (ms:List Nat) (w:World),RRx (Γ.wm ms) β Im s tmps w →
  (∀ w',RRx (Γ.wm []) β Im s tmps w'→∃ v,(results fn tmps).run P w'=.ok v w'∧R (.returned v) w')→LeavesInM F n P fn tmps R (ms.map F6) .returning w
 | [],w,h,hf=>hf w h
 | D :: ms,w,h,hf=>by
  obtain ⟨m1,_⟩:=h.marks D List.mem_cons_self;exact ⟨by simp,.inl ⟨D,_,rfl,run_takeDeferred m1,Ie ms _ h.shut hf⟩⟩
theorem Js4 {X:Cx} {f:FuncId} {fn:Func} {c:Code} {args:List L} {rs:Regs} {Post:L→Regs→Prop} (own:Bool) (rn:List (Nat×Nat)) (hrn:∀ x∈rn,x.2<1000∨500000≤x.2) (hf:X.P.funcs[f]? = some fn) (hname:(fn.name == "runtime.NumGoroutine")=false) (hb:fn.body=some c)
  (h900:900 ∉ rs.map (·.1)) (h:∀ Γ a w,GOK X none Γ→(rs=[]→∀ b,¬ Γ.may b)→RRm Γ [] ⟨args ++ List.replicate (fn.ntmps - args.length) .junk,rs⟩ a w→c.wpIn (F0 none) 1 X.P (QQ Γ (Jed X.P own rn fn.results.toList (rs.map (·.1)) Post)) a w):Al X f args rs Post:=by
 refine ⟨enters_of hf hname hb,fun β Im w vs hglob hfit=>?_⟩;have hvl:vs.length=args.length:=by simpa using hfit.size
 refine callsIn_wide.1 (callsIn_of_wp_marks (n:=1) (F:=Fence.wide) hf hb trivial ?_);let Γ:Base:=⟨w,β,Im,fun k=>∃ d r loc,(d,r)∈rs∧β d=some loc∧loc.blk=k,[],X.G,X.mono⟩
 have hr0:RRm Γ [] ⟨args ++ List.replicate (fn.ntmps - args.length) .junk,rs⟩ { tmps:=(⟨vs⟩:Array Value) ++ Array.replicate (fn.ntmps - (⟨vs⟩:Array Value).size) undef,defers:=[] } w:=by
  refine ⟨rfl,β,Im,{ fit:={ size:=?_,tmps:=fun i l hl=>?_,regs:=hfit.regs,nodup:=hfit.nodup,live:=hfit.live,apart:=hfit.apart,im:=hfit.im },os:=rfl,tape:=rfl,output:=rfl,size:=Nat.le_refl _,block:=fun _ _ _=>rfl,imin:=fun _ h=>h,imnew:=fun _ h=>.inl h,regnew:=fun d r loc hd hl=>.inr ⟨d,r,loc,hd,hl,rfl⟩,fixed:=fun _ _ _=>rfl,glob:=hglob,mnod:=.nil,marks:=fun D hD=>(by cases hD) }⟩
  ·simp [hvl]
  ·by_cases hi:i<args.length
   ·simp only at hl;rw [List.getElem?_append_left hi] at hl;have:=hfit.tmps i l hl;have e:((⟨vs⟩:Array Value) ++ Array.replicate (fn.ntmps - (⟨vs⟩:Array Value).size) undef).getD i undef=(⟨vs⟩:Array Value).getD i undef:=by
     simp only [Array.getD_eq_getD_getElem?];rw [Array.getElem?_append_left (by simp;omega)]
    rw [e];exact this
   ·simp only at hl;rw [List.getElem?_append_right omg,List.getElem?_replicate] at hl;split at hl
    ·cases hl;trivial
    ·cases hl
 have hw:=h Γ _ w (J21 rfl) (fun e b ⟨_,_,_,hm,_⟩=>by rw [e] at hm;cases hm) hr0;refine wpIn_mono (show c.wpIn Fence.wide 1 X.P _ _ _ from hw) fun e a w' hq=>?_
 have step:∀ {β':Env} {Im':Nat→Prop} {s:St} {tmps:Array Value} {w':World},RRx (Γ.wm []) β' Im' s tmps w'→CallStep β w Im rs β' w' Im' (Cu (900 :: rs.map (·.1)) s.regs):=by
  intro β' Im' s tmps w' hx;refine { os:=hx.os,tape:=hx.tape,output:=hx.output,size:=hx.size,block:=fun k hk' hne=>hx.block k hk' (fun ⟨d,r,loc,h1,h2,h3⟩=>hne d r loc h1 h2 h3),imin:=hx.imin,imnew:=hx.imnew,env:=hx.fixed,keys:=fun d r hd=>?_,regnew:=fun d r loc hd hl=>hx.regnew d r loc (Cf hd).2 hl,fit:=?_ }
  ·rcases List.mem_cons.1 (Cf hd).1 with h | h
   ·exact .inl h
   ·obtain ⟨⟨d',r'⟩,h1,rfl⟩:=List.mem_map.1 h;exact .inr ⟨r',h1⟩
  ·exact { size:=rfl,tmps:=fun i l h=>by simp at h,regs:=fun d r hd=>hx.fit.regs d r (Cf hd).2,nodup:=(He _ _).nodup (List.nodup_cons.2 ⟨h900,hfit.nodup⟩),live:=fun d r loc hd hl=>hx.fit.live d r loc (Cf hd).2 hl,apart:=fun d r d' r' l1 l2 hd hd' hne h1 h2=>hx.fit.apart d r d' r' l1 l2 (Cf hd).2 (Cf hd').2 hne h1 h2,im:=hx.fit.im }
 have fin:∀ s,O7 X.P own fn.results.toList (rs.map (·.1)) Post (Du rn s)→RR Γ s a w'→LeavesInM Fence.wide 1 X.P fn a.tmps (fun e w'=>∃ v l rs' β' Im',e=.returned v∧Post l rs'∧LRep β' w' Im' v l∧CallStep β w Im rs β' w' Im' rs') a.defers .returning w':=by
  intro s hl hr;obtain ⟨ms,hdef,β',Im0,hx0⟩:=B1 rn s hrn Γ a w' hr;generalize Du rn s=s at hl hx0;rw [hdef];unfold O7 at hl;split at hl
  ·obtain ⟨Im',hx⟩:=RRx.freezeOps (Gm fn.results.toList) hx0;unfold lretF at hl;refine Ie ms _ hx fun w2 hx2=>?_
   obtain ⟨vs,xs,h1,hP,h3,h4⟩:=Ic (P:=X.P) hx2.fit (a:={ tmps:=a.tmps,defers:=[] }) (Qd a.tmps) (fun _=>rfl) (fun _ _=>rfl) _ _ hl;have hrun:=G9 (P:=X.P) (fn:=fn) h1;refine ⟨_,hrun,_,Sg xs,_,β',Im',rfl,hP,?_,step hx2⟩;split
   ·rename_i h
    match vs,xs,h,h3,h4 with
    | [v],[x],_,_,h4=>exact h4 0 v x rfl rfl
   ·rename_i h;have:Sg xs=.tup xs:=by
     match xs with
     | []=>rfl
     | [x]=>exact absurd h3 h
     | _ :: _ :: _=>rfl
    rw [this];exact ⟨vs,rfl,h3,h4⟩
  ·refine Ie ms _ hx0 fun w2 hx2=>?_
   unfold Jdm at hl;split at hl
   ·rename_i t hres;have h1:(fn.results.toList.mapM (Qd a.tmps)).run X.P w2=.ok [a.tmps.getD t undef] w2:=by rw [hres];simp [Qd]
    have hrun:=G9 (P:=X.P) (fn:=fn) h1;have hrep:=A2 (a:={ tmps:=a.tmps,defers:=[] }) hx2.fit (.tmp t);exact ⟨_,hrun,_,_,_,β',Im0,rfl,hl,hrep,step hx2⟩
   ·rename_i t T hres;have hrep:=A2 (a:={ tmps:=a.tmps,defers:=[] }) hx2.fit (.tmp t);obtain ⟨v,m,hv,hm,hK⟩:=Jk (P:=X.P) (a:={ tmps:=a.tmps,defers:=[] }) hx2.fit hrep hl;have h1:(fn.results.toList.mapM (Qd a.tmps)).run X.P w2=.ok [v] w2:=by
     rw [hres];have:=Pb hv;simp only [List.mapM_cons,List.mapM_nil,Qd,Sem.run_bind] at this ⊢;have e:({ tmps:=a.tmps,defers:=[] }:Act).eval (.tmp t)=a.tmps.getD t undef:=rfl;rw [e] at this;rw [this];simp
    have hrun:=G9 (P:=X.P) (fn:=fn) h1;exact ⟨_,hrun,_,m,_,β',Im0,rfl,hK,hm,step hx2⟩
   ·exact hl.elim
 cases e with
 | normal=>obtain ⟨s,h1,h2⟩:=hq;exact fin s h1 h2
 | ret=>obtain ⟨s,h1,h2⟩:=hq;exact fin s h1 h2
 | exit id=>obtain ⟨s,h1,h2⟩:=hq;exact h1.elim
 | goto l=>exact hq.elim
 | panic c=>exact hq.elim
 | outgrown=>exact hq.elim
section
variable {P:Program} {rvs:List ResultVar} {keys:List Nat} {Post:L→Regs→Prop} {t:List L} {r:Regs} {own:Bool} {rn:List (Nat×Nat)}
theorem Jvt {X:Cx} {f:FuncId} {fn:Func} {c:Code} {args:List L} {rs:Regs} {Post:L→Regs→Prop} (own:Bool) (rn:List (Nat×Nat)) (hrn:∀ x∈rn,x.2<1000∨500000≤x.2) (hf:X.P.funcs[f]? = some fn) (hname:(fn.name == "runtime.NumGoroutine")=false) (hb:fn.body=some c)
  (h900:900 ∉ rs.map (·.1)) (h:SWP X none c (Jed X.P own rn fn.results.toList (rs.map (·.1)) Post) ⟨args ++ List.replicate (fn.ntmps - args.length) .junk,rs⟩):Al X f args rs Post :=
 Js4 own rn hrn hf hname hb h900 fun Γ a w hG _ hr=>h Γ a w hG hr.rr
theorem Vy:Jed P own rn rvs keys Post .normal ⟨t,r⟩=O7 P own rvs keys Post (Du rn ⟨t,r⟩):=(rfl)
theorem Jhr:Jed P own rn rvs keys Post .ret ⟨t,r⟩=O7 P own rvs keys Post (Du rn ⟨t,r⟩):=(rfl)
end
def Ba (n:Nat):List (Nat×L)→List L
 | []=>List.replicate n .junk
 | (i,l) :: ws=>(Ba n ws).set i l
theorem Cg (n:Nat):∀ ws,(Ba n ws).length=n
 | []=>by simp [Ba]
 | (i,l) :: ws=>by simp [Ba,Cg n ws]
theorem Je3 {n i:Nat} {l:L} {ws:List (Nat×L)}:(Ba n ws).set i l=Ba n ((i,l) :: ws):=(rfl)
theorem Ao {n i j:Nat} {l:L} {ws:List (Nat×L)}:(Ba n ((i,l) :: ws)).getD j .junk=if i=j then (if i<n then l else .junk) else (Ba n ws).getD j .junk:=by
 simp only [Ba,List.getD_eq_getElem?_getD,List.getElem?_set,Cg];split
 ·rename_i h;subst h;split <;> rfl
 ·rfl
theorem Aj {n j:Nat}:(Ba n []).getD j .junk=.junk:=by
 simp only [Ba,List.getD_eq_getElem?_getD,List.getElem?_replicate];split <;> rfl
def mapW (f:L→L):List (Nat×L)→List (Nat×L)
 | []=>[]
 | (i,l) :: ws=>(i,f l) :: mapW f ws
theorem Kw {f:L→L} (h:f .junk=.junk) {n:Nat}:∀ {ws:List (Nat×L)},(Ba n ws).map f=Ba n (mapW f ws)
 | []=>by simp [Ba,mapW,h]
 | (i,l) :: ws=>by simp only [Ba,mapW,List.map_set,Kw h]
theorem U7 {d n:Nat} {ws:List (Nat×L)}:(Ba n ws).map (L.forget d)=Ba n (mapW (L.forget d) ws):=Kw rfl
theorem Wd {d n:Nat} {es:Fz} {ws:List (Nat×L)}:(Ba n ws).map (L.freeze d es)=Ba n (mapW (L.freeze d es) ws):=Kw rfl
theorem Jac {f:Nat→Option Nat} {n:Nat} {ws:List (Nat×L)}:(Ba n ws).map (L.map f)=Ba n (mapW (L.map f) ws):=Kw rfl
theorem Jlb {f:L→L}:mapW f []=[]:=(rfl)
theorem Jg1 {f:L→L} {i:Nat} {l:L} {ws:List (Nat×L)}:mapW f ((i,l) :: ws)=(i,f l) :: mapW f ws:=(rfl)
def argW:Nat→List L→List (Nat×L)
 | _,[]=>[]
 | k,l :: ls=>(k,l) :: argW (k+1) ls
theorem Tq {n:Nat}:∀ (k:Nat) (ls:List L) (i:Nat),k+ls.length≤n→(Ba n (argW k ls))[i]? = if i<n then (if k≤i then (ls[i - k]?).orElse fun _=>some .junk else some .junk) else none
 | k,[],i,h=>by
  simp only [argW,Ba,List.getElem?_replicate];split
  ·split <;> simp
  ·rfl
 | k,l :: ls,i,h=>by
  simp only [List.length_cons] at h;have ih:=Tq (n:=n) (k+1) ls i omg;simp only [argW,Ba,List.getElem?_set,Cg,ih];by_cases h1:k=i
  ·subst h1;simp
  ·simp only [if_neg h1];by_cases h2:i<n
   ·simp only [if_pos h2];by_cases h3:k+1≤i
    ·simp only [if_pos h3,if_pos (show k≤i by omega)];have:i - k=(i - (k+1))+1:=by omega
     rw [this,List.getElem?_cons_succ]
    ·simp only [if_neg h3,if_neg (show ¬ k≤i by omega)]
   ·simp only [if_neg h2]
theorem Rx {n:Nat} {ls:List L} (h:ls.length≤n):ls ++ List.replicate (n - ls.length) .junk=Ba n (argW 0 ls):=by
 apply List.ext_getElem?;intro i;rw [Tq 0 ls i omg];by_cases h1:i<ls.length
 ·rw [List.getElem?_append_left h1,if_pos omg,if_pos (Nat.zero_le _)];simp [h1]
 ·rw [List.getElem?_append_right omg,List.getElem?_replicate];by_cases h2:i<n
  ·rw [if_pos omg,if_pos h2,if_pos (Nat.zero_le _)];simp [h1]
  ·rw [if_neg omg,if_neg h2]
def wsLe (n:Nat) (ws:List (Nat×L)):List (Nat×L)→Prop
 | []=>True
 | (i,l) :: rest=>LLe ((Ba n ws).getD i .junk) l∧wsLe n ws rest
theorem Ar {n:Nat} {ws:List (Nat×L)}:wsLe n ws []=True:=(rfl)
theorem Ap {n i:Nat} {l:L} {ws rest:List (Nat×L)}:wsLe n ws ((i,l) :: rest)=(LLe ((Ba n ws).getD i .junk) l∧wsLe n ws rest):=(rfl)
theorem R2:∀ {a b:List L},a.length=b.length→(∀ i,LLe (a.getD i .junk) (b.getD i .junk))→Aw a b
 | [],[],_,_=>trivial
 | x :: a,y :: b,h,hi=>⟨by simpa using hi 0,R2 (by simpa using h) fun i=>by simpa using hi (i+1)⟩
 | [],_ :: _,h,_=>by simp at h
 | _ :: _,[],h,_=>by simp at h
theorem Z1 {n:Nat} {ws:List (Nat×L)}:∀ {rest:List (Nat×L)},wsLe n ws rest→∀ i,LLe ((Ba n ws).getD i .junk) ((Ba n rest).getD i .junk)
 | [],_,i=>by rw [Aj];exact .inl rfl
 | (j,l) :: rest,h,i=>by
  rw [Ao];split
  ·rename_i hj;subst hj;split
   ·exact h.1
   ·exact .inl rfl
  ·exact Z1 h.2 i
theorem Jsj {n:Nat} {ws ws':List (Nat×L)} {r r':Regs} (ht:wsLe n ws ws') (hr:Az r r') (hk:Ay r'):St.Le ⟨Ba n ws,r⟩ ⟨Ba n ws',r'⟩ :=
 J31 (R2 (by simp [Cg]) (Z1 ht)) hr hk
theorem Jwp {X:Cx} {f:FuncId} {fn:Func} {c:Code} {args:List L} {rs:Regs} {Post:L→Regs→Prop} (own:Bool) (rn:List (Nat×Nat)) (hrn:∀ x∈rn,x.2<1000∨500000≤x.2) (hf:X.P.funcs[f]? = some fn) (hname:(fn.name == "runtime.NumGoroutine")=false) (hb:fn.body=some c) (hn:args.length≤fn.ntmps)
  (h900:900 ∉ rs.map (·.1)) (h:SWP X none c (Jed X.P own rn fn.results.toList (rs.map (·.1)) Post) ⟨Ba fn.ntmps (argW 0 args),rs⟩):Al X f args rs Post :=
 Jvt own rn hrn hf hname hb h900 (by rw [Rx hn];exact h)
end Go.LX
