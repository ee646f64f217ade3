/- A region that draws its order: where its operations only read, or call what only computes, the order of the text serves for all. -/
import Derived.Test.YtpdaccjebbbbaaaDoorLxH
import Derived.Still
set_option linter.unusedSimpArgs false
set_option linter.unusedVariables false
set_option linter.unusedSectionVars false
set_option linter.unnecessarySimpa false
namespace Go.LX
open Go Go.RowKit Go.Proofs
def L.retOK:L→Bool
 | .p _=>true
 | .tup _=>true
 | _=>false
def lqbs (P:Program) (s:St) (t:TypeId) (n:Nat) (parts:List (Nat×Operand)) (K:L→Prop):Prop :=
 ∃
  e sz,slE P t=some (e,sz)∧n * sz≤16777216∧(∃ zs,Bu P e=some zs∧zs.length=sz)∧parts.length=n∧Jt 0 (parts.map fun (i,x)=>(i,s.get x))=true ∧
  ∃ es,Dn sz (parts.map fun (i,x)=>(i,s.get x))=some es∧K (.p (.sl es))
def lqc (X:Cx) (s:St) (o:Oper) (K:L→Prop):Prop :=
 match o.op with
 | .call { callee:=.value f,args,argTypes:=_ }=>match s.get f with
  | .fn g []=>∃ l,(Al X g (args.toList.map s.get) [] (fun m _=>m=l)∧l.retOK=true)∧K l
  | .p (.clo g ps)=>∃ l,(Al X g (args.toList.map s.get ++ [.eptr ps]) [] (fun m _=>m=l)∧l.retOK=true)∧K l
  | _=>False
 | .buildSlice t n parts=>lqbs X.P s t n parts.toList K
 | op=>lq X.P s.regs s.get op K
def kq (X:Cx) (o:Oper) (K:St→Prop) (s:St):Prop:=lqc X s o (kput o.dst K s)
def Jf (X:Cx) (ds:List (Option Tmp)):List Oper→(St→Prop)→St→Prop
 | [],K,s=>K s
 | o :: rest,K,s=>F4 ds o.guard (kq X o (Jf X ds rest K)) (F9 o.dst (Jf X ds rest K)) s
def YS (X:Cx) (ds:List (Option Tmp)) (s:St) (o:Oper) (K:L→Prop):Prop :=
 match o.guard with
 | none=>lqc X s o K
 | some (j,want)=>match ds.getD j none with
  | some dj=>match s.tmps.getD dj .junk with
   | .p (.bool c)=>if c=want then lqc X s o K else K (.tup [])
   | .tup []=>K (.tup [])
   | _=>False
  | none=>False
def Jds (X:Cx) (ds:List (Option Tmp)) (K:St→Prop):List Oper→St→Prop
 | [],s=>K s
 | o :: rest,s=>YS X ds s o fun l=>Jds X ds K rest (s.put o.dst l)
section
variable {X:Cx} {Γ:Base} {ro:Option Nat} {ops:Array Oper} {md:Region.Mode}
theorem Mu {s:St} {o:Oper} {K K':L→Prop} (h:∀ l,K l→K' l) (hl:lqc X s o K):lqc X s o K':=by
 unfold lqc at hl ⊢;split at hl
 ·split at hl
  ·obtain ⟨l,h1,h2⟩:=hl;exact ⟨l,h1,h l h2⟩
  ·obtain ⟨l,h1,h2⟩:=hl;exact ⟨l,h1,h l h2⟩
  ·exact hl.elim
 ·obtain ⟨e,sz,h1,h2,h3,h4,h5,es,h6,h7⟩:=hl;exact ⟨e,sz,h1,h2,h3,h4,h5,es,h6,h _ h7⟩
 ·exact Jpx h hl
theorem Th {s:St} {o:Oper} {K:L→Prop} (hl:lqc X s o K):∃ l,lqc X s o (fun m=>m=l)∧K l:=by
 unfold lqc at hl ⊢;split at hl
 ·split at hl
  ·obtain ⟨l,h1,h2⟩:=hl;exact ⟨l,⟨l,h1,rfl⟩,h2⟩
  ·obtain ⟨l,h1,h2⟩:=hl;exact ⟨l,⟨l,h1,rfl⟩,h2⟩
  ·exact hl.elim
 ·obtain ⟨e,sz,h1,h2,h3,h4,h5,es,h6,h7⟩:=hl;exact ⟨_,⟨e,sz,h1,h2,h3,h4,h5,es,h6,rfl⟩,h7⟩
 ·exact Jis hl
theorem Tx {s s':St} {o:Oper} {K:L→Prop} (hr:s'.regs=s.regs) (hρ:∀ x∈o.op.operands.toList,s'.get x=s.get x) (hl:lqc X s o K):lqc X s' o K:=by
 unfold lqc at hl ⊢;split at hl
 ·rename_i f args ts ho;have e1:s'.get f=s.get f:=hρ f (by rw [ho];simp [Op.operands,Call.operands]);have e2:args.toList.map s'.get=args.toList.map s.get:=List.map_congr_left fun x hm=>hρ x (by rw [ho];simp [Op.operands,Call.operands];exact .inr (by simpa using hm))
  rw [e1,e2];exact hl
 ·rename_i t n parts ho;have e2:(parts.toList.map fun (i,x)=>(i,s'.get x))=parts.toList.map fun (i,x)=>(i,s.get x):=List.map_congr_left fun x hm=>by
   have:=hρ x.2 (by rw [ho];simp [Op.operands];exact ⟨x.1,by simpa using hm⟩);simp only [this]
  unfold lqbs at hl ⊢;rw [e2];exact hl
 ·rw [hr];exact Jj8 hρ hl
theorem Kr {ds:List (Option Tmp)} {s:St} {o:Oper} {K K':L→Prop} (h:∀ l,K l→K' l) (hl:YS X ds s o K):YS X ds s o K':=by
 unfold YS at hl ⊢;split at hl
 ·exact Mu h hl
 ·split at hl
  ·split at hl
   ·split at hl
    ·rename_i hc;rw [if_pos hc];exact Mu h hl
    ·rename_i hc;rw [if_neg hc];exact h _ hl
   ·exact h _ hl
   ·exact hl.elim
  ·exact hl.elim
theorem Jab {ds:List (Option Tmp)} {s:St} {o:Oper} {K:L→Prop} (hl:YS X ds s o K):∃ l,YS X ds s o (fun m=>m=l)∧K l:=by
 unfold YS at hl ⊢;split at hl
 ·exact Th hl
 ·split at hl
  ·split at hl
   ·split at hl
    ·rename_i hc;simp only [if_pos hc];exact Th hl
    ·rename_i hc;simp only [if_neg hc];exact ⟨_,rfl,hl⟩
   ·exact ⟨_,rfl,hl⟩
   ·exact hl.elim
  ·exact hl.elim
theorem Jmw {s:St} {dst:Option Tmp} {l:L} {x:Operand} (h:∀ d,dst=some d→x≠.tmp d):(s.put dst l).get x=s.get x:=by
 cases dst with
 | none=>rfl
 | some d =>
  cases x with
  | tmp t =>
   have:d≠t:=fun e=>h d rfl (by rw [e])
   simp [St.get,St.put,List.getD_eq_getElem?_getD,this]
  | const v=>rfl
  | global g=>rfl
  | func f=>rfl
theorem Jlk (j:Nat):(ops.toList.map (·.dst)).getD j none=(ops[j]?).bind (·.dst):=by
 rw [List.getD_eq_getElem?_getD,List.getElem?_map];cases h:ops[j]? <;> simp [h]
theorem Uk {s:St} {o:Oper} {K:L→Prop} {dst:Option Tmp} {l:L} (h:∀ d,dst=some d→d ∉ o.looksAt ops) (hl:YS X (ops.toList.map (·.dst)) s o K):YS X (ops.toList.map (·.dst)) (s.put dst l) o K:=by
 have hop:∀ x∈o.op.operands.toList,(s.put dst l).get x=s.get x:=fun x hx=>Jmw fun d hd hxd=>h d hd (by
  subst hxd;exact List.mem_append_left _ (List.mem_filterMap.2 ⟨.tmp d,by simpa using hx,rfl⟩))
 have hreg:(s.put dst l).regs=s.regs:=by cases dst <;> rfl
 unfold YS at hl ⊢;split at hl
 ·exact Tx hreg hop hl
 ·rename_i j want hg;split at hl
  ·rename_i dj hdj;have hdj':(ops[j]?).bind (·.dst)=some dj:=by rw [← Jlk];exact hdj
   have hslot:(s.put dst l).tmps.getD dj .junk=s.tmps.getD dj .junk:=by
    cases dst with
    | none=>rfl
    | some d =>
     have:d≠dj:=fun e=>h d rfl (by
      subst e;unfold Oper.looksAt;refine List.mem_append_right _ ?_;rw [hg];simp only [hdj'];simp)
     simp [St.put,List.getD_eq_getElem?_getD,this]
   rw [hslot];split at hl
   ·split at hl
    ·rename_i hc;rw [if_pos hc];exact Tx hreg hop hl
    ·rename_i hc;rw [if_neg hc];exact hl
   ·exact hl
   ·exact hl.elim
  ·exact hl.elim
theorem Jsi (s:St) {x y:Option Tmp} (v u:L) (h:∀ d,x=some d→y≠some d):(s.put x v).put y u=(s.put y u).put x v:=by
 cases x with
 | none=>rfl
 | some d=>cases y with
  | none=>rfl
  | some e =>
   have:d≠e:=fun h'=>h d rfl (by rw [h'])
   simp only [St.put];congr 1;exact List.set_comm _ _ this
theorem Yr {s:St} {o:Oper} {K:L→Prop} {dst:Option Tmp} {l:L} (h:∀ d,dst=some d→d ∉ o.looksAt ops) (hl:YS X (ops.toList.map (·.dst)) (s.put dst l) o K):YS X (ops.toList.map (·.dst)) s o K:=by
 cases dst with
 | none=>exact hl
 | some d =>
  cases hd:s.tmps[d]? with
  | none =>
   have:s.put (some d) l=s:=by
    simp only [St.put];congr 1;exact List.set_eq_of_length_le (by rw [List.getElem?_eq_none_iff] at hd;exact hd)
   rw [this] at hl;exact hl
  | some l0 =>
   have:=Uk (ops:=ops) (dst:=some d) (l:=l0) h hl;have e:(s.put (some d) l).put (some d) l0=s:=by
    simp only [St.put,List.set_set];congr 1;obtain ⟨h1,h2⟩:=List.getElem?_eq_some_iff.1 hd;rw [← h2];exact List.set_getElem_self h1
   rw [e] at this;exact this
def lAny (X:Cx) (md:Region.Mode) (ops:Array Oper) (K:St→Prop):Nat→Array Bool→St→Prop
 | 0,listed,s=>Region.ready md ops listed=[]∧K s
 | fuel+1,listed,s=>(Region.ready md ops listed=[]→K s) ∧
  ∀ i∈Region.ready md ops listed,∀ o,ops[i]? = some o→YS X (ops.toList.map (·.dst)) s o fun l=>lAny X md ops K fuel (listed.setIfInBounds i true) (s.put o.dst l)
theorem Jck {K:St→Prop} {i:Nat} {oi:Oper} {v:L} (hi:ops[i]? = some oi):∀ (fuel:Nat) (listed:Array Bool) (s:St),
   (∀ j oj,ops[j]? = some oj→j≠i→listed.getD j true=false→(∀ e∈oj.after,Region.binds md e=true→e.on≠i)→oi.apart ops oj=true) →
   i∈Region.ready md ops listed→YS X (ops.toList.map (·.dst)) s oi (fun m=>m=v) →
   lAny X md ops K fuel (listed.setIfInBounds i true) (s.put oi.dst v)→lAny X md ops K (fuel+1) listed s:=by
 intro fuel
 induction fuel with
 | zero =>
  intro listed s _ hr hy H;refine ⟨fun h=>(by rw [h] at hr;cases hr),fun j hj oj hoj=>?_⟩;by_cases hji:j=i
  ·subst hji;rw [hi] at hoj;cases hoj;exact Kr (fun l hl=>by rw [hl];exact H) hy
  ·have:=ready_mono hj hji;rw [H.1] at this;cases this
 | succ fuel ih =>
  intro listed s hfree hr hy H;refine ⟨fun h=>(by rw [h] at hr;cases hr),fun j hj oj hoj=>?_⟩;by_cases hji:j=i
  ·subst hji;rw [hi] at hoj;cases hoj;exact Kr (fun l hl=>by rw [hl];exact H) hy
  ·have h1:=H.2 j (ready_mono hj hji) oj hoj;obtain ⟨hjun,oj',hoj',hall⟩:=mem_ready.1 hj;rw [hoj] at hoj';cases hoj';have hnot:∀ e∈oj.after,Region.binds md e=true→e.on≠i:=fun e he hb heq=>by
    have h1:=hall e he hb;have h0:=(mem_ready.1 hr).1;rw [heq] at h1;rcases Nat.lt_or_ge i listed.size with h' | h'
    ·simp [h'] at h0 h1;rw [h0] at h1;cases h1
    ·simp [Array.getElem?_eq_none h'] at h1
   obtain ⟨a1,a2,a3⟩:=Oper.apart_spec (hfree j oj hoj hji hjun hnot);have hfree':∀ k ok,ops[k]? = some ok→k≠i→(listed.setIfInBounds j true).getD k true=false →
     (∀ e∈ok.after,Region.binds md e=true→e.on≠i)→oi.apart ops ok=true:=fun k ok hk hki hun hno=>by
    refine hfree k ok hk hki ?_ hno;by_cases hjk:j=k
    ·subst hjk;exact hjun
    ·rw [getD_set_ne true hjk] at hun;exact hun
   refine Kr (fun l hl=>?_) (Yr a1 h1);refine ih (listed.setIfInBounds j true) (s.put oj.dst l) hfree' (ready_mono hr (Ne.symm hji)) (Uk a3 hy) ?_;rw [Array.setIfInBounds_comm _ _ hji];rw [← Jsi s v l a2];exact hl
theorem W7 {K:St→Prop}:∀ (l:List Oper) (k:Nat) (listed:Array Bool) (s:St),(∀ j,l[j]? = ops[k+j]?) →
  Region.lexFrom md ops l.length k listed=true→Jds X (ops.toList.map (·.dst)) K l s→lAny X md ops K l.length listed s
 | [],_,_,_,_,hB,h=>⟨by simpa [Region.lexFrom] using hB,h⟩
 | o :: l,k,listed,s,hl,hB,h=>by
  have h0:ops[k]? = some o:=by simpa using (hl 0).symm
  simp only [List.length_cons,Region.lexFrom,Bool.and_eq_true] at hB;obtain ⟨⟨hr,hf⟩,hB'⟩:=hB;obtain ⟨v,hy,hK⟩:=Jab (X:=X) (show YS X _ s o _ from h);exact Jck h0 l.length listed s (Region.free_spec h0 hf) (by simpa using hr) hy
   (W7 l (k+1) _ _ (fun j=>by have:=hl (j+1);simpa [Nat.add_assoc,Nat.add_comm 1 j] using this) hB' hK)
theorem Jfi {s:St} {a:Act} {w:World} {o:Oper} {K:L→Prop} {Q:Exit→Act→World→Prop} {n:Nat} (hG:Γ.G=X.G) (h:RR Γ s a w) (hl:lqc X s o K) :
  o.wpIn (F0 ro) n X.P a w (fun a' w'=>∃ l,K l∧RR Γ (s.put o.dst l) a' w') Q:=by
 obtain ⟨ms,hdef,β,Im,hx⟩:=h;unfold lqc at hl;split at hl
 ·rename_i f args ts ho;split at hl
  ·rename_i g hg;obtain ⟨l,⟨⟨hent,hl⟩,hret⟩,hK⟩:=hl;have hrf:=A2 hx.fit f;rw [hg] at hrf;obtain ⟨cs,hv,hcl,hcs⟩:=hrf;have:cs=[]:=List.eq_nil_of_length_eq_zero (by simpa using hcl);subst this;have hfit:Fit β w Im ⟨args.toList.map s.get,[]⟩ ⟨args.toList.map a.eval⟩:=by
    refine { size:=by simp,tmps:=fun i l hl'=>?_,regs:=fun d r h=>(by cases h),nodup:=.nil,live:=fun d r loc h=>(by cases h),apart:=fun d r d' r' l1 l2 h=>(by cases h),im:=hx.fit.im };simp only [List.getElem?_map] at hl';obtain ⟨q,hq,rfl⟩:=Option.map_eq_some_iff.1 hl';have e1:(⟨args.toList.map a.eval⟩:Array Value).getD i undef=a.eval q:=by simp only [Array.getD_eq_getD_getElem?,List.getElem?_toArray,List.getElem?_map,hq];rfl
    rw [e1];exact A2 hx.fit q
   refine Q0 (f:=g) (args:=⟨args.toList.map a.eval⟩) (w':=w) (by rw [ho];simp) ?_ ?_
   ·unfold execOp;rw [ho];have e:args.map a.eval ++ (⟨[]⟩:Array Value)=⟨args.toList.map a.eval⟩:=by rw [← Array.toList_inj];simp
    simp only [resolve,Sem.run_bind,hv,Deferred.ofValue,Sem.run_pure,Result.andThen_ok,invoke,Array.empty_append,e];exact hent _ _
   ·refine (hl β Im w _ (hG ▸ hx.glob) hfit).mono fun e w' ⟨v,m,rs',β',Im2,he,hP,hrep,hstep⟩=>⟨v,he,l,hK,ms,Bf hdef,β,Im2,?_⟩
    subst hP;have g:Grow w Im w' Im2:=⟨hstep.os,hstep.tape,hstep.output,hstep.size,fun k hk=>hstep.block k hk fun d r loc h=>(by cases h),hstep.imin,fun b hb=>(hstep.imnew b hb).imp id fun h=>h.elim id fun ⟨d,r,loc,h,_⟩=>(by cases h),hstep.fit.im⟩
    refine (hx.grow g).put _ ?_;cases m <;> first | exact hrep | cases hret
  ·rename_i g ps hg;obtain ⟨l,⟨⟨hent,hl⟩,hret⟩,hK⟩:=hl;have hrf:=A2 hx.fit f;rw [hg] at hrf;obtain ⟨b,o',hv,hrf⟩:=J0f (β:=β) hrf;have hfit:Fit β w Im ⟨args.toList.map s.get ++ [.eptr ps],[]⟩ ⟨args.toList.map a.eval ++ [.pointer (some ⟨b,o',none⟩)]⟩:=by
    refine { size:=by simp,tmps:=fun i l hl'=>?_,regs:=fun d r h=>(by cases h),nodup:=.nil,live:=fun d r loc h=>(by cases h),apart:=fun d r d' r' l1 l2 h=>(by cases h),im:=hx.fit.im };by_cases hlt:i<args.toList.length
    ·simp only [] at hl';rw [List.getElem?_append_left (by simpa using hlt),List.getElem?_map] at hl';obtain ⟨q,hq,rfl⟩:=Option.map_eq_some_iff.1 hl';have e1:(⟨args.toList.map a.eval ++ [.pointer (some ⟨b,o',none⟩)]⟩:Array Value).getD i undef=a.eval q:=by
      rw [Array.getD_eq_getD_getElem?,List.getElem?_toArray,List.getElem?_append_left (by simpa using hlt),List.getElem?_map,hq];rfl
     rw [e1];exact A2 hx.fit q
    ·simp only [] at hl';rw [List.getElem?_append_right (by simpa using hlt),List.length_map] at hl';cases hk:i - args.toList.length with
     | zero =>
      rw [hk] at hl';simp at hl';subst hl';have e1:(⟨args.toList.map a.eval ++ [.pointer (some ⟨b,o',none⟩)]⟩:Array Value).getD i undef=.pointer (some ⟨b,o',none⟩):=by
       rw [Array.getD_eq_getD_getElem?,List.getElem?_toArray,List.getElem?_append_right (by simpa using hlt),List.length_map,hk];rfl
      rw [e1];exact hrf
     | succ k=>rw [hk] at hl';simp at hl'
   refine Q0 (f:=g) (args:=⟨args.toList.map a.eval ++ [.pointer (some ⟨b,o',none⟩)]⟩) (w':=w) (by rw [ho];simp) ?_ ?_
   ·unfold execOp;rw [ho];have e:args.map a.eval ++ (#[.pointer (some ⟨b,o',none⟩)]:Array Value)=⟨args.toList.map a.eval ++ [.pointer (some ⟨b,o',none⟩)]⟩:=by rw [← Array.toList_inj];simp
    simp only [resolve,Sem.run_bind,hv,Deferred.ofValue,Sem.run_pure,Result.andThen_ok,invoke,Array.empty_append,e];exact hent _ _
   ·refine (hl β Im w _ (hG ▸ hx.glob) hfit).mono fun e w' ⟨v,m,rs',β',Im2,he,hP,hrep,hstep⟩=>⟨v,he,l,hK,ms,Bf hdef,β,Im2,?_⟩
    subst hP;have g:Grow w Im w' Im2:=⟨hstep.os,hstep.tape,hstep.output,hstep.size,fun k hk=>hstep.block k hk fun d r loc h=>(by cases h),hstep.imin,fun b hb=>(hstep.imnew b hb).imp id fun h=>h.elim id fun ⟨d,r,loc,h,_⟩=>(by cases h),hstep.fit.im⟩
    refine (hx.grow g).put _ ?_;cases m <;> first | exact hrep | cases hret
  ·exact hl.elim
 ·rename_i t m parts ho;obtain ⟨e,sz,h1,h2,h3,h4,h5,es,h6,h7⟩:=hl;obtain ⟨v,w',Im',hr,hg,hp⟩:=Po hx h1 h2 h3 h4 h5 h6;have e1:(parts.map fun (i,x)=>(i,a.eval x))=⟨parts.toList.map fun (i,x)=>(i,a.eval x)⟩:=by rw [← Array.toList_inj];simp
  rw [← e1] at hr;refine B5 (v:=v) (w':=w') (by rw [ho];simp) (by unfold execOp;rw [ho];simp [hr]) ⟨_,h7,ms,Bf hdef,β,Im',(hx.grow hg).put _ hp⟩
 ·have hq:=X5 (P:=X.P) hx.fit (o:=o) hl;obtain ⟨v,l,hr,hrep,hK⟩:=hq;refine B5 (v:=v) (w':=w) (fun c hc=>?_) hr ⟨_,hK,ms,Bf hdef,β,Im,hx.put _ hrep⟩;rw [hc] at hl;simp [lq,lqv] at hl
theorem Jk5 {s:St} {a:Act} {w:World} (h:RR Γ s a w) {j dj:Nat} {c:Bool} (hdj:(ops[j]?).bind (·.dst)=some dj) (hc:s.tmps.getD dj .junk=.p (.bool c)):yielded ops a.tmps j=some c:=by
 obtain ⟨ms,hdef,β,Im,hx⟩:=h;have hlt:s.tmps[dj]? = some (.p (.bool c)):=by
  rw [List.getD_eq_getElem?_getD] at hc;cases hs:s.tmps[dj]? with
  | none=>rw [hs] at hc;simp at hc
  | some l=>rw [hs] at hc;simp at hc;rw [hc]
 have hrep:=hx.fit.tmps dj _ hlt;have hsz:dj<a.tmps.size:=by rw [hx.fit.size];exact (List.getElem?_eq_some_iff.1 hlt).1
 have e1:a.tmps.getD dj undef=a.tmps[dj]:=by simp [Array.getD_eq_getD_getElem?,hsz]
 rw [e1] at hrep;cases hvv:a.tmps[dj] with
 | bool b=>rw [hvv] at hrep;cases hrep;simp [yielded,hdj,hsz,hvv]
 | _=>rw [hvv] at hrep;cases hrep
theorem Jca {s:St} {a:Act} {w:World} (h:RR Γ s a w) {j dj:Nat} (hdj:(ops[j]?).bind (·.dst)=some dj) (hc:s.tmps.getD dj .junk=.tup []):yielded ops a.tmps j=none:=by
 obtain ⟨ms,hdef,β,Im,hx⟩:=h;have hlt:s.tmps[dj]? = some (.tup []):=by
  rw [List.getD_eq_getElem?_getD] at hc;cases hs:s.tmps[dj]? with
  | none=>rw [hs] at hc;simp at hc
  | some l=>rw [hs] at hc;simp at hc;rw [hc]
 have hrep:=hx.fit.tmps dj _ hlt;have hsz:dj<a.tmps.size:=by rw [hx.fit.size];exact (List.getElem?_eq_some_iff.1 hlt).1
 have e1:a.tmps.getD dj undef=a.tmps[dj]:=by simp [Array.getD_eq_getD_getElem?,hsz]
 rw [e1] at hrep;obtain ⟨vs,hv,_⟩:=hrep;simp [yielded,hdj,hsz,hv]
theorem Zy {s:St} {a:Act} {w:World} {i:Nat} {o:Oper} {K:L→Prop} {K':Act→World→Prop} {Q:Exit→Act→World→Prop} {n:Nat} (hi:ops[i]? = some o) (hG:Γ.G=X.G) (h:RR Γ s a w) (hl:YS X (ops.toList.map (·.dst)) s o K)
  (hK:∀ l a' w',K l→RR Γ (s.put o.dst l) a' w'→K' a' w'):wpOpIn (F0 ro) n X.P ops Q i K' a w:=by
 unfold wpOpIn;simp only [hi];have run:∀ {K:L→Prop},lqc X s o K→(∀ l a' w',K l→RR Γ (s.put o.dst l) a' w'→K' a' w')→o.wpIn (F0 ro) n X.P a w K' Q:=fun hl hK =>
  Oper.wpIn_mono (fun a' w' ⟨l,h1,h2⟩=>hK l a' w' h1 h2) (Jfi hG h hl)
 have skip:∀ {K:L→Prop},K (.tup [])→(∀ l a' w',K l→RR Γ (s.put o.dst l) a' w'→K' a' w')→K' (a.put o.dst undef) w:=fun h1 hK=>by
  obtain ⟨ms,hdef,β,Im,hx⟩:=h;exact hK _ _ _ h1 ⟨ms,Bf hdef,β,Im,hx.put _ H0⟩
 unfold YS at hl;split at hl
 ·rename_i hg;rw [if_pos (by simp [Region.wanted,hg])];exact run hl hK
 ·rename_i j want hg;split at hl
  ·rename_i dj hdj;rw [Jlk] at hdj;split at hl
   ·rename_i c hc;have hy:=Jk5 h hdj hc;split at hl
    ·rename_i hcw;rw [if_pos (by simp [Region.wanted,hg,hy,hcw])];exact run hl hK
    ·rename_i hcw;rw [if_neg (by simp [Region.wanted,hg,hy,hcw])];exact ⟨fun _ _=>trivial,skip hl hK⟩
   ·rename_i hc;have hy:=Jca h hdj hc;rw [if_neg (by simp [Region.wanted,hg,hy])];exact ⟨fun _ _=>trivial,skip hl hK⟩
   ·exact hl.elim
  ·exact hl.elim
theorem K7 {K:St→Prop} {Q:Exit→Act→World→Prop} {n:Nat} (hG:Γ.G=X.G) (hQ:∀ s a w,K s→RR Γ s a w→Q .normal a w):∀ (fuel:Nat) (listed:Array Bool) (s:St) (a:Act) (w:World),RR Γ s a w →
  lAny X md ops K fuel listed s→wpAnyIn (F0 ro) n X.P md ops Q fuel listed a w
 | 0,_,s,a,w,h,hl=>⟨hl.1,hQ s a w hl.2 h⟩
 | fuel+1,_,s,a,w,h,hl=>⟨fun h0=>hQ s a w (hl.1 h0) h,fun i hi=>by
   obtain ⟨_,o,ho,_⟩:=mem_ready.1 hi;exact Zy ho hG h (hl.2 i hi o ho) fun l a' w' h1 h2=>K7 hG hQ fuel _ _ a' w' h2 h1⟩
theorem Gy {K:St→Prop} {ds:List (Option Tmp)}:∀ (l:List Oper) (s:St),Jf X ds l K s→Jds X ds K l s
 | [],s,h=>h
 | o :: l,s,h=>by
  have self:∀ (dj:Nat) (c:Bool),s.tmps.getD dj .junk=.p (.bool c)→s.put (some dj) (.p (.bool c))=s:=by
   intro dj c hc;rw [List.getD_eq_getElem?_getD] at hc;cases hs:s.tmps[dj]? with
   | none=>rw [hs] at hc;simp at hc
   | some x =>
    rw [hs] at hc;simp at hc;simp only [St.put];congr 1;obtain ⟨h1,h2⟩:=List.getElem?_eq_some_iff.1 hs;rw [← hc,← h2];exact List.set_getElem_self h1
  simp only [Jf] at h;simp only [Jds];unfold F4 at h;unfold YS;cases hg:o.guard with
  | none =>
   rw [hg] at h;exact Mu (fun m hm=>Gy l _ hm) h
  | some jw =>
   obtain ⟨j,want⟩:=jw;rw [hg] at h;simp only at h ⊢;cases hdj:ds.getD j none with
   | none=>rw [hdj] at h;exact h.elim
   | some dj =>
    rw [hdj] at h;simp only at h ⊢;split at h
    ·rename_i c hc
     try rw [hc]
     try simp only
     by_cases hcw:c=want
     ·rw [if_pos hcw];have h1:=h.1 hcw;subst hcw;rw [self _ _ hc] at h1;exact Mu (fun m hm=>Gy l _ hm) h1
     ·rw [if_neg hcw];have hcw':c = !want:=by cases c <;> cases want <;> simp_all
      have h1:=h.2 hcw';rw [← hcw',self _ _ hc] at h1;exact Gy l _ h1
    ·rename_i hc
     try rw [hc]
     exact Gy l _ h
    ·exact h.elim
theorem Xt {id:Nat} {s:St} {a:Act} {w:World} {K:St→Prop} {Q:Exit→Act→World→Prop} {n:Nat} (hG:Γ.G=X.G) (hm:X.P.follows .mixedOrders=true) (hB:Region.lexB .any ops=true) (hQ:∀ s a w,K s→RR Γ s a w→Q .normal a w) (h:RR Γ s a w)
  (hl:Jf X (ops.toList.map (·.dst)) ops.toList K s):(Code.region id ops true).wpIn (F0 ro) n X.P Q a w:=by
 simp only [Region.lexB,Bool.and_eq_true] at hB;have h':RR Γ s a { w with drawn:=w.drawn+1 }:=by
  obtain ⟨ms,hdef,β,Im,hx⟩:=h;exact ⟨ms,hdef,β,Im,hx.grow (Grow.drew hx.fit.im)⟩
 refine wpIn_region_any hm (K7 hG hQ _ _ s a _ h' ?_);have:=W7 (X:=X) (K:=K) (md:=.any) ops.toList 0 (Array.replicate ops.size false) s sm (by simpa using hB.2) (Gy ops.toList s hl);simpa using this
end
inductive Ex where
 | normal
 | exit (id:Nat)
 | ret
def QQ (Γ:Base) (Q:Ex→St→Prop):Exit→Act→World→Prop
 | .normal,a,w=>∃ s,Q .normal s∧RR Γ s a w
 | .exit id,a,w=>∃ s,Q (.exit id) s∧RR Γ s a w
 | .ret,a,w=>∃ s,Q .ret s∧RR Γ s a w
 | _,_,_=>False
def Base.loopAt (Γ:Base) (l:Nat):Prop:=(∃ r,Γ.W0.heap[l]? = some (.loop r))∧¬ Γ.may l
def GOK (X:Cx) (ro:Option Nat) (Γ:Base):Prop:=Γ.G=X.G∧∀ l,ro=some l→Γ.loopAt l
theorem J21 {X:Cx} {Γ:Base} (h:Γ.G=X.G):GOK X none Γ:=⟨h,fun _ h=>by cases h⟩
def SWP (X:Cx) (ro:Option Nat) (c:Code) (Q:Ex→St→Prop) (s:St):Prop:=∀ Γ a w,GOK X ro Γ→RR Γ s a w→c.wpIn (F0 ro) 1 X.P (QQ Γ Q) a w
def kseq (B:(Ex→St→Prop)→St→Prop) (Q:Ex→St→Prop):Ex→St→Prop
 | .normal,s=>B Q s
 | .exit id,s=>Q (.exit id) s
 | .ret,s=>Q .ret s
def Nq (id:Nat) (Q:Ex→St→Prop):Ex→St→Prop
 | .normal,s=>Q .normal s
 | .exit id',s=>if id'=id then Q .normal s else Q (.exit id') s
 | .ret,s=>Q .ret s
def O0 (l:L) (A B:St→Prop) (s:St):Prop :=
 match l with
 | .p (.bool t)=>(t=true→A s)∧(t=false→B s)
 | _=>False
def lwp (X:Cx) (ro:Option Nat):Code→(Ex→St→Prop)→St→Prop
 | .skip,Q,s=>Q .normal s
 | .region id ops draw,Q,s=>match draw with
  | false=>lops X (ops.toList.map (·.dst)) ops.toList (Q .normal) s
  | true=>SWP X ro (.region id ops true) Q s
 | .seq a b,Q,s=>lwp X ro a (kseq (lwp X ro b) Q) s
 | .cond c a b,Q,s=>O0 (s.get c) (lwp X ro a Q) (lwp X ro b Q) s
 | .block id c,Q,s=>lwp X ro c (Nq id Q) s
 | .loop c,Q,s=>SWP X ro (.loop c) Q s
 | .exit id,Q,s=>Q (.exit id) s
 | .ret,Q,s=>Q .ret s
 | .label _,Q,s=>Q .normal s
 | .scope c,Q,s=>lwp X ro c Q s
 | c,Q,s=>SWP X ro c Q s
theorem Js {P:Program} {b:Frame} {a:Act} {k:List Item} {cs:List Frame} {w:World} {c:Code}:step P (lone (b.atR a (.code (.scope c) :: k)) cs w)=.next (lone (b.atR a (.code c :: .inScope c :: k)) cs w) :=
 step_lone_go (by simp [stepG,stepG.exec,Frame.atR])
theorem S3 {P:Program} {b:Frame} {a:Act} {k:List Item} {cs:List Frame} {w:World} {c:Code}:step P (lone (b.atR a (.inScope c :: k)) cs w)=.next (lone (b.atR a k) cs w) :=
 step_lone_go (by simp [stepG,stepG.exec,Frame.atR])
section
variable {X:Cx} {ro:Option Nat}
theorem Ae (hm:X.P.follows .mixedOrders=true):∀ (c:Code) (Q:Ex→St→Prop) (s:St),lwp X ro c Q s→SWP X ro c Q s:=by
 intro c
 induction c with
 | skip=>exact fun Q s h Γ a w hG hr=>wpIn_skip ⟨s,h,hr⟩
 | region id ops draw =>
  intro Q s h Γ a w hG hr;cases draw with
  | false =>
   simp only [lwp] at h;refine wpIn_region ?_;have:=Lv (X:=X) (Γ:=Γ) (ro:=ro) (n:=1) (ops:=ops) (K:=Q .normal) (Q:=QQ Γ Q) hG.1 (fun s a w h1 h2=>⟨s,h1,h2⟩) ops.toList 0 sm s a w hr h;rw [Array.length_toList] at this;rw [List.range_eq_range'];exact this
  | true =>
   exact h Γ a w hG hr
 | seq x y ihx ihy =>
  intro Q s h Γ a w hG hr;simp only [lwp] at h;refine wpIn_seq (wpIn_mono (ihx _ s h Γ a w hG hr) fun e a w hq=>?_);cases e with
  | normal=>obtain ⟨s',h1,h2⟩:=hq;exact ihy Q s' h1 Γ a w hG h2
  | exit id=>exact hq
  | ret=>exact hq
  | goto l=>exact hq.elim
  | panic c=>exact hq.elim
  | outgrown=>exact hq.elim
 | cond c x y ihx ihy =>
  intro Q s h Γ a w hG hr;simp only [lwp,O0] at h;have hr':=hr;obtain ⟨ms,hdef,β,Im,hx⟩:=hr';have hc:=A2 hx.fit c;split at h
  ·rename_i t hg;rw [hg] at hc;cases hv:a.eval c <;> rw [hv] at hc <;> cases hc;exact wpIn_cond_split hv (fun ht=>ihx Q s (h.1 ht) Γ a w hG hr) (fun ht=>ihy Q s (h.2 ht) Γ a w hG hr)
  ·exact h.elim
 | block id c ih =>
  intro Q s h Γ a w hG hr;simp only [lwp] at h;refine wpIn_block (wpIn_mono (ih _ s h Γ a w hG hr) fun e a w hq=>?_);cases e with
  | normal=>exact hq
  | exit id' =>
   obtain ⟨s',h1,h2⟩:=hq;simp only [Nq] at h1;simp only [Exit.inBlock];split at h1
   ·rename_i he;rw [if_pos he];exact ⟨s',h1,h2⟩
   ·rename_i he;rw [if_neg he];exact ⟨s',h1,h2⟩
  | ret=>exact hq
  | goto l=>exact hq.elim
  | panic c=>exact hq.elim
  | outgrown=>exact hq.elim
 | loop c _=>exact fun Q s h=>h
 | exit id=>exact fun Q s h Γ a w hG hr=>wpIn_exit ⟨s,h,hr⟩
 | ret=>exact fun Q s h Γ a w hG hr=>wpIn_ret ⟨s,h,hr⟩
 | label l=>exact fun Q s h Γ a w hG hr=>wpIn_label ⟨s,h,hr⟩
 | rangeFunc f ps asg c _ _=>exact fun Q s h=>h
 | scope c ih =>
  intro Q s h Γ a w hG hr;simp only [lwp] at h;intro b k cs hro hb hroom;obtain ⟨e,a₁,w₁,hq,harr⟩:=ih Q s h Γ a w hG hr b (.inScope c :: k) cs hro hb hroom;cases e with
  | normal=>exact ⟨.normal,a₁,w₁,hq,.of_steps (.one (fenced_calm hb hroom rfl) Js) (StepsIn.trans harr (.one (fenced_calm hb hroom rfl) S3))⟩
  | exit id =>
   have hx:∀ id (k:List Item),exitTo id (Item.inScope c :: k)=exitTo id k:=fun id k=>by simp [exitTo]
   exact ⟨.exit id,a₁,w₁,hq,.of_steps (.one (fenced_calm hb hroom rfl) Js) ⟨fun k' hk=>harr.1 k' (by rw [hx];exact hk),fun hr hk=>harr.2 hr (by rw [hx];exact hk)⟩⟩
  | ret=>exact ⟨.ret,a₁,w₁,hq,.of_steps (.one (fenced_calm hb hroom rfl) Js) harr⟩
  | goto l=>exact hq.elim
  | panic ch=>exact hq.elim
  | outgrown=>exact hq.elim
 | goto l=>exact fun Q s h=>h
 | refuse why=>exact fun Q s h=>h
def calmOp:Op→Bool
 | .alloc _ | .box .. | .store .. | .makeSlice .. | .mapUpdate .. | .mapEntry .. | .entryStore .. | .makeMap .. | .insert .. | .next .. | .range ..=>false
 | .call { callee:=.builtin .append,.. }=>false
 | .call { callee:=.builtin .delete,.. }=>false
 | _=>true
def Jd9:List Oper→Bool
 | []=>true
 | o :: l=>match calmOp o.op with
  | true=>Jd9 l
  | false=>false
theorem Ah {id:Nat} {ops:Array Oper} {Q:Ex→St→Prop} {s:St} (hm:X.P.follows .mixedOrders=true) (_:Jd9 ops.toList=true) (hB:Region.lexB .any ops=true) (h:Jf X (ops.toList.map (·.dst)) ops.toList (Q .normal) s):SWP X ro (.region id ops true) Q s :=
 fun Γ a w hG hr=>Xt hG.1 hm hB (K:=Q .normal) (Q:=QQ Γ Q) (fun s _ _ h1 h2=>⟨s,h1,h2⟩) hr h
inductive Ord where
 | leaf
 | nil
 | bad
 | node (i:Nat) (sub next:Ord)
def P6 (ops:Array Oper):Nat→Array Bool→Ord
 | 0,listed=>match Region.ready .any ops listed with
  | []=>.leaf
  | _=>.bad
 | f+1,listed=>match Region.ready .any ops listed with
  | []=>.leaf
  | is=>is.foldr (fun i acc=>.node i (P6 ops f (listed.setIfInBounds i true)) acc) .nil
def lAt (X:Cx) (ds:List (Option Tmp)) (ops:List Oper) (i:Nat) (C:St→Prop) (s:St):Prop :=
 match ops[i]? with
 | some o=>F4 ds o.guard (lop X o C) (F9 o.dst C) s
 | none=>False
def lOrd (X:Cx) (ds:List (Option Tmp)) (ops:List Oper) (K:St→Prop):Ord→St→Prop
 | .leaf,s=>K s
 | .nil,_=>True
 | .bad,_=>False
 | .node i sub next,s=>lAt X ds ops i (lOrd X ds ops K sub) s∧lOrd X ds ops K next s
theorem Uc {Γ:Base} {ops:Array Oper} {i:Nat} {C:St→Prop} {s:St} {a:Act} {w:World} {Q:Exit→Act→World→Prop} {n:Nat} (hG:Γ.G=X.G) (hr:RR Γ s a w) (h:lAt X (ops.toList.map (·.dst)) ops.toList i C s) :
  wpOpIn (F0 ro) n X.P ops Q i (fun a' w'=>∃ s',C s'∧RR Γ s' a' w') a w:=by
 unfold lAt at h;rw [Array.getElem?_toList] at h;unfold wpOpIn;split at h
 ·rename_i o ho;simp only [ho];obtain ⟨s',h',hc⟩:=Gb hr h;rcases hc with ⟨hA,hw⟩ | ⟨hB,hw⟩
  ·rw [if_pos (hw o rfl)];exact T5 hG h' hA
  ·rw [if_neg (by rw [hw o rfl];simp)];obtain ⟨ms,hdef,β,Im,hx⟩:=h';exact ⟨fun _ _=>trivial,_,hB,ms,Bf hdef,β,Im,hx.put o.dst H0⟩
 ·exact h.elim
theorem SWP.mono {c:Code} {Q Q':Ex→St→Prop} {s:St} (h:SWP X ro c Q s) (hq:∀ e s,Q e s→Q' e s):SWP X ro c Q' s:=fun Γ a w hG hr =>
 wpIn_mono (h Γ a w hG hr) fun e a w hq'=>by
  cases e with
  | normal=>obtain ⟨s',h1,h2⟩:=hq';exact ⟨s',hq _ _ h1,h2⟩
  | exit id=>obtain ⟨s',h1,h2⟩:=hq';exact ⟨s',hq _ _ h1,h2⟩
  | ret=>obtain ⟨s',h1,h2⟩:=hq';exact ⟨s',hq _ _ h1,h2⟩
  | goto l=>exact hq'.elim
  | panic c=>exact hq'.elim
  | outgrown=>exact hq'.elim
def St.Le (s s':St):Prop:=∀ Γ a w,RR Γ s a w→RR Γ s' a w
theorem St.Le.refl (s:St):s.Le s:=fun _ _ _ h=>h
theorem St.Le.trans {s s' s'':St} (h:s.Le s') (k:s'.Le s''):s.Le s'':=fun Γ a w hr=>k Γ a w (h Γ a w hr)
theorem Jq8 {c:Code} {Q:Ex→St→Prop} {s s':St} (hle:s.Le s') (h:SWP X ro c Q s'):SWP X ro c Q s:=fun Γ a w hG hr=>h Γ a w hG (hle Γ a w hr)
def kloop {ι:Type} (I:ι→St) (Pre:ι→Prop) (μ:ι→Nat) (x:ι) (Q:Ex→St→Prop):Ex→St→Prop
 | .normal,s=>∃ y,Pre y∧μ y<μ x∧s.Le (I y)
 | .exit id,s=>Q (.exit id) s
 | .ret,s=>Q .ret s
theorem SWP.loop {ι:Type} (I:ι→St) (Pre:ι→Prop) (μ:ι→Nat) (x0:ι) {c:Code} {Q:Ex→St→Prop} {s:St} (hs:s.Le (I x0)) (h0:Pre x0) (round:∀ x,Pre x→SWP X ro c (kloop I Pre μ x Q) (I x)) :
  SWP X ro (.loop c) Q s:=by
 intro Γ a w hG hr;have key:∀ n x,μ x=n→Pre x→∀ a w,RR Γ (I x) a w→∀ (b:Frame) (k:List Item) (cs:List Frame),b.roundOf=(F0 ro).round→(F0 ro).fn b.fn→(F0 ro).room (cs.length+1+1) →
   ∃ e a' w',QQ Γ Q e a' w'∧ArrivesIn (Machine.fenced X.P (F0 ro)) X.P (lone (b.atR a (.code c :: .inLoop c :: k)) cs w) b k cs e a' w':=by
  intro n
  induction n using Nat.strongRecOn with
  | _ n ih =>
   intro x hn hP a w hr b k cs hro hb hroom;obtain ⟨e,a₁,w₁,hq,harr⟩:=round x hP Γ a w hG hr b (.inLoop c :: k) cs hro hb hroom;cases e with
   | normal =>
    obtain ⟨s',⟨y,hy,hlt,hle⟩,h2⟩:=hq;obtain ⟨e₂,a₂,w₂,hq₂,harr₂⟩:=ih (μ y) (hn ▸ hlt) y rfl hy a₁ w₁ (hle Γ a₁ w₁ h2) b k cs hro hb hroom;exact ⟨e₂,a₂,w₂,hq₂,.of_steps (StepsIn.trans harr (.one (fenced_calm hb hroom rfl) stepR_inLoop)) harr₂⟩
   | exit id =>
    obtain ⟨s',h1,h2⟩:=hq;exact ⟨.exit id,a₁,w₁,⟨s',h1,h2⟩,.pass (x:=.inLoop c) rfl (fun _ _=>.inl sm) harr⟩
   | ret =>
    obtain ⟨s',h1,h2⟩:=hq;exact ⟨.ret,a₁,w₁,⟨s',h1,h2⟩,.pass (x:=.inLoop c) rfl (fun _ _=>.inl sm) harr⟩
   | goto l=>exact hq.elim
   | panic ch=>exact hq.elim
   | outgrown=>exact hq.elim
 intro b k cs hro hb hroom;obtain ⟨e,a',w',hq,harr⟩:=key _ x0 rfl h0 a w (hs Γ a w hr) b k cs hro hb hroom;exact ⟨e,a',w',hq,.of_steps (.one (fenced_calm hb hroom rfl) stepR_loop) harr⟩
theorem pure?_spec {l:L} {p:PV} (h:l.pure? = some p):l=.p p:=by
 cases l <;> simp [L.pure?] at h;rw [h]
end
def LLe (l l':L):Prop:=l'=.junk∨l=l'∨(l=.p .snil∧l'=.p (.sl []))
def Aw:List L→List L→Prop
 | [],[]=>True
 | l :: r,l' :: r'=>LLe l l'∧Aw r r'
 | _,_=>False
def Jbp:List (List L)→List (List L)→Prop
 | [],[]=>True
 | e :: r,e' :: r'=>Aw e e'∧Jbp r r'
 | _,_=>False
def A3:Reg→Reg→Prop
 | .var T cs,.var T' cs'=>T=T'∧Aw cs cs'
 | .row T sz es,.row T' sz' es'=>T=T'∧sz=sz'∧es=es'
 | .row T sz es,.lrow T' sz' f es'=>T=T'∧sz=sz'∧f=false∧es'=es.map fun e=>e.map L.p
 | .lrow T sz f es,.lrow T' sz' f' es'=>T=T'∧sz=sz'∧(f'=true→f=true)∧Jbp es es'
 | .lrow T sz _ es,.row T' sz' es'=>T=T'∧sz=sz'∧Cb es=some es'
 | .obj o,.obj o'=>o=o'
 | _,_=>False
def Az (rs:Regs):Regs→Prop
 | []=>True
 | (d,r') :: rest=>(match Am d rs with | some r=>A3 r r' | none=>False)∧Az rs rest
def Ay:Regs→Prop
 | []=>True
 | (d,_) :: rest=>d ∉ rest.map (·.1)∧Ay rest
theorem Af (l:L):LLe l .junk:=.inl rfl
theorem Ai (l:L):LLe l l:=.inr (.inl rfl)
theorem Au (x y:PV):LLe (.p x) (.p y) ↔ (x=y∨(x=.snil∧y=.sl [])):=by
 simp [LLe]
theorem LLe.rep {β:Env} {w:World} {Im:Nat→Prop} {v:Value} {l l':L} (h:LLe l l') (hr:LRep β w Im v l):LRep β w Im v l':=by
 rcases h with rfl | rfl | ⟨rfl,rfl⟩
 ·trivial
 ·exact hr
 ·cases hr;exact PRep.slNil
theorem Fp:∀ {a b:List L},Aw a b→a.length=b.length∧∀ (i:Nat) (l':L),b[i]? = some l'→∃ l,a[i]? = some l∧LLe l l'
 | [],[],_=>⟨rfl,fun i l' h=>by simp at h⟩
 | x :: a,y :: b,h=>by
  obtain ⟨h1,h2⟩:=h;obtain ⟨h3,h4⟩:=Fp h2;refine ⟨by simp [h3],fun i l' hl=>?_⟩;cases i with
  | zero=>simp at hl;subst hl;exact ⟨x,rfl,h1⟩
  | succ i=>simp at hl;simpa using h4 i l' hl
 | [],_ :: _,h=>h.elim
 | _ :: _,[],h=>h.elim
theorem LLe.cell {l l':L} (h:LLe l l') (hc:l.cellOK=true∨l=.junk):l'.cellOK=true∨l'=.junk:=by
 rcases h with rfl | rfl | ⟨rfl,rfl⟩
 ·exact .inr rfl
 ·exact hc
 ·exact .inl rfl
theorem O1:∀ {a b:List (List L)},Jbp a b→a.length=b.length∧∀ (i:Nat) (e':List L),b[i]? = some e'→∃ e,a[i]? = some e∧Aw e e'
 | [],[],_=>⟨rfl,fun i l' h=>by simp at h⟩
 | x :: a,y :: b,h=>by
  obtain ⟨h1,h2⟩:=h;obtain ⟨h3,h4⟩:=O1 h2;refine ⟨by simp [h3],fun i l' hl=>?_⟩;cases i with
  | zero=>simp at hl;subst hl;exact ⟨x,rfl,h1⟩
  | succ i=>simp at hl;simpa using h4 i l' hl
 | [],_ :: _,h=>h.elim
 | _ :: _,[],h=>h.elim
theorem A3.rep {β:Env} {w:World} {Im:Nat→Prop} {d:Nat} {r r':Reg} (h:A3 r r') (hr:Ci β w Im d r):Ci β w Im d r':=by
 cases r <;> cases r' <;> simp only [A3] at h
 ·obtain ⟨rfl,h⟩:=h;obtain ⟨h1,h2⟩:=Fp h;obtain ⟨loc,cur,g1,g2,g3,g4,g5,g6⟩:=hr;refine ⟨loc,cur,g1,by rw [← h1];exact g2,g3,g4,by rw [← h1];exact g5,fun j v l hv hl=>?_⟩;obtain ⟨l0,hl0,hle⟩:=h2 j l hl;exact ⟨hle.rep (g6 j v l0 hv hl0).1,hle.cell (g6 j v l0 hv hl0).2⟩
 ·obtain ⟨rfl,rfl,rfl⟩:=h;exact hr
 ·obtain ⟨rfl,rfl,rfl,rfl⟩:=h;rcases hr with ⟨g1,g2⟩ | ⟨loc,cur,g1,g2,g3,g4,g5,g6,g7,g8⟩
  ·exact .inl ⟨g1,by simp [g2]⟩
  ·refine .inr ⟨loc,cur,g1,g2,g3,g4,by simpa using g5,fun h=>(by cases h),g6,fun e he=>?_,fun i e j l hi hj=>?_⟩
   ·obtain ⟨x,hx,rfl⟩:=List.mem_map.1 he;simpa using (g7 x hx).1
   ·rw [List.getElem?_map] at hi;obtain ⟨x,hx,rfl⟩:=Option.map_eq_some_iff.1 hi;rw [List.getElem?_map] at hj;obtain ⟨p,hp,rfl⟩:=Option.map_eq_some_iff.1 hj;obtain ⟨v,hv,hpr⟩:=g8 i x j p hx hp;exact ⟨v,hv,hpr,.inl ((g7 x (List.mem_of_getElem? hx)).2 p (List.mem_of_getElem? hp))⟩
 ·obtain ⟨rfl,rfl,h⟩:=h;obtain ⟨h1,h2⟩:=Dh h;rcases hr with ⟨g1,g2⟩ | ⟨loc,cur,g1,g2,g3,g4,g5,g6,g7,g8,g9⟩
  ·subst g2;exact .inl ⟨g1,List.eq_nil_of_length_eq_zero (by simpa using h1.symm)⟩
  ·have key:∀ (i:Nat) (q:List PV) (j:Nat) (p:PV),‹List (List PV)›[i]? = some q→q[j]? = some p→∃ e,‹List (List L)›[i]? = some e∧e[j]? = some (.p p)∧e.length=q.length:=by
    intro i q j p hi hj;obtain ⟨e,he,ha⟩:=h2 i q hi;obtain ⟨k1,k2⟩:=Bh ha;obtain ⟨l,hl⟩:=getElem?_of_length k1 hj;have:=pure?_spec (k2 j l p hl hj);subst this;exact ⟨e,he,hl,k1⟩
   refine .inr ⟨loc,cur,g1,g2,g3,g4,by rw [← h1];exact g5,g7,fun q hq=>?_,fun i q j p hi hj=>?_⟩
   ·obtain ⟨i,hi,rfl⟩:=List.getElem_of_mem hq;obtain ⟨e,he,ha⟩:=h2 i _ (List.getElem?_eq_getElem hi);obtain ⟨k1,k2⟩:=Bh ha;refine ⟨by rw [← k1];exact g8 e (List.mem_of_getElem? he),fun p hp=>?_⟩;obtain ⟨j,hj,rfl⟩:=List.getElem_of_mem hp;obtain ⟨e',he',hl',_⟩:=key i _ j _ (List.getElem?_eq_getElem hi) (List.getElem?_eq_getElem hj);obtain ⟨v,_,_,hc⟩:=g9 i e' j _ he' hl';rcases hc with hc | hc
    ·exact hc
    ·cases hc
   ·obtain ⟨e',he',hl',_⟩:=key i q j p hi hj;obtain ⟨v,hv,hp,_⟩:=g9 i e' j _ he' hl';exact ⟨v,hv,hp⟩
 ·obtain ⟨rfl,rfl,hf,h⟩:=h;obtain ⟨h1,h2⟩:=O1 h;rcases hr with ⟨g1,g2⟩ | ⟨loc,cur,g1,g2,g3,g4,g5,g6,g7,g8,g9⟩
  ·subst g2;exact .inl ⟨g1,List.eq_nil_of_length_eq_zero (by simpa using h1.symm)⟩
  ·refine .inr ⟨loc,cur,g1,g2,g3,g4,by rw [← h1];exact g5,fun h=>by rw [← h1];exact g6 (hf h),g7,fun q hq=>?_,fun i q j l hi hj=>?_⟩
   ·obtain ⟨i,hi,rfl⟩:=List.getElem_of_mem hq;obtain ⟨e,he,hle⟩:=h2 i _ (List.getElem?_eq_getElem hi);rw [← (Fp hle).1];exact g8 e (List.mem_of_getElem? he)
   ·obtain ⟨e,he,hle⟩:=h2 i q hi;obtain ⟨l0,hl0,hl⟩:=(Fp hle).2 j l hj;obtain ⟨v,hv,hr,hc⟩:=g9 i e j l0 he hl0;exact ⟨v,hv,hl.rep hr,hl.cell hc⟩
 ·subst h;exact hr
theorem D3 {rs:Regs}:∀ {rs':Regs},Az rs rs'→∀ d r',(d,r')∈rs'→∃ r,(d,r)∈rs∧A3 r r'
 | [],_,d,r',h=>by cases h
 | (e,q) :: rest,h,d,r',hm=>by
  obtain ⟨h1,h2⟩:=h;rcases List.mem_cons.1 hm with hm | hm
  ·cases hm;split at h1
   ·rename_i r hr;exact ⟨r,Ax hr,h1⟩
   ·exact h1.elim
  ·exact D3 h2 d r' hm
theorem Md:∀ {rs:Regs},Ay rs→(rs.map (·.1)).Nodup
 | [],_=>.nil
 | (d,r) :: rest,h=>by simp only [List.map_cons,List.nodup_cons];exact ⟨h.1,Md h.2⟩
theorem J31 {s s':St} (ht:Aw s.tmps s'.tmps) (hr:Az s.regs s'.regs) (hk:Ay s'.regs):s.Le s':=by
 rintro Γ a w ⟨ms,hdef,β,Im,hx⟩;obtain ⟨h1,h2⟩:=Fp ht;refine ⟨ms,hdef,β,Im,{ hx with fit:={ size:=by rw [← h1];exact hx.fit.size,tmps:=fun i l hl=>?_,regs:=fun d r hd=>?_,nodup:=Md hk,live:=fun d r loc hd hl=>?_,apart:=fun d r d' r' l1 l2 hd hd' hne hl hl'=>?_,im:=hx.fit.im },regnew:=fun d r loc hd hl=>?_,marks:=fun D hD=>?_ }⟩
 ·obtain ⟨l0,hl0,hle⟩:=h2 i l hl;exact hle.rep (hx.fit.tmps i l0 hl0)
 ·obtain ⟨r0,h3,h4⟩:=D3 hr d r hd;exact h4.rep (hx.fit.regs d r0 h3)
 ·obtain ⟨r0,h3,h4⟩:=D3 hr d r hd;exact hx.fit.live d r0 loc h3 hl
 ·obtain ⟨r0,h3,_⟩:=D3 hr d r hd;obtain ⟨r1,h4,_⟩:=D3 hr d' r' hd';exact hx.fit.apart d r0 d' r1 l1 l2 h3 h4 hne hl hl'
 ·obtain ⟨r0,h3,h4⟩:=D3 hr d r hd;exact hx.regnew d r0 loc h3 hl
 ·obtain ⟨m1,m2,m3,m4⟩:=hx.marks D hD;refine ⟨m1,m2,m3,fun d r loc hd hl=>?_⟩;obtain ⟨r0,h3,_⟩:=D3 hr d r hd;exact m4 d r0 loc h3 hl
def Fb (d d' e:Nat):Option Nat:=if e=d then some d' else if e=d' then none else some e
def Eu (d d':Nat):Regs→Regs
 | []=>[]
 | (e,r) :: rest=>match Fb d d' e with
  | some n=>(n,r.map (Fb d d')) :: Eu d d' rest
  | none=>Eu d d' rest
def St.ren (d d':Nat) (s:St):St:=⟨s.tmps.map (L.map (Fb d d')),Eu d d' s.regs⟩
theorem C2 {d d' n:Nat} {q:Reg}:∀ {rs:Regs},(n,q)∈Eu d d' rs→∃ e r,(e,r)∈rs∧Fb d d' e=some n∧q=r.map (Fb d d')
 | [],h=>by cases h
 | (e,r) :: rest,h=>by
  simp only [Eu] at h;split at h
  ·rename_i m hm;rcases List.mem_cons.1 h with h | h
   ·cases h;exact ⟨e,r,List.mem_cons_self,hm,rfl⟩
   ·obtain ⟨e',r',h1,h2,h3⟩:=C2 h;exact ⟨e',r',List.mem_cons_of_mem _ h1,h2,h3⟩
  ·obtain ⟨e',r',h1,h2,h3⟩:=C2 h;exact ⟨e',r',List.mem_cons_of_mem _ h1,h2,h3⟩
theorem Jfd {d d' e e' n:Nat} (h:Fb d d' e=some n) (h':Fb d d' e'=some n):e=e':=by
 unfold Fb at h h';split at h <;> split at h'
 ·omega
 ·split at h' <;> simp_all
 ·split at h <;> simp_all
 ·split at h <;> split at h' <;> simp_all
theorem Hj {d d':Nat}:∀ {rs:Regs},(rs.map (·.1)).Nodup→((Eu d d' rs).map (·.1)).Nodup
 | [],_=>.nil
 | (e,r) :: rest,h=>by
  simp only [List.map_cons,List.nodup_cons] at h;simp only [Eu];split
  ·rename_i n hn;simp only [List.map_cons,List.nodup_cons];refine ⟨fun hm=>?_,Hj h.2⟩;obtain ⟨⟨n',q⟩,hq,he⟩:=List.mem_map.1 hm;simp only at he;subst he;obtain ⟨e',r',h1,h2,_⟩:=C2 hq;exact h.1 (List.mem_map.2 ⟨(e',r'),h1,Jfd h2 hn⟩)
  ·exact Hj h.2
theorem J2e (s:St) {d d':Nat} (hd':d'<1000∨500000≤d'):s.Le (s.ren d d'):=by
 rintro Γ a w ⟨ms,hdef,β,Im,hx⟩;have hf:∀ e n,Fb d d' e=some n→Jqm β d' (β d) n=β e:=by
  intro e n h;unfold Fb at h;split at h
  ·rename_i he;subst he;cases h;exact B4
  ·split at h
   ·cases h
   ·rename_i h1 h2;cases h;exact Oa h2
 refine ⟨ms,hdef,Jqm β d' (β d),Im,{ hx with fit:={ size:=by simpa [St.ren] using hx.fit.size,tmps:=fun i l hl=>?_,regs:=fun n q hm=>?_,nodup:=Hj hx.fit.nodup,live:=fun n q loc hm hl=>?_,apart:=fun n q n' q' l1 l2 hm hm' hne hl hl'=>?_,im:=hx.fit.im },regnew:=fun n q loc hm hl=>?_,fixed:=fun e he he'=>by rw [Oa omg];exact hx.fixed e he he',marks:=fun D hD=>?_ }⟩
 ·simp only [St.ren,List.getElem?_map] at hl;obtain ⟨l1,hl1,rfl⟩:=Option.map_eq_some_iff.1 hl;exact (hx.fit.tmps i l1 hl1).map hf
 ·obtain ⟨e,r,h1,h2,rfl⟩:=C2 hm;exact (hx.fit.regs e r h1).map hf (hf e n h2)
 ·obtain ⟨e,r,h1,h2,rfl⟩:=C2 hm;rw [hf e n h2] at hl;exact hx.fit.live e r loc h1 hl
 ·obtain ⟨e,r,h1,h2,rfl⟩:=C2 hm;obtain ⟨e',r',k1,k2,rfl⟩:=C2 hm';rw [hf e n h2] at hl;rw [hf e' n' k2] at hl';exact hx.fit.apart e r e' r' l1 l2 h1 k1 (fun hc=>hne (by subst hc;rw [h2] at k2;exact Option.some.inj k2)) hl hl'
 ·obtain ⟨e,r,h1,h2,rfl⟩:=C2 hm;rw [hf e n h2] at hl;exact hx.regnew e r loc h1 hl
 ·obtain ⟨m1,m2,m3,m4⟩:=hx.marks D hD;refine ⟨m1,m2,m3,fun n q loc hm hl=>?_⟩;obtain ⟨e,r,h1,h2,rfl⟩:=C2 hm;rw [hf e n h2] at hl;exact m4 e r loc h1 hl
def St.nilReg (d:Nat) (T:TypeId) (sz:Nat) (s:St):St:=⟨s.tmps.map (L.forget d),(d,.row T sz []) :: Cv d s.regs⟩
theorem RRx.nilReg {Γ:Base} {β:Env} {Im:Nat→Prop} {s:St} {tmps:Array Value} {w:World} (h:RRx Γ β Im s tmps w) {d:Nat} (hd:d<1000∨500000≤d) (T:TypeId) (sz:Nat):RRx Γ (Jqm β d none) Im (s.nilReg d T sz) tmps w:=by
 have hβ:∀ e,e≠d→Jqm β d none e=β e:=fun e he=>Oa he
 have h2:=h.fit.forget (d:=d) hβ;refine { h with fit:={ h2 with regs:=fun e q hq=>?_,nodup:=?_,live:=fun e q loc hq hl=>?_,apart:=fun e q e' q' loc loc' hq hq' hne hl hl'=>?_ },regnew:=fun e q loc hq hl=>?_,fixed:=fun e he he'=>by rw [hβ e omg];exact h.fixed e he he',marks:=fun D hD=>?_ }
 ·rcases List.mem_cons.1 hq with hq | hq
  ·cases hq;exact .inl ⟨B4,rfl⟩
  ·exact h2.regs e q hq
 ·simp only [St.nilReg,List.map_cons,List.nodup_cons];refine ⟨fun hm=>?_,h2.nodup⟩;obtain ⟨⟨e,q⟩,hq,he⟩:=List.mem_map.1 hm;exact (Bn hq).1 he
 ·rcases List.mem_cons.1 hq with hq | hq
  ·cases hq;rw [B4] at hl;cases hl
  ·exact h2.live e q loc hq hl
 ·rcases List.mem_cons.1 hq with hq | hq
  ·cases hq;rw [B4] at hl;cases hl
  ·rcases List.mem_cons.1 hq' with hq' | hq'
   ·cases hq';rw [B4] at hl';cases hl'
   ·exact h2.apart e q e' q' loc loc' hq hq' hne hl hl'
 ·rcases List.mem_cons.1 hq with hq | hq
  ·cases hq;rw [B4] at hl;cases hl
  ·obtain ⟨h3,q',h4,rfl⟩:=Bn hq;rw [hβ e h3] at hl;exact h.regnew e q' loc h4 hl
 ·obtain ⟨m1,m2,m3,m4⟩:=h.marks D hD;refine ⟨m1,m2,m3,fun e q loc hq hl=>?_⟩;rcases List.mem_cons.1 hq with hq | hq
  ·cases hq;rw [B4] at hl;cases hl
  ·obtain ⟨h3,q',h4,rfl⟩:=Bn hq;rw [hβ e h3] at hl;exact m4 e q' loc h4 hl
def Ms (j:Nat) (l:L):Reg→Reg
 | .var T cs=>.var T (cs.set j l)
 | r=>r
theorem Jq7 (s:St) {d:Nat}:s.Le (s.freeze d):=by
 rintro Γ a w ⟨ms,hdef,β,Im,hx⟩;obtain ⟨Im',h⟩:=hx.freeze d;exact ⟨ms,hdef,β,Im',h⟩
def cvF (P:Program) (a b:TypeId) (x:Operand) (dst:Option Tmp) (K:St→Prop) (s:St):Prop:=if Jsr P a=true then Jz1 P b (s.get x) (kput dst K s) else J1 P a b (s.get x) (kput dst K s)
def cvG (P:Program) (a b:TypeId) (s:St) (x:Operand) (dst:Option Tmp) (K:St→Prop) (l:L):Prop :=
 match l with
 | .ptr d 0 j=>L6 P a b d j (Am d s.regs) (kput dst K s)
 | .p (.str u)=>Og P a b u s dst K
 | _=>cvF P a b x dst K (s.freezeOps [x])
def lnil (l:L) (K:L→Prop):Prop :=
 match l with
 | .ptr d i j=>K (.ptr d i j)
 | .eptr cs=>K (.eptr cs)
 | .fn f ds=>K (.fn f ds)
 | _=>False
def Qk (l:L) (i:Nat) (K:L→Prop):Prop :=
 match l with
 | .tup xs=>∃ c,xs[i]? = some c∧K (.p c)
 | _=>False
def Jc0 (l a b:L) (K:L→Prop):Prop :=
 match l with
 | .p (.bool t)=>(t=true→K a)∧(t=false→K b)
 | _=>False
def Bi (X:Cx) (f:FuncId) (args:List L) (K:L→Prop):Prop:=∃ l,(Al X f args [] (fun m _=>m=l)∧l.retOK=true)∧K l
def lqvK (P:Program) (r:Regs) (s:St) (op:Op) (K:L→Prop):Prop:=∃ l,lqv P r s.get op l∧K l
section
variable {X:Cx} {ro:Option Nat} {Q:Ex→St→Prop} {K:St→Prop} {t:List L} {r:Regs} {ds:List (Option Tmp)} {rest:List Oper} {ty:TypeId} {ps:String} {af:Array Edge} {dst:Option Tmp}
theorem e_skip:lwp X ro .skip Q ⟨t,r⟩=Q .normal ⟨t,r⟩:=(rfl)
theorem Jid {id:Nat} {ops:Array Oper}:lwp X ro (.region id ops false) Q ⟨t,r⟩=lops X (ops.toList.map (·.dst)) ops.toList (Q .normal) ⟨t,r⟩:=(rfl)
theorem e_seq {a b:Code}:lwp X ro (a.seq b) Q ⟨t,r⟩=lwp X ro a (kseq (lwp X ro b) Q) ⟨t,r⟩:=(rfl)
theorem e_cond {c:Operand} {a b:Code}:lwp X ro (.cond c a b) Q ⟨t,r⟩=O0 ((St.mk t r).get c) (lwp X ro a Q) (lwp X ro b Q) ⟨t,r⟩:=(rfl)
theorem Jpi {id:Nat} {c:Code}:lwp X ro (.block id c) Q ⟨t,r⟩=lwp X ro c (Nq id Q) ⟨t,r⟩:=(rfl)
theorem e_loop {c:Code}:lwp X ro (.loop c) Q ⟨t,r⟩=SWP X ro (.loop c) Q ⟨t,r⟩:=(rfl)
theorem e_exit {id:Nat}:lwp X ro (.exit id) Q ⟨t,r⟩=Q (.exit id) ⟨t,r⟩:=(rfl)
theorem e_ret:lwp X ro .ret Q ⟨t,r⟩=Q .ret ⟨t,r⟩:=(rfl)
theorem Wj {B:(Ex→St→Prop)→St→Prop}:kseq B Q .normal ⟨t,r⟩=B Q ⟨t,r⟩:=(rfl)
theorem Jaq {B:(Ex→St→Prop)→St→Prop} {id:Nat}:kseq B Q (.exit id) ⟨t,r⟩=Q (.exit id) ⟨t,r⟩:=(rfl)
theorem Jf3 {B:(Ex→St→Prop)→St→Prop}:kseq B Q .ret ⟨t,r⟩=Q .ret ⟨t,r⟩:=(rfl)
theorem Qz {id:Nat}:Nq id Q .normal ⟨t,r⟩=Q .normal ⟨t,r⟩:=(rfl)
theorem Vo {id id':Nat}:Nq id Q (.exit id') ⟨t,r⟩=if id'=id then Q .normal ⟨t,r⟩ else Q (.exit id') ⟨t,r⟩:=(rfl)
theorem Z2 {id:Nat}:Nq id Q .ret ⟨t,r⟩=Q .ret ⟨t,r⟩:=(rfl)
theorem o_nil:lops X ds [] K ⟨t,r⟩=K ⟨t,r⟩:=(rfl)
theorem o_cons {op:Op}:lops X ds (⟨dst,op,ty,ps,af,none⟩ :: rest) K ⟨t,r⟩=lop X ⟨dst,op,ty,ps,af,none⟩ (lops X ds rest K) ⟨t,r⟩:=(rfl)
theorem Jpg {op:Op} {g:Nat×Bool}:lops X ds (⟨dst,op,ty,ps,af,some g⟩ :: rest) K ⟨t,r⟩=F4 ds (some g) (lop X ⟨dst,op,ty,ps,af,some g⟩ (lops X ds rest K)) (F9 dst (lops X ds rest K)) ⟨t,r⟩:=(rfl)
theorem q_nil:Jf X ds [] K ⟨t,r⟩=K ⟨t,r⟩:=(rfl)
theorem q_cons {op:Op}:Jf X ds (⟨dst,op,ty,ps,af,none⟩ :: rest) K ⟨t,r⟩=lqc X ⟨t,r⟩ ⟨dst,op,ty,ps,af,none⟩ (kput dst (Jf X ds rest K) ⟨t,r⟩):=(rfl)
theorem Joa {op:Op} {g:Nat×Bool}:Jf X ds (⟨dst,op,ty,ps,af,some g⟩ :: rest) K ⟨t,r⟩=F4 ds (some g) (kq X ⟨dst,op,ty,ps,af,some g⟩ (Jf X ds rest K)) (F9 dst (Jf X ds rest K)) ⟨t,r⟩:=(rfl)
theorem q_kq {o:Oper}:kq X o K ⟨t,r⟩=lqc X ⟨t,r⟩ o (kput o.dst K ⟨t,r⟩):=(rfl)
theorem k_put {d:Tmp} {l:L}:kput (some d) K ⟨t,r⟩ l=K ⟨t.set d l,r⟩:=(rfl)
theorem k_unit {d:Tmp}:F9 (some d) K ⟨t,r⟩=K ⟨t.set d (.tup []),r⟩:=(rfl)
theorem W2:F9 none K ⟨t,r⟩=K ⟨t,r⟩:=(rfl)
theorem s_put {d:Tmp} {l:L}:(St.mk t r).put (some d) l=⟨t.set d l,r⟩:=(rfl)
theorem s_tmp {i:Nat}:(St.mk t r).get (.tmp i)=t.getD i .junk:=(rfl)
theorem Jm9 {v:Value}:(St.mk t r).get (.const v)=G6 v:=(rfl)
theorem s_func {f:FuncId}:(St.mk t r).get (.func f)=.fn f []:=(rfl)
theorem v_bool {b:Bool}:G6 (.bool b)=.p (.bool b):=(rfl)
theorem v_int {k:IntKind} {n:Int}:G6 (.int k n)=.p (.int k n):=(rfl)
theorem v_str {a:Array UInt8}:G6 (.string ⟨a⟩)=.p (.str a.toList):=(rfl)
theorem v_snil:G6 (.slice none 0 0)=.p .snil:=(rfl)
theorem v_nptr:G6 (.pointer none)=.p .nptr:=(rfl)
theorem v_nmap:G6 (.map none)=.p .nmap:=(rfl)
theorem v_nifc:G6 .nilIface=.p .nifc:=(rfl)
theorem v_nfn:G6 .nilFunc=.p .nfn:=(rfl)
variable {g:Option (Nat×Bool)} {d:Tmp}
theorem p_move {x:Operand}:lop X ⟨dst,.move x,ty,ps,af,g⟩ K ⟨t,r⟩=kput dst K ⟨t,r⟩ ((St.mk t r).get x):=by cases dst <;> exact (rfl)
theorem Jl2 {x:Operand}:lop X ⟨dst,.assign x,ty,ps,af,g⟩ K ⟨t,r⟩=kput dst K ⟨t,r⟩ ((St.mk t r).get x):=by cases dst <;> exact (rfl)
theorem p_bin {op:BinOp} {tx ty':TypeId} {x y:Operand}:lop X ⟨dst,.binOp op tx x y ty',ty,ps,af,g⟩ K ⟨t,r⟩=lbin X.P op tx (D8 x || D8 y) ((St.mk t r).get x) ((St.mk t r).get y) (kput dst K ⟨t,r⟩):=by cases dst <;> exact (rfl)
theorem p_un {op:UnOp} {tx:TypeId} {x:Operand}:lop X ⟨dst,.unOp op tx x,ty,ps,af,g⟩ K ⟨t,r⟩=lun op ((St.mk t r).get x) (kput dst K ⟨t,r⟩):=by cases dst <;> exact (rfl)
theorem p_conv {a b:TypeId} {x:Operand}:lop X ⟨dst,.convert a b x,ty,ps,af,g⟩ K ⟨t,r⟩=cvG X.P a b ⟨t,r⟩ x dst K ((St.mk t r).get x):=by cases dst <;> exact (rfl)
theorem p_pick {c a b:Operand}:lop X ⟨dst,.pick c a b,ty,ps,af,g⟩ K ⟨t,r⟩=Jc0 ((St.mk t r).get c) ((St.mk t r).get a) ((St.mk t r).get b) (kput dst K ⟨t,r⟩):=by cases dst <;> exact (rfl)
theorem p_nil {x:Operand}:lop X ⟨dst,.nilCheck x,ty,ps,af,g⟩ K ⟨t,r⟩=lnil ((St.mk t r).get x) (kput dst K ⟨t,r⟩):=by cases dst <;> exact (rfl)
theorem p_load {tx:TypeId} {x:Operand}:lop X ⟨dst,.load tx x,ty,ps,af,g⟩ K ⟨t,r⟩=Jc X.P r tx ((St.mk t r).get x) (kput dst K ⟨t,r⟩):=by cases dst <;> exact (rfl)
theorem Jnh {tx:TypeId} {a x:Operand}:lop X ⟨dst,.store tx a x,ty,ps,af,g⟩ K ⟨t,r⟩=Nv X.P tx ⟨t,r⟩ a x (F9 dst K):=by cases dst <;> exact (rfl)
theorem Xg {tx:TypeId} {x:Operand} {f:Nat}:lop X ⟨dst,.fieldAddr tx x f,ty,ps,af,g⟩ K ⟨t,r⟩=D2 X.P tx ((St.mk t r).get x) f (kput dst K ⟨t,r⟩):=by cases dst <;> exact (rfl)
theorem Yf {tx:TypeId} {x i:Operand}:lop X ⟨dst,.indexAddr tx x i,ty,ps,af,g⟩ K ⟨t,r⟩=Dg X.P r tx ((St.mk t r).get x) ((St.mk t r).get i) (kput dst K ⟨t,r⟩):=by cases dst <;> exact (rfl)
theorem Jnn {tx:TypeId} {x i:Operand}:lop X ⟨dst,.index tx x i,ty,ps,af,g⟩ K ⟨t,r⟩=Ix X.P tx ((St.mk t r).get x) ((St.mk t r).get i) (kput dst K ⟨t,r⟩):=by cases dst <;> exact (rfl)
def slG (P:Program) (o:Oper) (tx:TypeId) (x:Operand) (lo hi:Option Operand) (dst:Option Tmp) (K:St→Prop) (s:St) (l:L):Prop :=
 match l with
 | .ptr d 0 0=>larr P tx s d lo hi (kput dst K) (Am d s.regs)
 | _=>G2 P s.regs tx s.get x lo hi none (kput dst K s)
theorem Jpn {tx:TypeId} {x:Operand} {lo hi:Option Operand}:lop X ⟨dst,.slice tx x lo hi none,ty,ps,af,g⟩ K ⟨t,r⟩=slG X.P ⟨dst,.slice tx x lo hi none,ty,ps,af,g⟩ tx x lo hi dst K ⟨t,r⟩ ((St.mk t r).get x):=by cases dst <;> exact (rfl)
theorem Jf5 {x:Operand} {i:Nat}:lop X ⟨dst,.extract x i,ty,ps,af,g⟩ K ⟨t,r⟩=Qk ((St.mk t r).get x) i (kput dst K ⟨t,r⟩):=by cases dst <;> exact (rfl)
theorem Jm5 {tx:TypeId} {pt:Array (Nat×Operand)}:lop X ⟨dst,.build tx pt,ty,ps,af,g⟩ K ⟨t,r⟩=Vf X.P tx (pt.toList.map fun (i,x)=>(i,(St.mk t r).get x)) (kput dst K ⟨t,r⟩):=by cases dst <;> exact (rfl)
theorem Jb7 {f:FuncId} {caps:Array Operand}:lop X ⟨dst,.makeFunc (.func f) #[] caps,ty,ps,af,g⟩ K ⟨t,r⟩=Jmn f (caps.toList.map (St.mk t r).get) (kput dst K ⟨t,r⟩):=by cases dst <;> simp only [lop,lq,true_and]
theorem p_len {x:Operand} {tx:TypeId}:lop X ⟨dst,.call { callee:=.builtin .len,args:=#[x],argTypes:=#[tx] },ty,ps,af,g⟩ K ⟨t,r⟩=llen X.P tx ((St.mk t r).get x) (kput dst K ⟨t,r⟩):=by cases dst <;> exact (rfl)
theorem p_max {args:Array Operand} {ats:Array TypeId}:lop X ⟨dst,.call { callee:=.builtin .max,args:=args,argTypes:=ats },ty,ps,af,g⟩ K ⟨t,r⟩=Fj true (args.toList.map (St.mk t r).get) (kput dst K ⟨t,r⟩):=by cases dst <;> exact (rfl)
theorem p_min {args:Array Operand} {ats:Array TypeId}:lop X ⟨dst,.call { callee:=.builtin .min,args:=args,argTypes:=ats },ty,ps,af,g⟩ K ⟨t,r⟩=Fj false (args.toList.map (St.mk t r).get) (kput dst K ⟨t,r⟩):=by cases dst <;> exact (rfl)
theorem Jn4 {T:TypeId}:lop X ⟨some d,.alloc T,ty,ps,af,g⟩ K ⟨t,r⟩=Wg X.P d T ⟨t,r⟩ K:=(rfl)
theorem p_box {T:TypeId} {x:Operand}:lop X ⟨some d,.box T x,ty,ps,af,g⟩ K ⟨t,r⟩=lbox d T ⟨t,r⟩ x K:=(rfl)
theorem V7 {tx:TypeId} {n:Nat} {pt:Array (Nat×Operand)}:lop X ⟨some d,.buildSlice tx n pt,ty,ps,af,g⟩ K ⟨t,r⟩=(if X.keep tx=true then n=pt.toList.length∧Jvq X.P d tx ⟨t,r⟩ pt.toList K else Fo X.P d tx n ⟨t,r⟩ pt.toList K):=(rfl)
theorem Yp {tx:TypeId} {l c:Operand}:lop X ⟨some d,.makeSlice tx l c,ty,ps,af,g⟩ K ⟨t,r⟩=Gl X.P d tx ⟨t,r⟩ l c K:=(rfl)
theorem p_copy {x y:Operand} {t1 t2:TypeId}:lop X ⟨dst,.call { callee:=.builtin .copy,args:=#[x,y],argTypes:=#[t1,t2] },ty,ps,af,g⟩ K ⟨t,r⟩=Tv X.P t1 t2 ⟨t,r⟩ x y (kput dst K):=(rfl)
theorem Jms {x y:Operand} {t1 t2:TypeId}:lop X ⟨some d,.call { callee:=.builtin .append,args:=#[x,y],argTypes:=#[t1,t2] },ty,ps,af,g⟩ K ⟨t,r⟩=(if X.keep t1=true then t2=t1∧Jwx X.P d t1 ⟨t,r⟩ x y K else Kk X.P d t1 t2 ⟨t,r⟩ x y K):=(rfl)
theorem p_call {f:Operand} {args:Array Operand} {ats:Array TypeId}:lop X ⟨dst,.call { callee:=.value f,args:=args,argTypes:=ats },ty,ps,af,g⟩ K ⟨t,r⟩=Jc1 X ⟨t,r⟩ f args.toList dst K:=by cases dst <;> exact (rfl)
theorem Jgq {tx:TypeId}:lop X ⟨some d,.makeMap tx none,ty,ps,af,g⟩ K ⟨t,r⟩=Mk d ⟨t,r⟩ K:=(rfl)
theorem Jp6 {tx:TypeId} {x:Operand}:lop X ⟨some d,.range tx x,ty,ps,af,g⟩ K ⟨t,r⟩=Wr X.P d tx ⟨t,r⟩ x K:=(rfl)
theorem p_next {it:Operand} {b:Bool}:lop X ⟨dst,.next it b,ty,ps,af,g⟩ K ⟨t,r⟩=Wv ⟨t,r⟩ it b (kput dst K):=by cases dst <;> exact (rfl)
theorem Jn8 {it:Operand}:lop X ⟨dst,.entry it,ty,ps,af,g⟩ K ⟨t,r⟩=Ri ⟨t,r⟩ it (kput dst K ⟨t,r⟩):=by cases dst <;> exact (rfl)
theorem Zf {tx:TypeId} {m k v:Operand}:lop X ⟨dst,.mapUpdate tx m k v,ty,ps,af,g⟩ K ⟨t,r⟩=Dq X.P tx ⟨t,r⟩ m k v (F9 dst K):=by cases dst <;> exact (rfl)
theorem J1v {tx:TypeId} {m k:Operand}:lop X ⟨dst,.mapEntry tx m k,ty,ps,af,g⟩ K ⟨t,r⟩=Jr0 X.P tx ⟨t,r⟩ m k (kput dst K):=by cases dst <;> exact (rfl)
theorem Jz8 {tx:TypeId} {m k v:Operand}:lop X ⟨dst,.entryStore tx m k v,ty,ps,af,g⟩ K ⟨t,r⟩=Jrb ⟨t,r⟩ m k v (F9 dst K):=by cases dst <;> exact (rfl)
theorem Ji2 {tx:TypeId} {m k v:Operand}:lop X ⟨dst,.insert tx m k v,ty,ps,af,g⟩ K ⟨t,r⟩=Dq X.P tx ⟨t,r⟩ m k v (F9 dst K):=by cases dst <;> exact (rfl)
theorem Jkk {m k:Operand} {t1 t2:TypeId}:lop X ⟨dst,.call { callee:=.builtin .delete,args:=#[m,k],argTypes:=#[t1,t2] },ty,ps,af,g⟩ K ⟨t,r⟩=Kq X.P t1 ⟨t,r⟩ m k (F9 dst K):=by cases dst <;> exact (rfl)
def usR (P:Program) (o:Option TypeDesc) (d:Nat) (n:Int) (s:St) (N:St→L→Prop) (q:Option Reg):Prop :=
 match q with
 | some (.row T 1 es)=>o=some (.pointer T)∧P.cellsOf T=1∧∃ bs,Cw es=some bs∧n=bs.length∧bs≠[]∧bs.length≤9223372036854775807∧N (s.forget d) (.p (.str bs))
 | _=>False
def usT (P:Program) (o:Option TypeDesc) (d:Nat) (s:St) (N:St→L→Prop) (ly:L):Prop :=
 match ly with
 | .p (.int .i64 n)=>usR P o d n s N (Am d s.regs)
 | _=>False
def Jd1 (X:Cx) (t1:TypeId) (dst:Option Tmp) (y:Operand) (K:St→Prop) (s:St) (l:L):Prop :=
 match l with
 | .p .nptr=>(∃ k,s.get y=.p (.int k 0))∧K (s.put dst (.p (.str [])))
 | .ptr d 0 0=>usT X.P (X.P.underlying t1) d s (kput dst K) (s.get y)
 | _=>False
theorem p_ustr {x y:Operand} {t1 t2:TypeId}:lop X ⟨dst,.call { callee:=.builtin .unsafeString,args:=#[x,y],argTypes:=#[t1,t2] },ty,ps,af,g⟩ K ⟨t,r⟩=Jd1 X t1 dst y K ⟨t,r⟩ ((St.mk t r).get x):=by
 have h:lop X ⟨dst,.call { callee:=.builtin .unsafeString,args:=#[x,y],argTypes:=#[t1,t2] },ty,ps,af,g⟩ K ⟨t,r⟩=Jd6 X ⟨dst,.call { callee:=.builtin .unsafeString,args:=#[x,y],argTypes:=#[t1,t2] },ty,ps,af,g⟩ dst [x,y] [t1,t2] ⟨t,r⟩ K:=by cases dst <;> exact (rfl)
 rw [h];unfold Jd6 Jd1;simp only;split
 ·rename_i hx;rw [hx];apply propext;constructor
  ·rintro ⟨l,⟨_,h1,rfl⟩,hK⟩;exact ⟨h1,hK⟩
  ·rintro ⟨h1,hK⟩;exact ⟨_,⟨hx,h1,rfl⟩,hK⟩
 ·rename_i hx;split
  ·rename_i hy;exact absurd hy hx
  ·rename_i d hy;unfold Gn usT usR;rw [hy];cases hq:(St.mk t r).get y with
   | p v =>
    cases v with
    | int k n=>cases k <;> rfl
    | _=>rfl
   | _=>rfl
  ·rename_i h1 h2;unfold Gn;cases hq:(St.mk t r).get x with
   | ptr d i j =>
    cases i with
    | zero=>cases j with
     | zero=>exact absurd hq (h2 d)
     | succ j=>rfl
    | succ i=>rfl
   | _=>rfl
theorem Jpz {tx:TypeId} {x:Operand}:lop X ⟨dst,.makeInterface tx x,ty,ps,af,g⟩ K ⟨t,r⟩=lqvK X.P r ⟨t,r⟩ (.makeInterface tx x) (kput dst K ⟨t,r⟩):=by cases dst <;> exact (rfl)
theorem Ji3 {tx:TypeId} {x i:Operand} {b:Bool}:lop X ⟨dst,.lookup tx x i b,ty,ps,af,g⟩ K ⟨t,r⟩=lqvK X.P r ⟨t,r⟩ (.lookup tx x i b) (kput dst K ⟨t,r⟩):=by cases dst <;> exact (rfl)
variable {C:L→Prop}
theorem q_move {x:Operand}:lqc X ⟨t,r⟩ ⟨dst,.move x,ty,ps,af,g⟩ C=C ((St.mk t r).get x):=(rfl)
theorem Ji7 {x:Operand}:lqc X ⟨t,r⟩ ⟨dst,.assign x,ty,ps,af,g⟩ C=C ((St.mk t r).get x):=(rfl)
theorem q_bin {op:BinOp} {tx ty':TypeId} {x y:Operand}:lqc X ⟨t,r⟩ ⟨dst,.binOp op tx x y ty',ty,ps,af,g⟩ C=lbin X.P op tx (D8 x || D8 y) ((St.mk t r).get x) ((St.mk t r).get y) C:=(rfl)
theorem q_un {op:UnOp} {tx:TypeId} {x:Operand}:lqc X ⟨t,r⟩ ⟨dst,.unOp op tx x,ty,ps,af,g⟩ C=lun op ((St.mk t r).get x) C:=(rfl)
theorem q_conv {a b:TypeId} {x:Operand}:lqc X ⟨t,r⟩ ⟨dst,.convert a b x,ty,ps,af,g⟩ C=J1 X.P a b ((St.mk t r).get x) C:=(rfl)
theorem q_pick {c a b:Operand}:lqc X ⟨t,r⟩ ⟨dst,.pick c a b,ty,ps,af,g⟩ C=Jc0 ((St.mk t r).get c) ((St.mk t r).get a) ((St.mk t r).get b) C:=(rfl)
theorem Jb4 {x:Operand}:lqc X ⟨t,r⟩ ⟨dst,.nilCheck x,ty,ps,af,g⟩ C=lnil ((St.mk t r).get x) C:=(rfl)
theorem q_load {tx:TypeId} {x:Operand}:lqc X ⟨t,r⟩ ⟨dst,.load tx x,ty,ps,af,g⟩ C=Jc X.P r tx ((St.mk t r).get x) C:=(rfl)
theorem Za {tx:TypeId} {x:Operand} {f:Nat}:lqc X ⟨t,r⟩ ⟨dst,.fieldAddr tx x f,ty,ps,af,g⟩ C=D2 X.P tx ((St.mk t r).get x) f C:=(rfl)
theorem W3 {tx:TypeId} {x i:Operand}:lqc X ⟨t,r⟩ ⟨dst,.indexAddr tx x i,ty,ps,af,g⟩ C=Dg X.P r tx ((St.mk t r).get x) ((St.mk t r).get i) C:=(rfl)
theorem Jo0 {tx:TypeId} {x:Operand} {lo hi mx:Option Operand}:lqc X ⟨t,r⟩ ⟨dst,.slice tx x lo hi mx,ty,ps,af,g⟩ C=G2 X.P r tx (St.mk t r).get x lo hi mx C:=(rfl)
theorem Jhf {x:Operand} {i:Nat}:lqc X ⟨t,r⟩ ⟨dst,.extract x i,ty,ps,af,g⟩ C=Qk ((St.mk t r).get x) i C:=(rfl)
theorem q_len {x:Operand} {tx:TypeId}:lqc X ⟨t,r⟩ ⟨dst,.call { callee:=.builtin .len,args:=#[x],argTypes:=#[tx] },ty,ps,af,g⟩ C=llen X.P tx ((St.mk t r).get x) C:=(rfl)
theorem q_max {args:Array Operand} {ats:Array TypeId}:lqc X ⟨t,r⟩ ⟨dst,.call { callee:=.builtin .max,args:=args,argTypes:=ats },ty,ps,af,g⟩ C=Fj true (args.toList.map (St.mk t r).get) C:=(rfl)
theorem Jza {tx:TypeId} {n:Nat} {pt:Array (Nat×Operand)}:lqc X ⟨t,r⟩ ⟨dst,.buildSlice tx n pt,ty,ps,af,g⟩ C=lqbs X.P ⟨t,r⟩ tx n pt.toList C:=(rfl)
theorem q_usd {x:Operand} {tx:TypeId}:lqc X ⟨t,r⟩ ⟨dst,.call { callee:=.builtin .unsafeSliceData,args:=#[x],argTypes:=#[tx] },ty,ps,af,g⟩ C=lqvK X.P r ⟨t,r⟩ (.call { callee:=.builtin .unsafeSliceData,args:=#[x],argTypes:=#[tx] }) C:=(rfl)
theorem q_call {f:FuncId} {args:Array Operand} {ats:Array TypeId}:lqc X ⟨t,r⟩ ⟨dst,.call { callee:=.value (.func f),args:=args,argTypes:=ats },ty,ps,af,g⟩ C=Bi X f (args.toList.map (St.mk t r).get) C:=(rfl)
end
end Go.LX
