/- Loops with one state behind them; small lemmas for the steps. -/
import Derived.Test.YtaghbedfogiopaaGreatDoorLxK
import Derived.Lib.LaidTab
set_option linter.unusedSimpArgs false
set_option linter.unusedVariables false
set_option linter.unusedSectionVars false
set_option linter.unnecessarySimpa false
namespace Go.LX
open Go Go.RowKit Go.Proofs
theorem iteI {c:Prop} [Decidable c] {A B:Prop} (h1:c->A) (h2:¬ c->B):if c then A else B:=by
 by_cases h:c
 ·rw [if_pos h];exact h1 h
 ·rw [if_neg h];exact h2 h
theorem Ac {l:List UInt8}:(l=[])=(l.length=0):=by simp
theorem Ja0 {n:Nat}:((n:Int) - 1).toNat=n - 1:=by omega
theorem Jcc {a b:Nat}:((a:Int) - b).toNat=a - b:=by omega
theorem Ja7 {n:Nat}:((n:Int)+1).toNat=n+1:=by omega
theorem Jak {a b:Nat}:((a:Int)+b).toNat=a+b:=by omega
theorem Ak {α:Type} {l:List α} {i:Nat} {Q:α->Prop} (h:i<l.length) (hq:∀ a,l[i]? = some a->Q a):∃ a,l[i]? = some a/\Q a:=⟨l[i],Eaa h,hq _ (Eaa h)⟩
def kun (A:St->Prop) (Q:Ex->St->Prop):Ex->St->Prop
 | .normal,s=>A s
 | .exit id,s=>Q (.exit id) s
 | .ret,s=>Q .ret s
def rounds (X:Cx) (ro:Option Nat) (c:Code) (Q:Ex->St->Prop):Nat->St->Prop
 | 0,_=>False
 | n+1,s=>SWP X ro c (kun (rounds X ro c Q n) Q) s
theorem kun_n {A:St->Prop} {Q:Ex->St->Prop} {t:List L} {r:Regs}:kun A Q .normal ⟨t,r⟩=A ⟨t,r⟩:=(rfl)
theorem kun_e {A:St->Prop} {Q:Ex->St->Prop} {t:List L} {r:Regs} {id:Nat}:kun A Q (.exit id) ⟨t,r⟩=Q (.exit id) ⟨t,r⟩:=(rfl)
theorem kun_r {A:St->Prop} {Q:Ex->St->Prop} {t:List L} {r:Regs}:kun A Q .ret ⟨t,r⟩=Q .ret ⟨t,r⟩:=(rfl)
theorem SWP.rounds {X:Cx} {ro:Option Nat} {c:Code} {Q:Ex->St->Prop} {s:St} (n:Nat) (h:rounds X ro c Q n s):SWP X ro (.loop c) Q s:=by
 intro Γ a w hG hr;have key:∀ n s,LX.rounds X ro c Q n s->∀ a w,RR Γ s a w->∀ (b:Frame) (k:List Item) (cs:List Frame),b.roundOf=(F0 ro).round->(F0 ro).fn b.fn->(F0 ro).room (cs.length+1+1) ->
   ∃ e a' w',QQ Γ Q e a' w'/\ArrivesIn (Machine.fenced X.P (F0 ro)) X.P (lone (b.atR a (.code c :: .inLoop c :: k)) cs w) b k cs e a' w':=by
  intro n
  induction n with
  | zero=>intro s h;exact h.elim
  | succ n ih =>
   intro s hs a w hr b k cs hro hb hroom;obtain ⟨e,a₁,w₁,hq,harr⟩:=hs Γ a w hG hr b (.inLoop c :: k) cs hro hb hroom;cases e with
   | normal =>
    obtain ⟨s',h1,h2⟩:=hq;obtain ⟨e₂,a₂,w₂,hq₂,harr₂⟩:=ih s' h1 a₁ w₁ h2 b k cs hro hb hroom;exact ⟨e₂,a₂,w₂,hq₂,.of_steps (StepsIn.trans harr (.one (fenced_calm hb hroom rfl) stepR_inLoop)) harr₂⟩
   | exit id =>
    obtain ⟨s',h1,h2⟩:=hq;exact ⟨.exit id,a₁,w₁,⟨s',h1,h2⟩,.pass (x:=.inLoop c) rfl (fun _ _=>.inl sm) harr⟩
   | ret =>
    obtain ⟨s',h1,h2⟩:=hq;exact ⟨.ret,a₁,w₁,⟨s',h1,h2⟩,.pass (x:=.inLoop c) rfl (fun _ _=>.inl sm) harr⟩
   | goto l=>exact hq.elim
   | panic ch=>exact hq.elim
   | outgrown=>exact hq.elim
 intro b k cs hro hb hroom;obtain ⟨e,a',w',hq,harr⟩:=key n s h a w hr b k cs hro hb hroom;exact ⟨e,a',w',hq,.of_steps (.one (fenced_calm hb hroom rfl) stepR_loop) harr⟩
theorem Js9 {β:Env} {w w':World} {Im:Nat->Prop} {args:List L} {rs:Regs} {tmps:Array Value} (hf:Fit β w Im ⟨args,rs⟩ tmps) (h:Below w.heap.size w w'):CallStep β w Im rs β w' Im rs :=
 {
  os:=h.os,tape:=h.tape,output:=h.output,size:=h.size,block:=fun k hk _=>h.block k hk,imin:=fun _ h=>h,imnew:=fun _ h=>.inl h,env:=fun _ _ _=>rfl,keys:=fun d r hd=>.inr ⟨r,hd⟩,regnew:=fun d r loc hd hl=>.inr ⟨d,r,loc,hd,hl,rfl⟩
  fit:=by
   have g:Grow w Im w' Im:=⟨h.os,h.tape,h.output,h.size,h.block,fun _ h=>h,fun _ h=>.inl h,fun b hb=>Ebd (hf.im b hb) h.size⟩
   have:=hf.grow g;exact { size:=rfl,tmps:=fun i l h=>by simp at h,regs:=this.regs,nodup:=this.nodup,live:=this.live,apart:=this.apart,im:=this.im } }
theorem Jr1 {X:Cx} {f:FuncId} {args:List L} {rs:Regs} {l:L} {v:Value} (hent:Enters X.P f) (_:l.retOK=true) (hv:∀ β w Im,LRep β w Im v l)
  (h:∀ (β:Env) (Im:Nat->Prop) (w:World) (vs:List Value),X.G w Im->Fit β w Im ⟨args,rs⟩ ⟨vs⟩->Calls X.P f ⟨vs⟩ w fun e w'=>e=.returned v/\Below w.heap.size w w'):Det X f args rs l rs :=
 ⟨hent,fun β Im w vs hg hf=>(h β Im w vs hg hf).mono fun _ w' ⟨he,hb⟩=>⟨v,l,rs,β,Im,he,⟨rfl,rfl⟩,hv _ _ _,Js9 hf hb⟩⟩
theorem Jw9 {X:Cx} {f:FuncId} {args:List L} {rs:Regs} {l:L} (hent:Enters X.P f)
  (h:∀ (β:Env) (Im:Nat->Prop) (w:World) (vs:List Value),X.G w Im->Fit β w Im ⟨args,rs⟩ ⟨vs⟩->Calls X.P f ⟨vs⟩ w fun e w'=>(∃ v,e=.returned v/\∀ β w Im,LRep β w Im v l)/\Below w.heap.size w w'):Det X f args rs l rs :=
 ⟨hent,fun β Im w vs hg hf=>(h β Im w vs hg hf).mono fun _ w' ⟨⟨v,he,hv⟩,hb⟩=>⟨v,l,rs,β,Im,he,⟨rfl,rfl⟩,hv _ _ _,Js9 hf hb⟩⟩
theorem Jn2 {β:Env} {w:World} {Im:Nat->Prop} {v:Value} {t:TypeId} {k:IntKind} {n:Int} (h:LRep β w Im v (.p (.ifi t k n))):v=.iface t (.int k n):=by cases h;rfl
theorem fit1 {β:Env} {w:World} {Im:Nat->Prop} {a:L} {rs:Regs} {vs:List Value} (h:Fit β w Im ⟨[a],rs⟩ ⟨vs⟩):∃ v,vs=[v]/\LRep β w Im v a:=by
 have hs:=h.size
 match vs,hs with
 | [v],_=>exact ⟨v,rfl,h.tmps 0 a rfl⟩
theorem fit2 {β:Env} {w:World} {Im:Nat->Prop} {a b:L} {rs:Regs} {vs:List Value} (h:Fit β w Im ⟨[a,b],rs⟩ ⟨vs⟩):∃ v u,vs=[v,u]/\LRep β w Im v a/\LRep β w Im u b:=by
 have hs:=h.size
 match vs,hs with
 | [v,u],_=>exact ⟨v,u,rfl,h.tmps 0 a rfl,h.tmps 1 b rfl⟩
theorem fit3 {β:Env} {w:World} {Im:Nat->Prop} {a b c:L} {rs:Regs} {vs:List Value} (h:Fit β w Im ⟨[a,b,c],rs⟩ ⟨vs⟩):∃ v u x,vs=[v,u,x]/\LRep β w Im v a/\LRep β w Im u b/\LRep β w Im x c:=by
 have hs:=h.size
 match vs,hs with
 | [v,u,x],_=>exact ⟨v,u,x,rfl,h.tmps 0 a rfl,h.tmps 1 b rfl,h.tmps 2 c rfl⟩
theorem Ks {β:Env} {w:World} {Im:Nat->Prop} {v:Value} {s:List UInt8} (h:LRep β w Im v (.p (.str s))):v=.string ⟨⟨s⟩⟩:=by cases h;rfl
theorem Mz {β:Env} {w:World} {Im:Nat->Prop} {v:Value} {k:IntKind} {n:Int} (h:LRep β w Im v (.p (.int k n))):v=.int k n:=by cases h;rfl
theorem Na {β:Env} {w:World} {Im:Nat->Prop} {v:Value} {b:Bool} (h:LRep β w Im v (.p (.bool b))):v=.bool b:=by cases h;rfl
theorem Kgm {β:Env} {w:World} {Im:Nat->Prop} {v:Value} {f:FuncId} (h:LRep β w Im v (.fn f [])):v=.func (.func f) #[] #[]:=by
 obtain ⟨vs,hv,hl,_⟩:=h;cases vs with
 | nil=>exact hv
 | cons a l=>simp at hl
theorem Det.calls_below {X:Cx} {f:FuncId} {args:List L} {l:L} (h:Det X f args [] l []) {w:World} {Im:Nat->Prop} (hg:X.G w Im) (hi:∀ b,Im b->b<w.heap.size) {vs:List Value} (hl:vs.length=args.length)
  (ha:∀ (i:Nat) (v:Value) (a:L),vs[i]? = some v->args[i]? = some a->LRep (fun _=>none) w Im v a) {v:Value} (hu:∀ β w' Im' u,LRep β w' Im' u l->u=v):Calls X.P f ⟨vs⟩ w fun e w'=>e=.returned v/\Below w.heap.size w w':=by
 refine (h.2 (fun _=>none) Im w vs hg ?_).mono fun e w' ⟨u,m,rs',β',Im',he,⟨hm,_⟩,hr,hc⟩=>?_
 ·exact {
      size:=by simpa using hl,tmps:=fun i a ha'=>by
       obtain ⟨u,hu'⟩:=getElem?_of_length hl ha';have e:(⟨vs⟩:Array Value).getD i undef=u:=by simp [Eas,hu']
       rw [e];exact ha i u a hu' ha'
      regs:=fun d r h=>(by cases h),nodup:=.nil,live:=fun d r loc h=>(by cases h),apart:=fun d r d' r' l1 l2 h=>(by cases h),im:=hi }
 ·subst hm;have:=hu _ _ _ _ hr;subst this;exact ⟨he,⟨hc.os,hc.tape,hc.output,hc.size,fun k hk=>hc.block k hk fun d r loc h=>(by cases h)⟩⟩
section
variable {X:Cx} {ro:Option Nat} {md:Region.Mode} {ops:Array Oper}
def ancB (md:Region.Mode) (ops:Array Oper):Nat->Nat->Nat->Bool
 | 0,_,_=>false
 | f+1,i,j=>match ops[j]? with
  | some o=>o.after.toList.any (fun e=>Region.binds md e && e.on == i) || o.after.toList.any (fun e=>Region.binds md e && ancB md ops f i e.on)
  | none=>false
def Y0 (md:Region.Mode) (ops:Array Oper) (k:Nat):Bool :=
 (List.range ops.size).all fun j=>decide (j<k) || (List.range j).all fun i=>ancB md ops ops.size i j
def Down (md:Region.Mode) (ops:Array Oper) (listed:Array Bool):Prop :=
 ∀ i o,ops[i]? = some o->listed.getD i false=true->∀ e∈o.after,Region.binds md e=true->listed.getD e.on false=true
theorem Qb {listed:Array Bool} (hd:Down md ops listed):∀ (f i j:Nat) (o:Oper),ops[j]? = some o->(∀ e∈o.after,Region.binds md e=true->listed.getD e.on false=true)->ancB md ops f i j=true->listed.getD i false=true
 | 0,_,_,_,_,_,h=>by cases h
 | f+1,i,j,o,ho,hall,h=>by
  simp only [ancB,ho,Eb4,List.any_eq_true,Ebb,beq_iff_eq] at h;rcases h with ⟨e,he,hb,rfl⟩ | ⟨e,he,hb,ha⟩
  ·exact hall e (by simpa using he) hb
  ·have hl:=hall e (by simpa using he) hb;cases hoe:ops[e.on]? with
   | none =>
    cases f with
    | zero=>cases ha
    | succ f=>simp [ancB,hoe] at ha
   | some oe=>exact Qb hd f i e.on oe hoe (fun e' he' hb'=>hd e.on oe hoe hl e' he' hb') ha
theorem Hn {listed:Array Bool} {j:Nat}:listed.getD j true=false ↔ j<listed.size/\listed.getD j false=false:=by
 simp only [Eas];by_cases h:j<listed.size
 ·simp [h]
 ·simp [h]
theorem Down.set {listed:Array Bool} (hd:Down md ops listed) {i:Nat} (hi:i∈Region.ready md ops listed):Down md ops (listed.setIfInBounds i true):=by
 obtain ⟨h0,oi,hoi,hall⟩:=mem_ready.1 hi;intro j o ho hl e he hb;by_cases hji:j=i
 ·subst hji;rw [hoi] at ho;cases ho;exact getD_set_true (hall e he hb)
 ·have:listed.getD j false=true:=by
   rw [<- hl];simp [Eas,Array.getElem?_setIfInBounds_ne (Ne.symm hji)]
  exact getD_set_true (hd j o ho this e he hb)
theorem Sj {k:Nat} (hT:Y0 md ops k=true) {listed:Array Bool} (hd:Down md ops listed) {j:Nat} (hj:j∈Region.ready md ops listed) (hk:k<=j):∀ i,i<j->listed.getD i false=true:=by
 obtain ⟨_,o,ho,hall⟩:=mem_ready.1 hj;intro i hi;simp only [Y0,Ebw,List.mem_range,Eb4,decide_eq_true_eq] at hT;have h1:=hT j (Ea5.1 ho).1;rcases h1 with h1 | h1
 ·omega
 ·exact Qb hd _ i j o ho hall (h1 i hi)
def Ty (X:Cx) (md:Region.Mode) (ops:Array Oper) (k:Nat) (K:St->Prop):Nat->Array Bool->St->Prop
 | 0,listed,s=>Region.ready md ops listed=[]/\K s
 | fuel+1,listed,s=>(Region.ready md ops listed=[]->K s) /\
  ∀
   i∈Region.ready md ops listed,∀ o,ops[i]? = some o ->
   (i<k->YS X (ops.toList.map (·.dst)) s o fun l=>Ty X md ops k K fuel (listed.setIfInBounds i true) (s.put o.dst l)) /\
   (k<=i->∃ C:St->Prop,lAt X (ops.toList.map (·.dst)) ops.toList i C s/\∀ s',C s'->Ty X md ops k K fuel (listed.setIfInBounds i true) s')
theorem G0 {Γ:Base} {k:Nat} {K:St->Prop} {Q:Exit->Act->World->Prop} {n:Nat} (hG:Γ.G=X.G) (hQ:∀ s a w,K s->RR Γ s a w->Q .normal a w):∀ (fuel:Nat) (listed:Array Bool) (s:St) (a:Act) (w:World),RR Γ s a w ->
  Ty X md ops k K fuel listed s->wpAnyIn (F0 ro) n X.P md ops Q fuel listed a w
 | 0,_,s,a,w,h,hl=>⟨hl.1,hQ s a w hl.2 h⟩
 | fuel+1,_,s,a,w,h,hl=>⟨fun h0=>hQ s a w (hl.1 h0) h,fun i hi=>by
   obtain ⟨_,o,ho,_⟩:=mem_ready.1 hi;by_cases hk:i<k
   ·exact Zy ho hG h ((hl.2 i hi o ho).1 hk) fun l a' w' h1 h2=>G0 hG hQ fuel _ _ a' w' h2 h1
   ·obtain ⟨C,hA,hC⟩:=(hl.2 i hi o ho).2 omg;exact wpOpIn_mono (fun a' w' ⟨s',hs,hr'⟩=>G0 hG hQ fuel _ s' a' w' hr' (hC s' hs)) (Uc hG h hA)⟩
theorem Y9 {k:Nat} (hT:Y0 md ops k=true) {K:St->Prop} {i:Nat} {oi:Oper} {v:L} (hi:ops[i]? = some oi) (hik:i<k):∀ (fuel:Nat) (listed:Array Bool) (s:St),Down md ops listed ->
   (∀ j oj,ops[j]? = some oj->j≠i->listed.getD j true=false->(∀ e∈oj.after,Region.binds md e=true->e.on≠i)->oi.apart ops oj=true) ->
   i∈Region.ready md ops listed->YS X (ops.toList.map (·.dst)) s oi (fun m=>m=v) ->
   Ty X md ops k K fuel (listed.setIfInBounds i true) (s.put oi.dst v)->Ty X md ops k K (fuel+1) listed s:=by
 intro fuel
 induction fuel with
 | zero =>
  intro listed s hd _ hr hy H;have only:∀ j∈Region.ready md ops listed,j=i:=by
   intro j hj;by_cases hji:j=i
   ·exact hji
   ·have:=ready_mono hj hji;rw [H.1] at this;cases this
  refine ⟨fun h=>(by rw [h] at hr;cases hr),fun j hj oj hoj=>?_⟩;have:=only j hj;subst this;rw [hi] at hoj;cases hoj;exact ⟨fun _=>Kr (fun l hl=>by rw [hl];exact H) hy,fun h=>by omega⟩
 | succ fuel ih =>
  intro listed s hd hfree hr hy H;refine ⟨fun h=>(by rw [h] at hr;cases hr),fun j hj oj hoj=>?_⟩;by_cases hji:j=i
  ·subst hji;rw [hi] at hoj;cases hoj;exact ⟨fun _=>Kr (fun l hl=>by rw [hl];exact H) hy,fun h=>by omega⟩
  ·have hjk:j<k:=by
    rcases Edk j k with h | h
    ·exact h
    ·exfalso;have h1:=Sj hT hd hj h i omg;have h2:=(Hn.1 (mem_ready.1 hr).1).2;rw [h1] at h2;cases h2
   refine ⟨fun _=>?_,fun h=>by omega⟩;have h1:=(H.2 j (ready_mono hj hji) oj hoj).1 hjk;obtain ⟨hjun,oj',hoj',hall⟩:=mem_ready.1 hj;rw [hoj] at hoj';cases hoj';have hnot:∀ e∈oj.after,Region.binds md e=true->e.on≠i:=fun e he hb heq=>by
    have h1:=hall e he hb;have h0:=(Hn.1 (mem_ready.1 hr).1).2;rw [heq] at h1;rw [h1] at h0;cases h0
   obtain ⟨a1,a2,a3⟩:=Oper.apart_spec (hfree j oj hoj hji hjun hnot);have hfree':∀ q ok,ops[q]? = some ok->q≠i->(listed.setIfInBounds j true).getD q true=false ->
     (∀ e∈ok.after,Region.binds md e=true->e.on≠i)->oi.apart ops ok=true:=fun q ok hk hki hun hno=>by
    refine hfree q ok hk hki ?_ hno;by_cases hjk:j=q
    ·subst hjk;exact hjun
    ·rw [getD_set_ne true hjk] at hun;exact hun
   refine Kr (fun l hl=>?_) (Yr a1 h1);refine ih (listed.setIfInBounds j true) (s.put oj.dst l) (hd.set hj) hfree' (ready_mono hr (Ne.symm hji)) (Uk a3 hy) ?_;rw [Array.setIfInBounds_comm _ _ hji];rw [<- Js0 s v l a2];exact hl
def M5 (X:Cx) (ds:List (Option Tmp)) (all:List Oper) (K:St->Prop):Nat->Nat->List Oper->St->Prop
 | _,_,[],s=>K s
 | 0,i,_ :: rest,s=>lAt X ds all i (M5 X ds all K 0 (i+1) rest) s
 | k+1,i,o :: rest,s=>YS X ds s o fun l=>M5 X ds all K k (i+1) rest (s.put o.dst l)
def Upto (p:Nat) (listed:Array Bool):Prop:=∀ i,i<listed.size->listed.getD i false=decide (i<p)
theorem Nc {k:Nat} (hT:Y0 md ops k=true) {K:St->Prop}:∀ (l:List Oper) (p q:Nat) (listed:Array Bool) (s:St),k - p=q->(∀ j,l[j]? = ops[p+j]?)->listed.size=ops.size->Down md ops listed->Upto p listed ->
  Region.lexFrom md ops l.length p listed=true->M5 X (ops.toList.map (·.dst)) ops.toList K q p l s->Ty X md ops k K l.length listed s
 | [],_,_,_,_,_,_,_,_,_,hB,h=>⟨by simpa [Region.lexFrom] using hB,by simpa [M5] using h⟩
 | o :: l,p,q,listed,s,hq,hl,hsz,hd,hup,hB,h=>by
  have h0:ops[p]? = some o:=by simpa using (hl 0).symm
  have hp:p<ops.size:=(Ea5.1 h0).1;simp only [List.length_cons,Region.lexFrom,Ebb] at hB;obtain ⟨⟨hr,hf⟩,hB'⟩:=hB;have hr':p∈Region.ready md ops listed:=by simpa using hr
  have hl':∀ j,l[j]? = ops[p+1+j]?:=fun j=>by have:=hl (j+1);simpa [Ebx,Ecr 1 j] using this
  have hup':Upto (p+1) (listed.setIfInBounds p true):=by
   intro i hi;simp only [Array.size_setIfInBounds] at hi;by_cases hip:i=p
   ·subst hip;simp [Eas,hi]
   ·have:=hup i hi;rw [show (listed.setIfInBounds p true).getD i false=listed.getD i false by simp [Eas,Array.getElem?_setIfInBounds_ne (Ne.symm hip)],this];congr 1;exact propext ⟨fun h=>by omega,fun h=>by omega⟩
  cases q with
  | succ q =>
   simp only [M5] at h;obtain ⟨v,hy,hK⟩:=Jab (X:=X) h;exact Y9 hT h0 omg l.length listed s hd (Region.free_spec h0 hf) hr' hy
    (Nc hT l (p+1) q _ _ omg hl' (by simpa using hsz) (hd.set hr') hup' hB' hK)
  | zero =>
   simp only [M5] at h;have only:∀ j∈Region.ready md ops listed,j=p:=by
    intro j hj;obtain ⟨hun,oj,hoj,_⟩:=mem_ready.1 hj;obtain ⟨hjs,hjf⟩:=Hn.1 hun;have h1:=hup j hjs;rw [hjf] at h1;have hjp:¬ j<p:=by simpa using h1.symm
    rcases Edk p j with hlt | hge
    ·exfalso;have h2:=Sj hT hd hj omg p hlt;have h3:=hup p omg;rw [h2] at h3;simp at h3
    ·omega
   refine ⟨fun h'=>(by rw [h'] at hr';cases hr'),fun j hj oj hoj=>?_⟩;have:=only j hj;subst this;refine ⟨fun hlt=>by omega,fun _=>?_⟩;rw [h0] at hoj;cases hoj;exact ⟨_,h,fun s' hs'=>Nc hT l (j+1) 0 _ s' omg hl' (by simpa using hsz) (hd.set hr') hup' hB' hs'⟩
theorem Gi {id:Nat} {Q:Ex->St->Prop} {s:St} (k:Nat) (hm:X.P.follows .mixedOrders=true) (hB:Region.lexB .any ops=true) (hT:Y0 .any ops k=true)
  (h:M5 X (ops.toList.map (·.dst)) ops.toList (Q .normal) k 0 ops.toList s):SWP X ro (.region id ops true) Q s:=fun Γ a w hG hr=>by
 simp only [Region.lexB,Ebb] at hB;have h':RR Γ s a { w with drawn:=w.drawn+1 }:=by
  obtain ⟨ms,hdef,β,Im,hx⟩:=hr;exact ⟨ms,hdef,β,Im,hx.grow (Grow.drew hx.fit.im)⟩
 refine wpIn_region_any hm (G0 (k:=k) (K:=Q .normal) hG.1 (fun s _ _ h1 h2=>⟨s,h1,h2⟩) _ _ s a _ h' ?_);have:=Nc (X:=X) (K:=Q .normal) (md:=.any) hT ops.toList 0 k (Array.replicate ops.size false) s omg sm sm ?_ ?_ (by simpa using hB.2) h
 ·simpa using this
 ·intro i o ho hl;exfalso;have hi:=(Ea5.1 ho).1;simp [Eas,hi] at hl
 ·intro i hi;simp only [Array.size_replicate] at hi;simp [Eas,hi]
end
section
variable {X:Cx} {ro:Option Nat} {K:St->Prop} {t:List L} {r:Regs} {ds:List (Option Tmp)} {all rest:List Oper} {dst:Option Tmp} {op:Op} {ty:TypeId} {ps:String} {af:Array Edge} {i k:Nat}
def Ug (X:Cx) (ds:List (Option Tmp)) (all:List Oper) (K:St->Prop) (k i:Nat) (rest:List Oper):St->Prop:=M5 X ds all K k i rest
theorem Jnu {k i:Nat} {l:List Oper}:M5 X ds all K k i l ⟨t,r⟩=Ug X ds all K k i l ⟨t,r⟩:=(rfl)
theorem t_nil:Ug X ds all K k i [] ⟨t,r⟩=K ⟨t,r⟩:=by cases k <;> rfl
theorem Jn7 {o:Oper}:Ug X ds all K 0 i (o :: rest) ⟨t,r⟩=lAt X ds all i (Ug X ds all K 0 (i+1) rest) ⟨t,r⟩:=(rfl)
theorem Jo8 {o:Oper}:Ug X ds all K (k+1) i (o :: rest) ⟨t,r⟩=YS X ds ⟨t,r⟩ o (kput o.dst (Ug X ds all K k (i+1) rest) ⟨t,r⟩):=(rfl)
theorem y_none {C:L->Prop}:YS X ds ⟨t,r⟩ ⟨dst,op,ty,ps,af,none⟩ C=lqc X ⟨t,r⟩ ⟨dst,op,ty,ps,af,none⟩ C:=(rfl)
end
theorem Jss {X:Cx} {ro:Option Nat} {c:Code} {Q:Ex->St->Prop} {s:St} {n:Nat} (hm:X.P.follows .mixedOrders=true) (h:lwp X ro c (kun (LX.rounds X ro c Q n) Q) s):LX.rounds X ro c Q (n+1) s:=Ae hm _ _ _ h
structure YKeep (w:World) (Im:Nat->Prop) (w':World) (Im':Nat->Prop):Prop where
 os:w'.os=w.os
 tape:w'.tape=w.tape
 output:w'.output=w.output
 size:w.heap.size<=w'.heap.size
 im:∀ b,Im b->Im' b
 block:∀ b,Im b->w'.heap[b]? = w.heap[b]?
 lt:∀ b,Im' b->b<w'.heap.size
theorem YKeep.refl {w:World} {Im:Nat->Prop} (h:∀ b,Im b->b<w.heap.size):YKeep w Im w Im :=
 ⟨rfl,rfl,rfl,Eai _,fun _ h=>h,fun _ _=>rfl,h⟩
theorem YKeep.trans {w w1 w2:World} {Im Im1 Im2:Nat->Prop} (h:YKeep w Im w1 Im1) (k:YKeep w1 Im1 w2 Im2):YKeep w Im w2 Im2 :=
 ⟨k.os.trans h.os,k.tape.trans h.tape,k.output.trans h.output,Nat.le_trans h.size k.size,fun b hb=>k.im b (h.im b hb),fun b hb=>(k.block b (h.im b hb)).trans (h.block b hb),k.lt⟩
theorem YKeep.keeps {w w':World} {Im Im':Nat->Prop} (h:YKeep w Im w' Im'):Keeps w Im w' Im':=⟨h.im,h.block⟩
theorem Jw2 {w w':World} {Im Im':Nat->Prop} (h:Grow w Im w' Im') (hi:∀ b,Im b->b<w.heap.size):YKeep w Im w' Im' :=
 ⟨h.os,h.tape,h.output,h.size,h.im,fun b hb=>h.block b (hi b hb),h.lt⟩
abbrev Gh:=Option Nat->World->(Nat->Prop)->Prop
def JOK (J:Gh):Prop:=∀ (k:Option Nat) (w:World) (Im:Nat->Prop) (w':World) (Im':Nat->Prop),(∀ b,Im b->b<w.heap.size)->J k w Im->Grow w Im w' Im'->J k w' Im'
def Jh6 (w:World) (Im:Nat->Prop) (us:List Value) (x:List PV):Prop:=us.length=x.length/\∀ (i:Nat) (v:Value) (p:PV),us[i]? = some v->x[i]? = some p->PRep w Im v p
def YAt (X:Cx) (l:Nat) (args:Array Value) (w:World) (R:Ending->World->Prop):Prop :=
 ∃ fn tmps assign body,(Instr.yield l args).run X.P w=.ok (.round l fn tmps assign body) w/\RoundIn (F0 none) 0 X.P l fn tmps assign body w R
def YOK (X:Cx) (l:Nat) (J:Gh) (xs:List (List PV)):Prop:=∀ (k:Nat) (x:List PV),xs[k]? = some x->∀ (w:World) (Im:Nat->Prop) (us:List Value),J (some k) w Im->X.G w Im->(∀ b,Im b->b<w.heap.size)->Jh6 w Im us x ->
 YAt X l ⟨us⟩ w fun e w'=>∃ Im',YKeep w Im w' Im'/\((e=.returned (.bool true)/\J (some (k+1)) w' Im')\/(e=.returned (.bool false)/\J none w' Im'))
def Tb (X:Cx) (f:FuncId) (args:List L) (xs:List (List PV)):Prop :=
 Enters X.P f/\∀ (l:Nat) (J:Gh),JOK J->YOK X l J xs->∀ (Im:Nat->Prop) (w:World) (vs:List Value),X.G w Im->(∀ b,Im b->b<w.heap.size)->J (some 0) w Im ->
  vs.length=args.length->(∀ (i:Nat) (v:Value) (a:L),vs[i]? = some v->args[i]? = some a->LRep (fun _=>none) w Im v a) ->
  Calls X.P f ⟨.func (.yield l) #[] #[] :: vs⟩ w fun e w'=>∃ v Im',e=.returned v/\YKeep w Im w' Im'/\(J (some xs.length) w' Im'\/J none w' Im')
def St.bare (s:St):St:=⟨s.tmps.map (L.map fun _=>none),[]⟩
theorem RRx.bare {Γ:Base} {β:Env} {Im:Nat->Prop} {s:St} {tmps:Array Value} {w:World} (h:RRx Γ β Im s tmps w):RRx Γ β Im s.bare tmps w :=
 {
  h with
  fit:={
      size:=by simp [St.bare,h.fit.size],tmps:=fun i l hl=>by
       simp only [St.bare,Eam] at hl;obtain ⟨l',h1,rfl⟩:=Eak.1 hl;exact (h.fit.tmps i l' h1).map (fun d n hd=>by cases hd)
      regs:=fun d r hr=>by simp [St.bare] at hr
      nodup:=.nil,live:=fun d r loc hr=>by simp [St.bare] at hr,apart:=fun d r d' r' l1 l2 hr=>by simp [St.bare] at hr,im:=h.fit.im }
  regnew:=fun d r loc hr=>by simp [St.bare] at hr
  marks:=fun D hD=>by obtain ⟨h1,h2,h3,_⟩:=h.marks D hD;exact ⟨h1,h2,h3,fun d r loc hr=>by simp [St.bare] at hr⟩ }
def JR (X:Cx) (J:Gh) (w0:World) (Im00:Nat->Prop) (k:Option Nat) (s:St) (a:Act) (w:World):Prop :=
 a.defers=[]/\∃ (W:World) (β0:Env) (I0:Nat->Prop),(∀ b,I0 b->b<W.heap.size)/\YKeep w0 Im00 W I0/\J k W I0/\RRm ⟨W,β0,I0,fun _=>False,[],X.G,X.mono⟩ [] s a w
theorem RRx.grown {Γ:Base} {β:Env} {Im:Nat->Prop} {s:St} {tmps:Array Value} {w:World} (h:RRx Γ β Im s tmps w) (hm:∀ b,¬ Γ.may b):Grow Γ.W0 Γ.Im0 w Im :=
 ⟨h.os,h.tape,h.output,h.size,fun k hk=>h.block k hk (hm k),h.imin,fun b hb=>(h.imnew b hb).elim .inl fun h'=>h'.elim .inr fun h=>absurd h (hm b),h.fit.im⟩
def JQ (X:Cx) (J:Gh) (w0:World) (Im00:Nat->Prop) (Q:Ex->Option Nat->St->Prop):Exit->Act->World->Prop
 | .normal,a,w=>∃ k s,Q .normal k s/\JR X J w0 Im00 k s a w
 | .exit id,a,w=>∃ k s,Q (.exit id) k s/\JR X J w0 Im00 k s a w
 | .ret,a,w=>∃ k s,Q .ret k s/\JR X J w0 Im00 k s a w
 | _,_,_=>False
def JWP (X:Cx) (xs:List (List PV)) (l:Nat) (c:Code) (Q:Ex->Option Nat->St->Prop) (k:Option Nat) (s:St):Prop :=
 ∀ J w0 Im00,JOK J->YOK X l J xs->∀ a w,JR X J w0 Im00 k s a w->c.wpIn (F0 none) 1 X.P (JQ X J w0 Im00 Q) a w
def K2:List L->Option (List PV)
 | []=>some []
 | .p x :: l=>match K2 l with
  | some xs=>some (x :: xs)
  | none=>none
 | _ :: _=>none
def L0 (xs:List (List PV)) (n:Nat) (o:Option (List PV)) (t f:Option Nat->Prop):Prop :=
 match o with
 | some x=>xs[n]? = some x/\t (some (n+1))/\f none
 | none=>False
def Ur (xs:List (List PV)) (l l':Nat) (s:St) (args:List Operand) (dst:Option Tmp) (K:Option Nat->St->Prop) (k:Option Nat):Prop :=
 match k with
 | some n=>l'=l/\L0 xs n (K2 (args.map (s.freezeOps args).get)) (fun k=>K k ((s.freezeOps args).bare.put dst (.p (.bool true)))) (fun k=>K k ((s.freezeOps args).bare.put dst (.p (.bool false))))
 | none=>False
def Y4 (X:Cx) (xs:List (List PV)) (l:Nat) (o:Oper) (args:List Operand) (K:Option Nat->St->Prop) (k:Option Nat) (s:St) (x:L):Prop :=
 match x with
 | .yld l'=>Ur xs l l' s args o.dst K k
 | _=>lop X o (K k) s
def jop (X:Cx) (xs:List (List PV)) (l:Nat) (o:Oper) (K:Option Nat->St->Prop) (k:Option Nat) (s:St):Prop :=
 match o.op with
 | .call { callee:=.value f,args,argTypes:=_ }=>Y4 X xs l o args.toList K k s (s.get f)
 | _=>lop X o (K k) s
def kunitJ (dst:Option Tmp) (K:Option Nat->St->Prop) (k:Option Nat) (s:St):Prop:=K k (s.put dst (.tup []))
def jops (X:Cx) (xs:List (List PV)) (l:Nat) (ds:List (Option Tmp)):List Oper->(Option Nat->St->Prop)->Option Nat->St->Prop
 | [],K,k,s=>K k s
 | o :: rest,K,k,s=>F4 ds o.guard (jop X xs l o (jops X xs l ds rest K) k) (kunitJ o.dst (jops X xs l ds rest K) k) s
def jseq (B:(Ex->Option Nat->St->Prop)->Option Nat->St->Prop) (Q:Ex->Option Nat->St->Prop):Ex->Option Nat->St->Prop
 | .normal,k,s=>B Q k s
 | .exit id,k,s=>Q (.exit id) k s
 | .ret,k,s=>Q .ret k s
def Oe (id:Nat) (Q:Ex->Option Nat->St->Prop):Ex->Option Nat->St->Prop
 | .normal,k,s=>Q .normal k s
 | .exit id',k,s=>if id'=id then Q .normal k s else Q (.exit id') k s
 | .ret,k,s=>Q .ret k s
def jwp (X:Cx) (xs:List (List PV)) (l:Nat):Code->(Ex->Option Nat->St->Prop)->Option Nat->St->Prop
 | .skip,Q,k,s=>Q .normal k s
 | .region id ops draw,Q,k,s=>match draw with
  | false=>jops X xs l (ops.toList.map (·.dst)) ops.toList (Q .normal) k s
  | true=>JWP X xs l (.region id ops true) Q k s
 | .seq a b,Q,k,s=>jwp X xs l a (jseq (jwp X xs l b) Q) k s
 | .cond c a b,Q,k,s=>O0 (s.get c) (jwp X xs l a Q k) (jwp X xs l b Q k) s
 | .block id c,Q,k,s=>jwp X xs l c (Oe id Q) k s
 | .loop c,Q,k,s=>JWP X xs l (.loop c) Q k s
 | .exit id,Q,k,s=>Q (.exit id) k s
 | .ret,Q,k,s=>Q .ret k s
 | .label _,Q,k,s=>Q .normal k s
 | c,Q,k,s=>JWP X xs l c Q k s
theorem P7:∀ {ls:List L} {x:List PV},K2 ls=some x->ls=x.map .p
 | [],x,h=>by cases h;rfl
 | .p y :: ls,x,h=>by
  simp only [K2] at h;split at h
  ·rename_i xs hx;cases h;rw [P7 hx];rfl
  ·cases h
 | .ptr _ _ _ :: _,_,h=>by cases h
 | .own _ _ _ :: _,_,h=>by cases h
 | .eptr _ :: _,_,h=>by cases h
 | .fn _ _ :: _,_,h=>by cases h
 | .cfn _ _ :: _,_,h=>by cases h
 | .yld _ :: _,_,h=>by cases h
 | .tup _ :: _,_,h=>by cases h
 | .mref _ :: _,_,h=>by cases h
 | .junk :: _,_,h=>by cases h
section
variable {X:Cx} {xs:List (List PV)} {l:Nat} {J:Gh} {w0:World} {Im00:Nat->Prop}
theorem Jek {s:St} {a:Act} {w:World} {o:Oper} {K:Option Nat->St->Prop} {k:Option Nat} {Q:Exit->Act->World->Prop} (hJ:JOK J) (hY:YOK X l J xs) (h:JR X J w0 Im00 k s a w) (hl:jop X xs l o K k s) :
  o.wpIn (F0 none) 1 X.P a w (fun a' w'=>∃ k s,K k s/\JR X J w0 Im00 k s a' w') Q:=by
 obtain ⟨hd,W,β0,I0,hlt,hkeep,hj,hr⟩:=h;have quiet:lop X o (K k) s->o.wpIn (F0 none) 1 X.P a w (fun a' w'=>∃ k s,K k s/\JR X J w0 Im00 k s a' w') Q:=fun hl=>by
  refine Oper.wpIn_mono (fun a' w' ⟨s',h1,h2⟩=>⟨k,s',h1,h2.1,W,β0,I0,hlt,hkeep,hj,h2⟩) (Lm (Γ:=⟨W,β0,I0,fun _=>False,[],X.G,X.mono⟩) rfl hr hl)
 unfold jop at hl;split at hl
 ·rename_i f args ats ho;unfold Y4 at hl;split at hl
  ·rename_i l' hf;unfold Ur at hl;split at hl
   ·rename_i n;obtain ⟨rfl,hl⟩:=hl;obtain ⟨_,β,Im,hx⟩:=hr;have hfv:=A2 hx.fit f;rw [hf] at hfv;obtain ⟨Im1,hx1⟩:=RRx.freezeOps args.toList hx;unfold L0 at hl;split at hl
    ·rename_i x hx0;obtain ⟨hn,hK1,hK2⟩:=hl;have hargs:=P7 hx0;have hG1:Grow W I0 w Im1:=hx1.grown (fun _ h=>h);have hrep:Jh6 w Im1 (args.toList.map a.eval) x:=by
      have hlen:args.toList.length=x.length:=by have:=congrArg List.length hargs;simpa using this
      refine ⟨by simpa using hlen,fun i v p hv hp=>?_⟩;rw [Eam] at hv;obtain ⟨o',ho',rfl⟩:=Eak.1 hv;have h2:=A2 hx1.fit o';have h3:(args.toList.map (s.freezeOps args.toList).get)[i]? = (x.map L.p)[i]?:=by rw [hargs]
      rw [Eam,Eam,ho',hp] at h3;rw [Ea3 h3] at h2;exact h2
     have hj1:J (some n) w Im1:=hJ _ _ _ _ _ hlt hj hG1;obtain ⟨fn,tmps,assign,body,hy,hR⟩:=hY n x hn w Im1 _ hj1 hx1.glob hx1.fit.im hrep;refine ⟨fun _ _=>trivial,?_⟩;have hdn:∀ c,o.op≠.defer c:=by rw [ho];simp
     rw [Ly _ hdn];have hrun:(execOp a.eval o).run X.P w=.ok (.round l' fn tmps assign body) w:=by
      unfold execOp;rw [ho];have he:a.eval f=.func (.yield l') #[] #[]:=hfv;have hm:args.map a.eval=⟨args.toList.map a.eval⟩:=by rw [<- Ebj];simp
      simp only [resolve,he,hm];simp [Deferred.ofValue,invoke,hy]
     rw [hrun];refine ⟨fun _=>Eai _,hR.mono fun e w' ⟨Im',hk',hc⟩=>?_⟩;have hb:=hx1.bare;have back:∀ (k':Option Nat) (b:Bool),J k' w' Im'->JR X J w0 Im00 k' ((s.freezeOps args.toList).bare.put o.dst (.p (.bool b))) (a.put o.dst (.bool b)) w':=by
      intro k' b hjk;refine ⟨Bf hd,w',β,Im',hk'.lt,hkeep.trans ((Jw2 hG1 hlt).trans hk'),hjk,Bf hd,β,Im',?_⟩;refine RRx.put ?_ o.dst (PRep.bool b);refine {
          fit:={ size:=hb.fit.size,tmps:=fun i m hm=>(hb.fit.tmps i m hm).mono' hk'.keeps,regs:=fun d r hr=>(by simp [St.bare] at hr),nodup:=.nil,live:=fun d r loc hr=>(by simp [St.bare] at hr),apart:=fun d r d' r' l1 l2 hr=>(by simp [St.bare] at hr),im:=hk'.lt }
          os:=rfl,tape:=rfl,output:=rfl,size:=Eai _,block:=fun _ _ _=>rfl,imin:=fun _ h=>h,imnew:=fun _ h=>.inl h,regnew:=fun d r loc hr=>(by simp [St.bare] at hr),fixed:=fun _ _ _=>rfl
          glob:=X.mono hk'.keeps hx1.glob,marks:=fun D hD=>(by cases hD),mnod:=.nil }
     rcases hc with ⟨rfl,hj2⟩ | ⟨rfl,hj2⟩
     ·exact ⟨_,_,hK1,back _ _ hj2⟩
     ·exact ⟨_,_,hK2,back _ _ hj2⟩
    ·exact hl.elim
   ·exact hl.elim
  ·exact quiet hl
 ·exact quiet hl
theorem Lq {ops:Array Oper} {K:Option Nat->St->Prop} {Q:Exit->Act->World->Prop} (hJ:JOK J) (hY:YOK X l J xs) (hQ:∀ k s a w,K k s->JR X J w0 Im00 k s a w->Q .normal a w):∀ (os:List Oper) (i:Nat),(∀ j,os[j]? = ops[i+j]?)->∀ (k:Option Nat) (s:St) (a:Act) (w:World),JR X J w0 Im00 k s a w ->
  jops X xs l (ops.toList.map (·.dst)) os K k s->wpOpsIn (F0 none) 1 X.P ops Q (List.range' i os.length) a w
 | [],i,_,k,s,a,w,h,hl=>by simpa [wpOpsIn] using hQ k s a w hl h
 | o :: os,i,hi,k,s,a,w,h,hl=>by
  have h0:ops[i]? = some o:=by simpa using (hi 0).symm
  have hi':∀ j,os[j]? = ops[i+1+j]?:=fun j=>by have:=hi (j+1);simpa [Ebx,Ecr 1 j] using this
  simp only [List.length_cons,List.range'_succ,wpOpsIn,h0];simp only [jops] at hl;obtain ⟨hd,W,β0,I0,hlt,hkeep,hj,hr⟩:=h;obtain ⟨s',h',hc⟩:=Gb hr.rr hl;have hm:RRm ⟨W,β0,I0,fun _=>False,[],X.G,X.mono⟩ [] s' a w:=by
   obtain ⟨ms,h1,h2⟩:=h';have:ms=[]:=by rw [hd] at h1;cases ms <;> first | rfl | cases h1
   subst this;exact ⟨h1,h2⟩
  rcases hc with ⟨hA,hw⟩ | ⟨hB,hw⟩
  ·rw [if_pos (hw o rfl)];exact Oper.wpIn_mono (fun a' w' ⟨k2,s2,hs2,hr2⟩=>Lq hJ hY hQ os (i+1) hi' k2 s2 a' w' hr2 hs2) (Jek hJ hY ⟨hd,W,β0,I0,hlt,hkeep,hj,hm⟩ hA)
  ·rw [if_neg (by rw [hw o rfl];simp)];obtain ⟨hdef,β,Im,hx⟩:=hm;exact ⟨fun _ _=>trivial,Lq hJ hY hQ os (i+1) hi' k _ _ w ⟨Bf hd,W,β0,I0,hlt,hkeep,hj,Bf hd,β,Im,hx.put o.dst H0⟩ hB⟩
theorem N9:∀ (c:Code) (Q:Ex->Option Nat->St->Prop) (k:Option Nat) (s:St),jwp X xs l c Q k s->JWP X xs l c Q k s:=by
 intro c
 induction c with
 | skip=>exact fun Q k s h J w0 Im00 hJ hY a w hr=>wpIn_skip ⟨k,s,h,hr⟩
 | region id ops draw =>
  intro Q k s h;cases draw with
  | false =>
   intro J w0 Im00 hJ hY a w hr;simp only [jwp] at h;refine wpIn_region ?_;have:=Lq (X:=X) (ops:=ops) (K:=Q .normal) (Q:=JQ X J w0 Im00 Q) hJ hY (fun k s a w h1 h2=>⟨k,s,h1,h2⟩) ops.toList 0 sm k s a w hr h;rw [Array.length_toList] at this;rw [List.range_eq_range'];exact this
  | true=>exact h
 | seq x y ihx ihy =>
  intro Q k s h J w0 Im00 hJ hY a w hr;simp only [jwp] at h;refine wpIn_seq (wpIn_mono (ihx _ k s h J w0 Im00 hJ hY a w hr) fun e a w hq=>?_);cases e with
  | normal=>obtain ⟨k',s',h1,h2⟩:=hq;exact ihy Q k' s' h1 J w0 Im00 hJ hY a w h2
  | exit id=>exact hq
  | ret=>exact hq
  | goto l=>exact hq.elim
  | panic c=>exact hq.elim
  | outgrown=>exact hq.elim
 | cond c x y ihx ihy =>
  intro Q k s h J w0 Im00 hJ hY a w hr;simp only [jwp,O0] at h;obtain ⟨hd,W,β0,I0,hlt,hkeep,hj,hdef,β,Im,hx⟩:=hr;have hc:=A2 hx.fit c;split at h
  ·rename_i t hg;rw [hg] at hc;cases hv:a.eval c <;> rw [hv] at hc <;> cases hc;exact wpIn_cond_split hv (fun ht=>ihx Q k s (h.1 ht) J w0 Im00 hJ hY a w ⟨hd,W,β0,I0,hlt,hkeep,hj,hdef,β,Im,hx⟩) (fun ht=>ihy Q k s (h.2 ht) J w0 Im00 hJ hY a w ⟨hd,W,β0,I0,hlt,hkeep,hj,hdef,β,Im,hx⟩)
  ·exact h.elim
 | block id c ih =>
  intro Q k s h J w0 Im00 hJ hY a w hr;simp only [jwp] at h;refine wpIn_block (wpIn_mono (ih _ k s h J w0 Im00 hJ hY a w hr) fun e a w hq=>?_);cases e with
  | normal=>exact hq
  | exit id' =>
   obtain ⟨k',s',h1,h2⟩:=hq;simp only [Oe] at h1;simp only [Exit.inBlock];split at h1
   ·rename_i he;rw [if_pos he];exact ⟨k',s',h1,h2⟩
   ·rename_i he;rw [if_neg he];exact ⟨k',s',h1,h2⟩
  | ret=>exact hq
  | goto l=>exact hq.elim
  | panic c=>exact hq.elim
  | outgrown=>exact hq.elim
 | loop c _=>exact fun Q k s h=>h
 | exit id=>exact fun Q k s h J w0 Im00 hJ hY a w hr=>wpIn_exit ⟨k,s,h,hr⟩
 | ret=>exact fun Q k s h J w0 Im00 hJ hY a w hr=>wpIn_ret ⟨k,s,h,hr⟩
 | label l=>exact fun Q k s h J w0 Im00 hJ hY a w hr=>wpIn_label ⟨k,s,h,hr⟩
 | rangeFunc f ps asg c _ _=>exact fun Q k s h=>h
 | scope c ih=>exact fun Q k s h=>h
 | goto l=>exact fun Q k s h=>h
 | refuse why=>exact fun Q k s h=>h
def Jdl {ι:Type} (I:ι->Option Nat×St) (Pre:ι->Prop) (μ:ι->Nat) (x:ι) (Q:Ex->Option Nat->St->Prop):Ex->Option Nat->St->Prop
 | .normal,k,s=>∃ y,Pre y/\μ y<μ x/\k=(I y).1/\s.Le (I y).2
 | .exit id,k,s=>Q (.exit id) k s
 | .ret,k,s=>Q .ret k s
theorem JR.le {k:Option Nat} {s s':St} {a:Act} {w:World} (h:JR X J w0 Im00 k s a w) (hle:s.Le s'):JR X J w0 Im00 k s' a w:=by
 obtain ⟨hd,W,β0,I0,hlt,hkeep,hj,hr⟩:=h;obtain ⟨ms,h1,h2⟩:=hle _ _ _ hr.rr;have:ms=[]:=by rw [hd] at h1;cases ms <;> first | rfl | cases h1
 subst this;exact ⟨hd,W,β0,I0,hlt,hkeep,hj,h1,h2⟩
theorem JWP.loop {ι:Type} (I:ι->Option Nat×St) (Pre:ι->Prop) (μ:ι->Nat) (x0:ι) {c:Code} {Q:Ex->Option Nat->St->Prop} {k:Option Nat} {s:St} (hk:k=(I x0).1) (hs:s.Le (I x0).2) (h0:Pre x0)
  (round:∀ x,Pre x->JWP X xs l c (Jdl I Pre μ x Q) (I x).1 (I x).2):JWP X xs l (.loop c) Q k s:=by
 intro J w0 Im00 hJ hY a w hr;have key:∀ n x,μ x=n->Pre x->∀ a w,JR X J w0 Im00 (I x).1 (I x).2 a w->∀ (b:Frame) (k:List Item) (cs:List Frame),b.roundOf=(F0 none).round->(F0 none).fn b.fn->(F0 none).room (cs.length+1+1) ->
   ∃ e a' w',JQ X J w0 Im00 Q e a' w'/\ArrivesIn (Machine.fenced X.P (F0 none)) X.P (lone (b.atR a (.code c :: .inLoop c :: k)) cs w) b k cs e a' w':=by
  intro n
  induction n using Nat.strongRecOn with
  | _ n ih =>
   intro x hn hP a w hr b k cs hro hb hroom;obtain ⟨e,a₁,w₁,hq,harr⟩:=round x hP J w0 Im00 hJ hY a w hr b (.inLoop c :: k) cs hro hb hroom;cases e with
   | normal =>
    obtain ⟨k',s',⟨y,hy,hlt,hk',hle⟩,h2⟩:=hq;subst hk';obtain ⟨e₂,a₂,w₂,hq₂,harr₂⟩:=ih (μ y) (hn ▸ hlt) y rfl hy a₁ w₁ (h2.le hle) b k cs hro hb hroom;exact ⟨e₂,a₂,w₂,hq₂,.of_steps (StepsIn.trans harr (.one (fenced_calm hb hroom rfl) stepR_inLoop)) harr₂⟩
   | exit id =>
    obtain ⟨k',s',h1,h2⟩:=hq;exact ⟨.exit id,a₁,w₁,⟨k',s',h1,h2⟩,.pass (x:=.inLoop c) rfl (fun _ _=>.inl sm) harr⟩
   | ret =>
    obtain ⟨k',s',h1,h2⟩:=hq;exact ⟨.ret,a₁,w₁,⟨k',s',h1,h2⟩,.pass (x:=.inLoop c) rfl (fun _ _=>.inl sm) harr⟩
   | goto l=>exact hq.elim
   | panic ch=>exact hq.elim
   | outgrown=>exact hq.elim
 intro b k' cs hro hb hroom;subst hk;obtain ⟨e,a',w',hq,harr⟩:=key _ x0 rfl h0 a w (hr.le hs) b k' cs hro hb hroom;exact ⟨e,a',w',hq,.of_steps (.one (fenced_calm hb hroom rfl) stepR_loop) harr⟩
def jret (xs:List (List PV)):Ex->Option Nat->St->Prop
 | .normal,k,_=>k=some xs.length\/k=none
 | .ret,k,_=>k=some xs.length\/k=none
 | .exit _,_,_=>False
end
theorem Juw {X:Cx} {f:FuncId} {fn:Func} {c:Code} {args:List L} {xs:List (List PV)} (hf:X.P.funcs[f]? = some fn) (hname:(fn.name == "runtime.NumGoroutine")=false) (hb:fn.body=some c) (hres:fn.results = #[]) (hn:args.length+1<=fn.ntmps)
  (h:∀ l,JWP X xs l c (jret xs) (some 0) ⟨Ba fn.ntmps (argW 0 (.yld l :: args)),[]⟩):Tb X f args xs:=by
 refine ⟨enters_of hf hname hb,fun l J hJ hY Im w vs hglob hlt hj hlen hrep=>?_⟩;refine callsIn_wide.1 (callsIn_of_wp_marks (n:=1) (F:=Fence.wide) hf hb trivial ?_);have e0:Ba fn.ntmps (argW 0 (.yld l :: args))=(.yld l :: args) ++ List.replicate (fn.ntmps - (L.yld l :: args).length) .junk:=(Rx (by simpa using hn)).symm;have hr0:JR X J w Im (some 0) ⟨Ba fn.ntmps (argW 0 (.yld l :: args)),[]⟩ { tmps:=(⟨.func (.yield l) #[] #[] :: vs⟩:Array Value) ++ Array.replicate (fn.ntmps - (⟨.func (.yield l) #[] #[] :: vs⟩:Array Value).size) undef,defers:=[] } w:=by
  refine ⟨rfl,w,fun _=>none,Im,hlt,YKeep.refl hlt,hj,rfl,fun _=>none,Im,{ fit:={ size:=?_,tmps:=fun i m hm=>?_,regs:=fun d r hr=>by simp at hr,nodup:=.nil,live:=fun d r loc hr=>by simp at hr,apart:=fun d r d' r' l1 l2 hr=>by simp at hr,im:=hlt },os:=rfl,tape:=rfl,output:=rfl,size:=Eai _,block:=fun _ _ _=>rfl,imin:=fun _ h=>h,imnew:=fun _ h=>.inl h,regnew:=fun d r loc hr=>by simp at hr,fixed:=fun _ _ _=>rfl,glob:=hglob,mnod:=.nil,marks:=fun D hD=>(by cases hD) }⟩
  ·simp [Cg,hlen];omega
  ·simp only [e0] at hm;by_cases hi:i<(L.yld l :: args).length
   ·rw [Eaq hi] at hm;have e:((⟨.func (.yield l) #[] #[] :: vs⟩:Array Value) ++ Array.replicate (fn.ntmps - (⟨.func (.yield l) #[] #[] :: vs⟩:Array Value).size) undef).getD i undef=(Value.func (.yield l) #[] #[] :: vs).getD i undef:=by
     simp only [Eas,Eah];rw [Ec0 (by simp at hi ⊢;omega)];simp
    rw [e];cases i with
    | zero=>simp at hm;subst hm;rfl
    | succ i =>
     simp at hm hi;have hv:i<vs.length:=by omega
     simp [hv];exact hrep i _ m (by simp [hv]) hm
   ·rw [Ean omg,Ech] at hm;split at hm
    ·cases hm;trivial
    ·cases hm
 have hw:=h l J w Im hJ hY _ w hr0;refine wpIn_mono (show c.wpIn Fence.wide 1 X.P _ _ _ from hw) fun e a w' hq=>?_
 have fin:∀ k s,(k=some xs.length\/k=none)->JR X J w Im k s a w'->LeavesInM Fence.wide 1 X.P fn a.tmps (fun e w'=>∃ v Im',e=.returned v/\YKeep w Im w' Im'/\(J (some xs.length) w' Im'\/J none w' Im')) a.defers .returning w':=by
  rintro k s hk ⟨hd,W,β0,I0,hlt',hkeep,hj',hr⟩;rw [hd];obtain ⟨_,β,Im',hx⟩:=hr;have hg:Grow W I0 w' Im':=hx.grown (fun _ h=>h);have hrun:=G9 (P:=X.P) (fn:=fn) (tmps:=a.tmps) (w:=w') (vs:=[]) (by rw [hres];simp);refine ⟨_,hrun,_,Im',rfl,hkeep.trans (Jw2 hg hlt'),?_⟩;have:=hJ _ _ _ _ _ hlt' hj' hg;rcases hk with rfl | rfl
  ·exact .inl this
  ·exact .inr this
 cases e with
 | normal=>obtain ⟨k,s,h1,h2⟩:=hq;exact fin k s h1 h2
 | ret=>obtain ⟨k,s,h1,h2⟩:=hq;exact fin k s h1 h2
 | exit id=>obtain ⟨k,s,h1,h2⟩:=hq;exact h1.elim
 | goto l=>exact hq.elim
 | panic c=>exact hq.elim
 | outgrown=>exact hq.elim
def Jbk (d:Nat):Reg->Bool
 | .var _ _=>true
 | .obj _=>true
 | _=>decide (1000<=d/\d<500000)
def rnOf (k:Nat):Regs->Ren
 | []=>[]
 | (d,r) :: rest=>(d,if Jbk d r=true then 1000+k else 500000+k) :: rnOf (k+1) rest
theorem T9:∀ (rs:Regs) (k:Nat),(rnOf k rs).map (·.1)=rs.map (·.1)
 | [],_=>rfl
 | (d,r) :: rs,k=>by simp [rnOf,T9 rs (k+1)]
theorem Jeb:∀ (rs:Regs) (k:Nat),k+rs.length<=1000->O3 k (rnOf k rs)
 | [],_,_=>trivial
 | (d,r) :: rs,k,h=>by
  simp only [List.length_cons] at h;refine ⟨?_,Jeb rs (k+1) omg⟩;split
  ·exact .inl ⟨rfl,by omega⟩
  ·rename_i hf;refine .inr ⟨rfl,fun hd=>hf ?_,by omega⟩;cases r <;> simp [Jbk,hd]
theorem Jmr {rs:Regs} (h:rs.length<=1000) (hn:(rs.map (·.1)).Nodup):RenOK (rnOf 0 rs) :=
 Tc (Jeb rs 0 omg) (by rw [T9];exact hn)
def Mq (ρ:Ren) (d:Nat):Option Nat:=match upId ρ d with
 | some n=>if n<500000 then some n else none
 | none=>none
theorem Zz {ρ:Ren} {d n:Nat} (h:Mq ρ d=some n):upId ρ d=some n/\n<500000:=by
 unfold Mq at h;split at h
 ·rename_i m hm;split at h
  ·cases h;exact ⟨hm,by assumption⟩
  ·cases h
 ·cases h
theorem V3 {f:Nat->Option Nat} {l:L} {n:Nat} (h:(l.map f).mentions n=true):∃ d,f d=some n:=by
 have fnc:∀ ds ns,Bg f ds=some ns->ns.contains n=true->∃ d,f d=some n:=by
  intro ds ns ha hc;obtain ⟨h1,h2⟩:=Bh ha;have hm:n∈ns:=by simpa using hc
  obtain ⟨i,hi⟩:=Ebt hm;obtain ⟨d,hd⟩:=getElem?_of_length h1 hi;exact ⟨d,h2 i d n hd hi⟩
 cases l with
 | ptr d i j=>simp only [L.map] at h;cases hd:f d <;> rw [hd] at h <;> simp [Jyi,L.mentions] at h;exact ⟨d,by rw [hd,h]⟩
 | own d i j=>simp only [L.map] at h;cases hd:f d <;> rw [hd] at h <;> simp [Jxj,L.mentions] at h;exact ⟨d,by rw [hd,h]⟩
 | mref d=>simp only [L.map] at h;cases hd:f d <;> rw [hd] at h <;> simp [Jwt,L.mentions] at h;exact ⟨d,by rw [hd,h]⟩
 | fn g ds=>simp only [L.map] at h;cases hd:Bg f ds <;> rw [hd] at h <;> simp only [J3a,L.mentions,Ebv] at h;exact fnc _ _ hd h
 | cfn g ds=>simp only [L.map] at h;cases hd:Bg f ds <;> rw [hd] at h <;> simp only [J54,L.mentions,Ebv] at h;exact fnc _ _ hd h
 | p x=>simp [L.map,L.mentions] at h
 | eptr cs=>simp [L.map,L.mentions] at h
 | yld l=>simp [L.map,L.mentions] at h
 | tup xs=>simp [L.map,L.mentions] at h
 | junk=>simp [L.map,L.mentions] at h
structure Trans (l:Nat) (β:Env) (w:World) (Im:Nat->Prop) (rs:Regs) (β':Env) (w':World) (Im':Nat->Prop) (rs':Regs):Prop where
 os:w'.os=w.os
 tape:w'.tape=w.tape
 output:w'.output=w.output
 size:w.heap.size<=w'.heap.size
 block:∀ k,k<w.heap.size->k≠l->(∀ d r loc,(d,r)∈rs->β d=some loc->loc.blk≠k)->w'.heap[k]? = w.heap[k]?
 imin:∀ b,Im b->Im' b
 imnew:∀ b,Im' b->Im b\/w.heap.size<=b\/∃ d r loc,(d,r)∈rs/\β d=some loc/\loc.blk=b
 env:∀ d,1000<=d->d<500000->β' d=β d
 regnew:∀ d r loc,(d,r)∈rs'->β' d=some loc->w.heap.size<=loc.blk\/∃ d r loc',(d,r)∈rs/\β d=some loc'/\loc'.blk=loc.blk
 fit:Fit β' w' Im' ⟨[],rs'⟩ #[]
structure Off (l:Nat) (β:Env) (w:World) (Im:Nat->Prop) (rs:Regs):Prop where
 lt:l<w.heap.size
 im:¬ Im l
 reg:∀ d r loc,(d,r)∈rs->β d=some loc->loc.blk≠l
section
variable {l:Nat} {β β1 β2:Env} {w w1 w2:World} {Im Im1 Im2:Nat->Prop} {rs rs1 rs2:Regs}
theorem Fit.regsOnly {s:St} {t:Array Value} (h:Fit β w Im s t):Fit β w Im ⟨[],s.regs⟩ #[] :=
 { size:=rfl,tmps:=fun i m hm=>by simp at hm,regs:=h.regs,nodup:=h.nodup,live:=h.live,apart:=h.apart,im:=h.im }
theorem Trans.refl (h:Fit β w Im ⟨[],rs⟩ #[]):Trans l β w Im rs β w Im rs where
 os:=rfl
 tape:=rfl
 output:=rfl
 size:=Eai _
 block _ _ _ _:=rfl
 imin _ h:=h
 imnew _ h:=.inl h
 env _ _ _:=rfl
 regnew d r loc hd hl:=.inr ⟨d,r,loc,hd,hl,rfl⟩
 fit:=h
theorem Trans.trans (h:Trans l β w Im rs β1 w1 Im1 rs1) (k:Trans l β1 w1 Im1 rs1 β2 w2 Im2 rs2):Trans l β w Im rs β2 w2 Im2 rs2 where
 os:=k.os.trans h.os
 tape:=k.tape.trans h.tape
 output:=k.output.trans h.output
 size:=Nat.le_trans h.size k.size
 block b hb hl hn:=by
  refine (k.block b (Ebd hb h.size) hl fun d r loc hd hβ=>?_).trans (h.block b hb hl hn);rcases h.regnew d r loc hd hβ with g | ⟨d',r',loc',h1,h2,h3⟩
  ·omega
  ·rw [<- h3];exact hn d' r' loc' h1 h2
 imin b hb:=k.imin b (h.imin b hb)
 imnew b hb:=by
  rcases k.imnew b hb with g | g | ⟨d,r,loc,h1,h2,h3⟩
  ·exact h.imnew b g
  ·exact .inr (.inl (Nat.le_trans h.size g))
  ·rcases h.regnew d r loc h1 h2 with g | ⟨d',r',loc',g1,g2,g3⟩
   ·exact .inr (.inl (h3 ▸ g))
   ·exact .inr (.inr ⟨d',r',loc',g1,g2,g3.trans h3⟩)
 env d h1 h2:=(k.env d h1 h2).trans (h.env d h1 h2)
 regnew d r loc hd hl:=by
  rcases k.regnew d r loc hd hl with g | ⟨d',r',loc',h1,h2,h3⟩
  ·exact .inl (Nat.le_trans h.size g)
  ·rcases h.regnew d' r' loc' h1 h2 with g | ⟨d2,r2,loc2,g1,g2,g3⟩
   ·exact .inl (h3 ▸ g)
   ·exact .inr ⟨d2,r2,loc2,g1,g2,g3.trans h3⟩
 fit:=k.fit
theorem Trans.off (h:Trans l β w Im rs β1 w1 Im1 rs1) (o:Off l β w Im rs):Off l β1 w1 Im1 rs1 where
 lt:=Ebd o.lt h.size
 im hi:=by
  rcases h.imnew l hi with g | g | ⟨d,r,loc,h1,h2,h3⟩
  ·exact o.im g
  ·have:=o.lt;omega
  ·exact o.reg d r loc h1 h2 h3
 reg d r loc hd hl:=by
  rcases h.regnew d r loc hd hl with g | ⟨d',r',loc',h1,h2,h3⟩
  ·have:=o.lt;omega
  ·rw [<- h3];exact o.reg d' r' loc' h1 h2
theorem Fit.putOff {s:St} {t:Array Value} (h:Fit β w Im s t) (o:Off l β w Im s.regs) (x:Obj):Fit β (w.putObj l x) Im s t:=by
 have hoth:∀ k,k≠l->(w.putObj l x).heap[k]? = w.heap[k]?:=fun k hk=>World.putObj_heap_other hk
 have hk:Keeps w Im (w.putObj l x) Im:=⟨fun _ h=>h,fun b hb=>hoth b fun e=>o.im (e ▸ hb)⟩
 exact {
     size:=h.size,tmps:=fun i m hm=>(h.tmps i m hm).mono' hk,regs:=fun d r hr=>(h.regs d r hr).mono hk rfl (fun _ _=>rfl) fun loc hl=>hoth _ (o.reg d r loc hr hl),nodup:=h.nodup
     live:=fun d r loc hr hl=>by rw [World.putObj_size];exact h.live d r loc hr hl,apart:=h.apart,im:=fun b hb=>by rw [World.putObj_size];exact h.im b hb }
theorem Trans.put (h:Fit β w Im ⟨[],rs⟩ #[]) (o:Off l β w Im rs) (x:Obj):Trans l β w Im rs β (w.putObj l x) Im rs where
 os:=rfl
 tape:=rfl
 output:=rfl
 size:=by rw [World.putObj_size];exact Eai _
 block k _ hk _:=World.putObj_heap_other hk
 imin _ h:=h
 imnew _ h:=.inl h
 env _ _ _:=rfl
 regnew d r loc hd hl:=.inr ⟨d,r,loc,hd,hl,rfl⟩
 fit:=h.putOff o x
theorem Jxw (h:Fit β w Im ⟨[],rs⟩ #[]) (g:Grow w Im w1 Im1):Trans l β w Im rs β w1 Im1 rs where
 os:=g.os
 tape:=g.tape
 output:=g.output
 size:=g.size
 block k hk _ _:=g.block k hk
 imin:=g.im
 imnew b hb:=(g.new b hb).imp id .inl
 env _ _ _:=rfl
 regnew d r loc hd hl:=.inr ⟨d,r,loc,hd,hl,rfl⟩
 fit:=h.grow g
theorem Jzl {Γ:Base} {s:St} {t:Array Value} (h:RRx Γ β1 Im1 s t w1) (hm:∀ k,Γ.may k->∃ d r loc,(d,r)∈rs/\Γ.β0 d=some loc/\loc.blk=k):Trans l Γ.β0 Γ.W0 Γ.Im0 rs β1 w1 Im1 s.regs where
 os:=h.os
 tape:=h.tape
 output:=h.output
 size:=h.size
 block k hk _ hn:=h.block k hk fun hk=>by obtain ⟨d,r,loc,h1,h2,h3⟩:=hm k hk;exact hn d r loc h1 h2 h3
 imin:=h.imin
 imnew b hb:=(h.imnew b hb).imp id fun h=>h.imp id (hm b)
 env:=h.fixed
 regnew d r loc hd hl:=(h.regnew d r loc hd hl).imp id (hm _)
 fit:=h.fit.regsOnly
theorem Off.same {Γ:Base} {s:St} {t:Array Value} (o:Off l Γ.β0 Γ.W0 Γ.Im0 rs) (h:RRx Γ β1 Im1 s t w1) (hm:∀ k,Γ.may k->∃ d r loc,(d,r)∈rs/\Γ.β0 d=some loc/\loc.blk=k):w1.heap[l]? = Γ.W0.heap[l]? :=
 h.block l o.lt fun hk=>by obtain ⟨d,r,loc,h1,h2,h3⟩:=hm l hk;exact o.reg d r loc h1 h2 h3
theorem Trans.keeps (h:Trans l β w Im rs β1 w1 Im1 rs1) (o:Off l β w Im rs) (hf:Fit β w Im ⟨[],rs⟩ #[]):Keeps w Im w1 Im1 :=
 ⟨h.imin,fun b hb=>h.block b (hf.im b hb) (fun e=>o.im (e ▸ hb)) fun d r loc hd hl e=>(hf.live d r loc hd hl).2 (e ▸ hb)⟩
theorem Trans.ykeep (h:Trans l β w Im rs β1 w1 Im1 rs1) (o:Off l β w Im rs) (hf:Fit β w Im ⟨[],rs⟩ #[]):YKeep w Im w1 Im1 :=
 ⟨h.os,h.tape,h.output,h.size,h.imin,(h.keeps o hf).block,h.fit.im⟩
theorem Trans.step (h:Trans l β w Im rs β1 w1 Im1 rs1) (hl:w1.heap[l]? = w.heap[l]?) (hk:∀ d r,(d,r)∈rs1->d=900\/∃ r0,(d,r0)∈rs):CallStep β w Im rs β1 w1 Im1 rs1 where
 os:=h.os
 tape:=h.tape
 output:=h.output
 size:=h.size
 block k hk hn:=by
  by_cases e:k=l
  ·subst e;exact hl
  ·exact h.block k hk e hn
 imin:=h.imin
 imnew:=h.imnew
 env:=h.env
 keys:=hk
 regnew:=h.regnew
 fit:=h.fit
theorem RRx.putOff {Γ:Base} {s:St} {t:Array Value} (h:RRx Γ β Im s t w) (o:Off l β w Im s.regs) (h0:Γ.W0.heap.size<=l) (hm:l ∉ Γ.marks) (x:Obj):RRx Γ β Im s t (w.putObj l x):=by
 have hoth:∀ k,k≠l->(w.putObj l x).heap[k]? = w.heap[k]?:=fun k hk=>World.putObj_heap_other hk
 have hk:Keeps w Im (w.putObj l x) Im:=⟨fun _ h=>h,fun b hb=>hoth b fun e=>o.im (e ▸ hb)⟩
 exact {
     fit:=h.fit.putOff o x,os:=h.os,tape:=h.tape,output:=h.output,size:=by rw [World.putObj_size];exact h.size,block:=fun k hk' hn=>(hoth k omg).trans (h.block k hk' hn),imin:=h.imin,imnew:=h.imnew,regnew:=h.regnew,fixed:=h.fixed
     glob:=Γ.mono hk h.glob,mnod:=h.mnod,marks:=fun D hD=>by obtain ⟨m1,m2,m3,m4⟩:=h.marks D hD;exact ⟨(hoth D fun e=>hm (e ▸ hD)).trans m1,m2,m3,m4⟩ }
end
def TFit (β:Env) (w:World) (Im:Nat->Prop) (ls:List L) (t:Array Value):Prop:=t.size=ls.length/\∀ i m,ls[i]? = some m->LRep β w Im (t.getD i undef) m
def J0w:List Tmp->List PV->List L->List L
 | p :: ps,x :: xs,t=>J0w ps xs (t.set p (.p x))
 | _,_,t=>t
theorem TFit.set {β:Env} {w:World} {Im:Nat->Prop} {ls:List L} {t:Array Value} (h:TFit β w Im ls t) (p:Tmp) {v:Value} {x:PV} (hv:PRep w Im v x):TFit β w Im (ls.set p (.p x)) (t.setIfInBounds p v):=by
 refine ⟨by simp [h.1],fun i m hm=>?_⟩;rw [Ebn] at hm;by_cases hd:p=i
 ·subst hd;rw [if_pos rfl] at hm;split at hm
  ·cases hm;rename_i hlt;have:p<t.size:=by rw [h.1];exact hlt
   simp [Eas,this];exact hv
  ·cases hm
 ·rw [if_neg hd] at hm;have:=h.2 i m hm;simpa [Eas,Eb2,hd] using this
theorem J0n {β:Env} {w:World} {Im:Nat->Prop}:∀ (ps:List Tmp) (xs:List PV) (us:List Value) (ls:List L) (t:Array Value),TFit β w Im ls t->Jh6 w Im us xs->TFit β w Im (J0w ps xs ls) ((ps.zip us).foldl (fun t (p,v)=>t.setIfInBounds p v) t)
 | [],_,_,ls,t,h,_=>h
 | p :: ps,[],us,ls,t,h,hv=>by
  have:us=[]:=Eal (by simpa using hv.1);subst this;exact h
 | p :: ps,x :: xs,us,ls,t,h,hv=>by
  match us,hv with
  | u :: us,hv =>
   exact J0n ps xs us _ _ (h.set p (hv.2 0 u x rfl rfl)) ⟨by simpa using hv.1,fun i v p h1 h2=>hv.2 (i+1) v p h1 h2⟩
theorem Kfm {β:Env} {w:World} {Im:Nat->Prop} {ls:List L} {t:Array Value} {rs:Regs} (h:TFit β w Im ls t) (k:Fit β w Im ⟨[],rs⟩ #[]):Fit β w Im ⟨ls,rs⟩ t :=
 { k with size:=h.1,tmps:=h.2 }
def lwpA (X:Cx):Code->(St->Prop)->St->Prop
 | .skip,K,s=>K s
 | .region _ ops draw,K,s=>match draw with
  | false=>lops X (ops.toList.map (·.dst)) ops.toList K s
  | true=>False
 | .seq a b,K,s=>lwpA X a (lwpA X b K) s
 | _,_,_=>False
section
variable {X:Cx} {Γ:Base} {ro:Option Nat}
theorem J6 {ms:List Nat} {ops:Array Oper} {K:St->Prop} {Q:Exit->Act->World->Prop} {n:Nat} (hG:Γ.G=X.G) (hQ:∀ s a w,K s->RRm Γ ms s a w->Q .normal a w):∀ (os:List Oper) (i:Nat),(∀ j,os[j]? = ops[i+j]?)->∀ (s:St) (a:Act) (w:World),RRm Γ ms s a w ->
  lops X (ops.toList.map (·.dst)) os K s->wpOpsIn (F0 ro) n X.P ops Q (List.range' i os.length) a w
 | [],i,_,s,a,w,h,hl=>by simpa [wpOpsIn] using hQ s a w hl h
 | o :: os,i,hi,s,a,w,h,hl=>by
  have h0:ops[i]? = some o:=by simpa using (hi 0).symm
  have hi':∀ j,os[j]? = ops[i+1+j]?:=fun j=>by have:=hi (j+1);simpa [Ebx,Ecr 1 j] using this
  simp only [List.length_cons,List.range'_succ,wpOpsIn,h0];simp only [lops] at hl;obtain ⟨s',h',hc⟩:=Gb h.rr hl;have hm:RRm Γ ms s' a w:=by
   obtain ⟨ms',h1,h2⟩:=h';have:ms'=ms:=by
    have e:=h1.symm.trans h.1;have inj:∀ (x y:List Nat),x.map F6=y.map F6->x=y:=by
     intro x
     induction x with
     | nil=>intro y hy;cases y <;> first | rfl | cases hy
     | cons a x ih =>
      intro y hy;cases y with
      | nil=>cases hy
      | cons b y =>
       simp only [Eat,Ecu] at hy;have e1:a=b:=by
        have:=congrArg Deferred.target hy.1;simpa [F6] using this
       rw [e1,ih y hy.2]
    exact inj _ _ e
   subst this;exact ⟨h1,h2⟩
  rcases hc with ⟨hA,hw⟩ | ⟨hB,hw⟩
  ·rw [if_pos (hw o rfl)];exact Oper.wpIn_mono (fun a' w' ⟨s2,hs2,hr2⟩=>J6 hG hQ os (i+1) hi' s2 a' w' hr2 hs2) (Lm hG hm hA)
  ·rw [if_neg (by rw [hw o rfl];simp)];obtain ⟨hdef,β,Im,hx⟩:=hm;exact ⟨fun _ _=>trivial,J6 hG hQ os (i+1) hi' _ _ w ⟨Bf hdef,β,Im,hx.put o.dst H0⟩ hB⟩
theorem Lj {ms:List Nat} (hG:Γ.G=X.G):∀ (c:Code) (K:St->Prop) (s:St) (a:Act) (w:World),RRm Γ ms s a w->lwpA X c K s->c.wpIn (F0 ro) 1 X.P (Exit.then (fun a w=>∃ s,K s/\RRm Γ ms s a w) (fun _ _ _=>False)) a w
 | .skip,K,s,a,w,hr,h=>wpIn_skip ⟨s,h,hr⟩
 | .region id ops false,K,s,a,w,hr,h=>by
  refine wpIn_region ?_;have:=J6 (X:=X) (Γ:=Γ) (ro:=ro) (n:=1) (ops:=ops) (K:=K) (Q:=Exit.then (fun a w=>∃ s,K s/\RRm Γ ms s a w) (fun _ _ _=>False)) hG (fun s a w h1 h2=>⟨s,h1,h2⟩) ops.toList 0 sm s a w hr h;rw [Array.length_toList] at this;rw [List.range_eq_range'];exact this
 | .region id ops true,K,s,a,w,hr,h=>h.elim
 | .seq x y,K,s,a,w,hr,h=>by
  simp only [lwpA] at h;refine wpIn_seq (wpIn_mono (Lj hG x _ s a w hr h) fun e a w hq=>?_);cases e with
  | normal=>obtain ⟨s',h1,h2⟩:=hq;exact Lj hG y K s' a w h2 h1
  | exit id=>exact hq.elim
  | ret=>exact hq.elim
  | goto l=>exact hq.elim
  | panic c=>exact hq.elim
  | outgrown=>exact hq.elim
 | .cond ..,_,_,_,_,_,h=>h.elim
 | .block ..,_,_,_,_,_,h=>h.elim
 | .loop ..,_,_,_,_,_,h=>h.elim
 | .exit ..,_,_,_,_,_,h=>h.elim
 | .ret,_,_,_,_,_,h=>h.elim
 | .label ..,_,_,_,_,_,h=>h.elim
 | .rangeFunc ..,_,_,_,_,_,h=>h.elim
 | .scope ..,_,_,_,_,_,h=>h.elim
 | .goto ..,_,_,_,_,_,h=>h.elim
 | .refuse ..,_,_,_,_,_,h=>h.elim
end
end Go.LX
