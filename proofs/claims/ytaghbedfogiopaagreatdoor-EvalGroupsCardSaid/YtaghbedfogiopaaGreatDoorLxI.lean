/- Code on logical states: what is to be shown; loops; contracts of functions. -/
import Derived.Test.YtaghbedfogiopaaGreatDoorLxH
import Derived.RangeFuncRecord
set_option linter.unusedSimpArgs false
set_option linter.unusedVariables false
set_option linter.unusedSectionVars false
set_option linter.unnecessarySimpa false
namespace Go.LX
open Go Go.RowKit Go.Proofs
inductive Ex where
 | normal
 | exit (id:Nat)
 | ret
def QQ (Γ:Base) (Q:Ex->St->Prop):Exit->Act->World->Prop
 | .normal,a,w=>∃ s,Q .normal s/\RR Γ s a w
 | .exit id,a,w=>∃ s,Q (.exit id) s/\RR Γ s a w
 | .ret,a,w=>∃ s,Q .ret s/\RR Γ s a w
 | _,_,_=>False
def Base.loopAt (Γ:Base) (l:Nat):Prop:=(∃ r,Γ.W0.heap[l]? = some (.loop r))/\¬ Γ.may l
def GOK (X:Cx) (ro:Option Nat) (Γ:Base):Prop:=Γ.G=X.G/\∀ l,ro=some l->Γ.loopAt l
theorem Kdl {X:Cx} {Γ:Base} (h:Γ.G=X.G):GOK X none Γ:=⟨h,fun _ h=>by cases h⟩
def SWP (X:Cx) (ro:Option Nat) (c:Code) (Q:Ex->St->Prop) (s:St):Prop:=∀ Γ a w,GOK X ro Γ->RR Γ s a w->c.wpIn (F0 ro) 1 X.P (QQ Γ Q) a w
def kseq (B:(Ex->St->Prop)->St->Prop) (Q:Ex->St->Prop):Ex->St->Prop
 | .normal,s=>B Q s
 | .exit id,s=>Q (.exit id) s
 | .ret,s=>Q .ret s
def Nq (id:Nat) (Q:Ex->St->Prop):Ex->St->Prop
 | .normal,s=>Q .normal s
 | .exit id',s=>if id'=id then Q .normal s else Q (.exit id') s
 | .ret,s=>Q .ret s
def O0 (l:L) (A B:St->Prop) (s:St):Prop :=
 match l with
 | .p (.bool t)=>(t=true->A s)/\(t=false->B s)
 | _=>False
def lwp (X:Cx) (ro:Option Nat):Code->(Ex->St->Prop)->St->Prop
 | .skip,Q,s=>Q .normal s
 | .region id ops draw,Q,s=>match draw with
  | false=>lops X (ops.toList.map (·.dst)) ops.toList (Q .normal) s
  | true=>SWP X ro (.region id ops true) Q s
 | .seq a b,Q,s=>lwp X ro a (kseq (lwp X ro b) Q) s
 | .cond c a b,Q,s=>O0 (s.get c) (lwp X ro a Q) (lwp X ro b Q) s
 | .block id c,Q,s=>lwp X ro c (Nq id Q) s
 | .loop c,Q,s=>SWP X ro (.loop c) Q s
 | .exit id,Q,s=>Q (.exit id) s
 | .ret,Q,s=>Q .ret s
 | .label _,Q,s=>Q .normal s
 | .scope c,Q,s=>lwp X ro c Q s
 | c,Q,s=>SWP X ro c Q s
theorem Js {P:Program} {b:Frame} {a:Act} {k:List Item} {cs:List Frame} {w:World} {c:Code}:step P (lone (b.atR a (.code (.scope c) :: k)) cs w)=.next (lone (b.atR a (.code c :: .inScope c :: k)) cs w) :=
 step_lone_go (by simp [stepG,stepG.exec,Frame.atR])
theorem S3 {P:Program} {b:Frame} {a:Act} {k:List Item} {cs:List Frame} {w:World} {c:Code}:step P (lone (b.atR a (.inScope c :: k)) cs w)=.next (lone (b.atR a k) cs w) :=
 step_lone_go (by simp [stepG,stepG.exec,Frame.atR])
section
variable {X:Cx} {ro:Option Nat}
theorem Ae (hm:X.P.follows .mixedOrders=true):∀ (c:Code) (Q:Ex->St->Prop) (s:St),lwp X ro c Q s->SWP X ro c Q s:=by
 intro c
 induction c with
 | skip=>exact fun Q s h Γ a w hG hr=>wpIn_skip ⟨s,h,hr⟩
 | region id ops draw =>
  intro Q s h Γ a w hG hr;cases draw with
  | false =>
   simp only [lwp] at h;refine wpIn_region ?_;have:=Lv (X:=X) (Γ:=Γ) (ro:=ro) (n:=1) (ops:=ops) (K:=Q .normal) (Q:=QQ Γ Q) hG.1 (fun s a w h1 h2=>⟨s,h1,h2⟩) ops.toList 0 sm s a w hr h;rw [Array.length_toList] at this;rw [List.range_eq_range'];exact this
  | true =>
   exact h Γ a w hG hr
 | seq x y ihx ihy =>
  intro Q s h Γ a w hG hr;simp only [lwp] at h;refine wpIn_seq (wpIn_mono (ihx _ s h Γ a w hG hr) fun e a w hq=>?_);cases e with
  | normal=>obtain ⟨s',h1,h2⟩:=hq;exact ihy Q s' h1 Γ a w hG h2
  | exit id=>exact hq
  | ret=>exact hq
  | goto l=>exact hq.elim
  | panic c=>exact hq.elim
  | outgrown=>exact hq.elim
 | cond c x y ihx ihy =>
  intro Q s h Γ a w hG hr;simp only [lwp,O0] at h;have hr':=hr;obtain ⟨ms,hdef,β,Im,hx⟩:=hr';have hc:=A2 hx.fit c;split at h
  ·rename_i t hg;rw [hg] at hc;cases hv:a.eval c <;> rw [hv] at hc <;> cases hc;exact wpIn_cond_split hv (fun ht=>ihx Q s (h.1 ht) Γ a w hG hr) (fun ht=>ihy Q s (h.2 ht) Γ a w hG hr)
  ·exact h.elim
 | block id c ih =>
  intro Q s h Γ a w hG hr;simp only [lwp] at h;refine wpIn_block (wpIn_mono (ih _ s h Γ a w hG hr) fun e a w hq=>?_);cases e with
  | normal=>exact hq
  | exit id' =>
   obtain ⟨s',h1,h2⟩:=hq;simp only [Nq] at h1;simp only [Exit.inBlock];split at h1
   ·rename_i he;rw [if_pos he];exact ⟨s',h1,h2⟩
   ·rename_i he;rw [if_neg he];exact ⟨s',h1,h2⟩
  | ret=>exact hq
  | goto l=>exact hq.elim
  | panic c=>exact hq.elim
  | outgrown=>exact hq.elim
 | loop c _=>exact fun Q s h=>h
 | exit id=>exact fun Q s h Γ a w hG hr=>wpIn_exit ⟨s,h,hr⟩
 | ret=>exact fun Q s h Γ a w hG hr=>wpIn_ret ⟨s,h,hr⟩
 | label l=>exact fun Q s h Γ a w hG hr=>wpIn_label ⟨s,h,hr⟩
 | rangeFunc f ps asg c _ _=>exact fun Q s h=>h
 | scope c ih =>
  intro Q s h Γ a w hG hr;simp only [lwp] at h;intro b k cs hro hb hroom;obtain ⟨e,a₁,w₁,hq,harr⟩:=ih Q s h Γ a w hG hr b (.inScope c :: k) cs hro hb hroom;cases e with
  | normal=>exact ⟨.normal,a₁,w₁,hq,.of_steps (.one (fenced_calm hb hroom rfl) Js) (StepsIn.trans harr (.one (fenced_calm hb hroom rfl) S3))⟩
  | exit id =>
   have hx:∀ id (k:List Item),exitTo id (Item.inScope c :: k)=exitTo id k:=fun id k=>by simp [exitTo]
   exact ⟨.exit id,a₁,w₁,hq,.of_steps (.one (fenced_calm hb hroom rfl) Js) ⟨fun k' hk=>harr.1 k' (by rw [hx];exact hk),fun hr hk=>harr.2 hr (by rw [hx];exact hk)⟩⟩
  | ret=>exact ⟨.ret,a₁,w₁,hq,.of_steps (.one (fenced_calm hb hroom rfl) Js) harr⟩
  | goto l=>exact hq.elim
  | panic ch=>exact hq.elim
  | outgrown=>exact hq.elim
 | goto l=>exact fun Q s h=>h
 | refuse why=>exact fun Q s h=>h
def calmOp:Op->Bool
 | .alloc _ | .box .. | .store .. | .makeSlice .. | .mapUpdate .. | .mapEntry .. | .entryStore .. | .makeMap .. | .insert .. | .next .. | .range ..=>false
 | .call { callee:=.builtin .append,.. }=>false
 | .call { callee:=.builtin .delete,.. }=>false
 | _=>true
def Jd9:List Oper->Bool
 | []=>true
 | o :: l=>match calmOp o.op with
  | true=>Jd9 l
  | false=>false
theorem Ah {id:Nat} {ops:Array Oper} {Q:Ex->St->Prop} {s:St} (hm:X.P.follows .mixedOrders=true) (_:Jd9 ops.toList=true) (hB:Region.lexB .any ops=true) (h:Jf X (ops.toList.map (·.dst)) ops.toList (Q .normal) s):SWP X ro (.region id ops true) Q s :=
 fun Γ a w hG hr=>Xt hG.1 hm hB (K:=Q .normal) (Q:=QQ Γ Q) (fun s _ _ h1 h2=>⟨s,h1,h2⟩) hr h
inductive Ord where
 | leaf
 | nil
 | bad
 | node (i:Nat) (sub next:Ord)
def P6 (ops:Array Oper):Nat->Array Bool->Ord
 | 0,listed=>match Region.ready .any ops listed with
  | []=>.leaf
  | _=>.bad
 | f+1,listed=>match Region.ready .any ops listed with
  | []=>.leaf
  | is=>is.foldr (fun i acc=>.node i (P6 ops f (listed.setIfInBounds i true)) acc) .nil
def lAt (X:Cx) (ds:List (Option Tmp)) (ops:List Oper) (i:Nat) (C:St->Prop) (s:St):Prop :=
 match ops[i]? with
 | some o=>F4 ds o.guard (lop X o C) (F9 o.dst C) s
 | none=>False
def lOrd (X:Cx) (ds:List (Option Tmp)) (ops:List Oper) (K:St->Prop):Ord->St->Prop
 | .leaf,s=>K s
 | .nil,_=>True
 | .bad,_=>False
 | .node i sub next,s=>lAt X ds ops i (lOrd X ds ops K sub) s/\lOrd X ds ops K next s
theorem Uc {Γ:Base} {ops:Array Oper} {i:Nat} {C:St->Prop} {s:St} {a:Act} {w:World} {Q:Exit->Act->World->Prop} {n:Nat} (hG:Γ.G=X.G) (hr:RR Γ s a w) (h:lAt X (ops.toList.map (·.dst)) ops.toList i C s) :
  wpOpIn (F0 ro) n X.P ops Q i (fun a' w'=>∃ s',C s'/\RR Γ s' a' w') a w:=by
 unfold lAt at h;rw [Ecd] at h;unfold wpOpIn;split at h
 ·rename_i o ho;simp only [ho];obtain ⟨s',h',hc⟩:=Gb hr h;rcases hc with ⟨hA,hw⟩ | ⟨hB,hw⟩
  ·rw [if_pos (hw o rfl)];exact T5 hG h' hA
  ·rw [if_neg (by rw [hw o rfl];simp)];obtain ⟨ms,hdef,β,Im,hx⟩:=h';exact ⟨fun _ _=>trivial,_,hB,ms,Bf hdef,β,Im,hx.put o.dst H0⟩
 ·exact h.elim
theorem SWP.mono {c:Code} {Q Q':Ex->St->Prop} {s:St} (h:SWP X ro c Q s) (hq:∀ e s,Q e s->Q' e s):SWP X ro c Q' s:=fun Γ a w hG hr =>
 wpIn_mono (h Γ a w hG hr) fun e a w hq'=>by
  cases e with
  | normal=>obtain ⟨s',h1,h2⟩:=hq';exact ⟨s',hq _ _ h1,h2⟩
  | exit id=>obtain ⟨s',h1,h2⟩:=hq';exact ⟨s',hq _ _ h1,h2⟩
  | ret=>obtain ⟨s',h1,h2⟩:=hq';exact ⟨s',hq _ _ h1,h2⟩
  | goto l=>exact hq'.elim
  | panic c=>exact hq'.elim
  | outgrown=>exact hq'.elim
def St.Le (s s':St):Prop:=∀ Γ a w,RR Γ s a w->RR Γ s' a w
theorem St.Le.refl (s:St):s.Le s:=fun _ _ _ h=>h
theorem St.Le.trans {s s' s'':St} (h:s.Le s') (k:s'.Le s''):s.Le s'':=fun Γ a w hr=>k Γ a w (h Γ a w hr)
theorem Jqg {c:Code} {Q:Ex->St->Prop} {s s':St} (hle:s.Le s') (h:SWP X ro c Q s'):SWP X ro c Q s:=fun Γ a w hG hr=>h Γ a w hG (hle Γ a w hr)
def kloop {ι:Type} (I:ι->St) (Pre:ι->Prop) (μ:ι->Nat) (x:ι) (Q:Ex->St->Prop):Ex->St->Prop
 | .normal,s=>∃ y,Pre y/\μ y<μ x/\s.Le (I y)
 | .exit id,s=>Q (.exit id) s
 | .ret,s=>Q .ret s
theorem SWP.loop {ι:Type} (I:ι->St) (Pre:ι->Prop) (μ:ι->Nat) (x0:ι) {c:Code} {Q:Ex->St->Prop} {s:St} (hs:s.Le (I x0)) (h0:Pre x0) (round:∀ x,Pre x->SWP X ro c (kloop I Pre μ x Q) (I x)) :
  SWP X ro (.loop c) Q s:=by
 intro Γ a w hG hr;have key:∀ n x,μ x=n->Pre x->∀ a w,RR Γ (I x) a w->∀ (b:Frame) (k:List Item) (cs:List Frame),b.roundOf=(F0 ro).round->(F0 ro).fn b.fn->(F0 ro).room (cs.length+1+1) ->
   ∃ e a' w',QQ Γ Q e a' w'/\ArrivesIn (Machine.fenced X.P (F0 ro)) X.P (lone (b.atR a (.code c :: .inLoop c :: k)) cs w) b k cs e a' w':=by
  intro n
  induction n using Nat.strongRecOn with
  | _ n ih =>
   intro x hn hP a w hr b k cs hro hb hroom;obtain ⟨e,a₁,w₁,hq,harr⟩:=round x hP Γ a w hG hr b (.inLoop c :: k) cs hro hb hroom;cases e with
   | normal =>
    obtain ⟨s',⟨y,hy,hlt,hle⟩,h2⟩:=hq;obtain ⟨e₂,a₂,w₂,hq₂,harr₂⟩:=ih (μ y) (hn ▸ hlt) y rfl hy a₁ w₁ (hle Γ a₁ w₁ h2) b k cs hro hb hroom;exact ⟨e₂,a₂,w₂,hq₂,.of_steps (StepsIn.trans harr (.one (fenced_calm hb hroom rfl) stepR_inLoop)) harr₂⟩
   | exit id =>
    obtain ⟨s',h1,h2⟩:=hq;exact ⟨.exit id,a₁,w₁,⟨s',h1,h2⟩,.pass (x:=.inLoop c) rfl (fun _ _=>.inl sm) harr⟩
   | ret =>
    obtain ⟨s',h1,h2⟩:=hq;exact ⟨.ret,a₁,w₁,⟨s',h1,h2⟩,.pass (x:=.inLoop c) rfl (fun _ _=>.inl sm) harr⟩
   | goto l=>exact hq.elim
   | panic ch=>exact hq.elim
   | outgrown=>exact hq.elim
 intro b k cs hro hb hroom;obtain ⟨e,a',w',hq,harr⟩:=key _ x0 rfl h0 a w (hs Γ a w hr) b k cs hro hb hroom;exact ⟨e,a',w',hq,.of_steps (.one (fenced_calm hb hroom rfl) stepR_loop) harr⟩
theorem pure?_spec {l:L} {p:PV} (h:l.pure? = some p):l=.p p:=by
 cases l <;> simp [L.pure?] at h;rw [h]
end
def LLe (l l':L):Prop:=l'=.junk\/l=l'\/(l=.p .snil/\l'=.p (.sl []))
def Aw:List L->List L->Prop
 | [],[]=>True
 | l :: r,l' :: r'=>LLe l l'/\Aw r r'
 | _,_=>False
def Jbp:List (List L)->List (List L)->Prop
 | [],[]=>True
 | e :: r,e' :: r'=>Aw e e'/\Jbp r r'
 | _,_=>False
def A3:Reg->Reg->Prop
 | .var T cs,.var T' cs'=>T=T'/\Aw cs cs'
 | .row T sz es,.row T' sz' es'=>T=T'/\sz=sz'/\es=es'
 | .row T sz es,.lrow T' sz' f es'=>T=T'/\sz=sz'/\f=false/\es'=es.map fun e=>e.map L.p
 | .lrow T sz f es,.lrow T' sz' f' es'=>T=T'/\sz=sz'/\(f'=true->f=true)/\Jbp es es'
 | .lrow T sz _ es,.row T' sz' es'=>T=T'/\sz=sz'/\Cb es=some es'
 | .obj o,.obj o'=>o=o'
 | _,_=>False
def Az (rs:Regs):Regs->Prop
 | []=>True
 | (d,r') :: rest=>(match Am d rs with | some r=>A3 r r' | none=>False)/\Az rs rest
def Ay:Regs->Prop
 | []=>True
 | (d,_) :: rest=>d ∉ rest.map (·.1)/\Ay rest
theorem Af (l:L):LLe l .junk:=.inl rfl
theorem Ai (l:L):LLe l l:=.inr (.inl rfl)
theorem Au (x y:PV):LLe (.p x) (.p y) ↔ (x=y\/(x=.snil/\y=.sl [])):=by
 simp [LLe]
theorem LLe.rep {β:Env} {w:World} {Im:Nat->Prop} {v:Value} {l l':L} (h:LLe l l') (hr:LRep β w Im v l):LRep β w Im v l':=by
 rcases h with rfl | rfl | ⟨rfl,rfl⟩
 ·trivial
 ·exact hr
 ·cases hr;exact PRep.slNil
theorem Fp:∀ {a b:List L},Aw a b->a.length=b.length/\∀ (i:Nat) (l':L),b[i]? = some l'->∃ l,a[i]? = some l/\LLe l l'
 | [],[],_=>⟨rfl,fun i l' h=>by simp at h⟩
 | x :: a,y :: b,h=>by
  obtain ⟨h1,h2⟩:=h;obtain ⟨h3,h4⟩:=Fp h2;refine ⟨by simp [h3],fun i l' hl=>?_⟩;cases i with
  | zero=>simp at hl;subst hl;exact ⟨x,rfl,h1⟩
  | succ i=>simp at hl;simpa using h4 i l' hl
 | [],_ :: _,h=>h.elim
 | _ :: _,[],h=>h.elim
theorem LLe.cell {l l':L} (h:LLe l l') (hc:l.cellOK=true\/l=.junk):l'.cellOK=true\/l'=.junk:=by
 rcases h with rfl | rfl | ⟨rfl,rfl⟩
 ·exact .inr rfl
 ·exact hc
 ·exact .inl rfl
theorem O1:∀ {a b:List (List L)},Jbp a b->a.length=b.length/\∀ (i:Nat) (e':List L),b[i]? = some e'->∃ e,a[i]? = some e/\Aw e e'
 | [],[],_=>⟨rfl,fun i l' h=>by simp at h⟩
 | x :: a,y :: b,h=>by
  obtain ⟨h1,h2⟩:=h;obtain ⟨h3,h4⟩:=O1 h2;refine ⟨by simp [h3],fun i l' hl=>?_⟩;cases i with
  | zero=>simp at hl;subst hl;exact ⟨x,rfl,h1⟩
  | succ i=>simp at hl;simpa using h4 i l' hl
 | [],_ :: _,h=>h.elim
 | _ :: _,[],h=>h.elim
theorem A3.rep {β:Env} {w:World} {Im:Nat->Prop} {d:Nat} {r r':Reg} (h:A3 r r') (hr:Ci β w Im d r):Ci β w Im d r':=by
 cases r <;> cases r' <;> simp only [A3] at h
 ·obtain ⟨rfl,h⟩:=h;obtain ⟨h1,h2⟩:=Fp h;obtain ⟨loc,cur,g1,g2,g3,g4,g5,g6⟩:=hr;refine ⟨loc,cur,g1,by rw [<- h1];exact g2,g3,g4,by rw [<- h1];exact g5,fun j v l hv hl=>?_⟩;obtain ⟨l0,hl0,hle⟩:=h2 j l hl;exact ⟨hle.rep (g6 j v l0 hv hl0).1,hle.cell (g6 j v l0 hv hl0).2⟩
 ·obtain ⟨rfl,rfl,rfl⟩:=h;exact hr
 ·obtain ⟨rfl,rfl,rfl,rfl⟩:=h;rcases hr with ⟨g1,g2⟩ | ⟨loc,cur,g1,g2,g3,g4,g5,g6,g7,g8⟩
  ·exact .inl ⟨g1,by simp [g2]⟩
  ·refine .inr ⟨loc,cur,g1,g2,g3,g4,by simpa using g5,fun h=>(by cases h),g6,fun e he=>?_,fun i e j l hi hj=>?_⟩
   ·obtain ⟨x,hx,rfl⟩:=Eap.1 he;simpa using (g7 x hx).1
   ·rw [Eam] at hi;obtain ⟨x,hx,rfl⟩:=Eak.1 hi;rw [Eam] at hj;obtain ⟨p,hp,rfl⟩:=Eak.1 hj;obtain ⟨v,hv,hpr⟩:=g8 i x j p hx hp;exact ⟨v,hv,hpr,.inl ((g7 x (Eae hx)).2 p (Eae hp))⟩
 ·obtain ⟨rfl,rfl,h⟩:=h;obtain ⟨h1,h2⟩:=Dh h;rcases hr with ⟨g1,g2⟩ | ⟨loc,cur,g1,g2,g3,g4,g5,g6,g7,g8,g9⟩
  ·subst g2;exact .inl ⟨g1,Eal (by simpa using h1.symm)⟩
  ·have key:∀ (i:Nat) (q:List PV) (j:Nat) (p:PV),‹List (List PV)›[i]? = some q->q[j]? = some p->∃ e,‹List (List L)›[i]? = some e/\e[j]? = some (.p p)/\e.length=q.length:=by
    intro i q j p hi hj;obtain ⟨e,he,ha⟩:=h2 i q hi;obtain ⟨k1,k2⟩:=Bh ha;obtain ⟨l,hl⟩:=getElem?_of_length k1 hj;have:=pure?_spec (k2 j l p hl hj);subst this;exact ⟨e,he,hl,k1⟩
   refine .inr ⟨loc,cur,g1,g2,g3,g4,by rw [<- h1];exact g5,g7,fun q hq=>?_,fun i q j p hi hj=>?_⟩
   ·obtain ⟨i,hi,rfl⟩:=Ea6 hq;obtain ⟨e,he,ha⟩:=h2 i _ (Eaa hi);obtain ⟨k1,k2⟩:=Bh ha;refine ⟨by rw [<- k1];exact g8 e (Eae he),fun p hp=>?_⟩;obtain ⟨j,hj,rfl⟩:=Ea6 hp;obtain ⟨e',he',hl',_⟩:=key i _ j _ (Eaa hi) (Eaa hj);obtain ⟨v,_,_,hc⟩:=g9 i e' j _ he' hl';rcases hc with hc | hc
    ·exact hc
    ·cases hc
   ·obtain ⟨e',he',hl',_⟩:=key i q j p hi hj;obtain ⟨v,hv,hp,_⟩:=g9 i e' j _ he' hl';exact ⟨v,hv,hp⟩
 ·obtain ⟨rfl,rfl,hf,h⟩:=h;obtain ⟨h1,h2⟩:=O1 h;rcases hr with ⟨g1,g2⟩ | ⟨loc,cur,g1,g2,g3,g4,g5,g6,g7,g8,g9⟩
  ·subst g2;exact .inl ⟨g1,Eal (by simpa using h1.symm)⟩
  ·refine .inr ⟨loc,cur,g1,g2,g3,g4,by rw [<- h1];exact g5,fun h=>by rw [<- h1];exact g6 (hf h),g7,fun q hq=>?_,fun i q j l hi hj=>?_⟩
   ·obtain ⟨i,hi,rfl⟩:=Ea6 hq;obtain ⟨e,he,hle⟩:=h2 i _ (Eaa hi);rw [<- (Fp hle).1];exact g8 e (Eae he)
   ·obtain ⟨e,he,hle⟩:=h2 i q hi;obtain ⟨l0,hl0,hl⟩:=(Fp hle).2 j l hj;obtain ⟨v,hv,hr,hc⟩:=g9 i e j l0 he hl0;exact ⟨v,hv,hl.rep hr,hl.cell hc⟩
 ·subst h;exact hr
theorem D3 {rs:Regs}:∀ {rs':Regs},Az rs rs'->∀ d r',(d,r')∈rs'->∃ r,(d,r)∈rs/\A3 r r'
 | [],_,d,r',h=>by cases h
 | (e,q) :: rest,h,d,r',hm=>by
  obtain ⟨h1,h2⟩:=h;rcases Eaj.1 hm with hm | hm
  ·cases hm;split at h1
   ·rename_i r hr;exact ⟨r,Ax hr,h1⟩
   ·exact h1.elim
  ·exact D3 h2 d r' hm
theorem Md:∀ {rs:Regs},Ay rs->(rs.map (·.1)).Nodup
 | [],_=>.nil
 | (d,r) :: rest,h=>by simp only [Eat,Eb0];exact ⟨h.1,Md h.2⟩
theorem Kbu {s s':St} (ht:Aw s.tmps s'.tmps) (hr:Az s.regs s'.regs) (hk:Ay s'.regs):s.Le s':=by
 rintro Γ a w ⟨ms,hdef,β,Im,hx⟩;obtain ⟨h1,h2⟩:=Fp ht;refine ⟨ms,hdef,β,Im,{ hx with fit:={ size:=by rw [<- h1];exact hx.fit.size,tmps:=fun i l hl=>?_,regs:=fun d r hd=>?_,nodup:=Md hk,live:=fun d r loc hd hl=>?_,apart:=fun d r d' r' l1 l2 hd hd' hne hl hl'=>?_,im:=hx.fit.im },regnew:=fun d r loc hd hl=>?_,marks:=fun D hD=>?_ }⟩
 ·obtain ⟨l0,hl0,hle⟩:=h2 i l hl;exact hle.rep (hx.fit.tmps i l0 hl0)
 ·obtain ⟨r0,h3,h4⟩:=D3 hr d r hd;exact h4.rep (hx.fit.regs d r0 h3)
 ·obtain ⟨r0,h3,h4⟩:=D3 hr d r hd;exact hx.fit.live d r0 loc h3 hl
 ·obtain ⟨r0,h3,_⟩:=D3 hr d r hd;obtain ⟨r1,h4,_⟩:=D3 hr d' r' hd';exact hx.fit.apart d r0 d' r1 l1 l2 h3 h4 hne hl hl'
 ·obtain ⟨r0,h3,h4⟩:=D3 hr d r hd;exact hx.regnew d r0 loc h3 hl
 ·obtain ⟨m1,m2,m3,m4⟩:=hx.marks D hD;refine ⟨m1,m2,m3,fun d r loc hd hl=>?_⟩;obtain ⟨r0,h3,_⟩:=D3 hr d r hd;exact m4 d r0 loc h3 hl
def Fb (d d' e:Nat):Option Nat:=if e=d then some d' else if e=d' then none else some e
def Eu (d d':Nat):Regs->Regs
 | []=>[]
 | (e,r) :: rest=>match Fb d d' e with
  | some n=>(n,r.map (Fb d d')) :: Eu d d' rest
  | none=>Eu d d' rest
def St.ren (d d':Nat) (s:St):St:=⟨s.tmps.map (L.map (Fb d d')),Eu d d' s.regs⟩
theorem C2 {d d' n:Nat} {q:Reg}:∀ {rs:Regs},(n,q)∈Eu d d' rs->∃ e r,(e,r)∈rs/\Fb d d' e=some n/\q=r.map (Fb d d')
 | [],h=>by cases h
 | (e,r) :: rest,h=>by
  simp only [Eu] at h;split at h
  ·rename_i m hm;rcases Eaj.1 h with h | h
   ·cases h;exact ⟨e,r,Eaf,hm,rfl⟩
   ·obtain ⟨e',r',h1,h2,h3⟩:=C2 h;exact ⟨e',r',Eag _ h1,h2,h3⟩
  ·obtain ⟨e',r',h1,h2,h3⟩:=C2 h;exact ⟨e',r',Eag _ h1,h2,h3⟩
theorem Jfd {d d' e e' n:Nat} (h:Fb d d' e=some n) (h':Fb d d' e'=some n):e=e':=by
 unfold Fb at h h';split at h <;> split at h'
 ·omega
 ·split at h' <;> simp_all
 ·split at h <;> simp_all
 ·split at h <;> split at h' <;> simp_all
theorem Hj {d d':Nat}:∀ {rs:Regs},(rs.map (·.1)).Nodup->((Eu d d' rs).map (·.1)).Nodup
 | [],_=>.nil
 | (e,r) :: rest,h=>by
  simp only [Eat,Eb0] at h;simp only [Eu];split
  ·rename_i n hn;simp only [Eat,Eb0];refine ⟨fun hm=>?_,Hj h.2⟩;obtain ⟨⟨n',q⟩,hq,he⟩:=Eap.1 hm;simp only at he;subst he;obtain ⟨e',r',h1,h2,_⟩:=C2 hq;exact h.1 (Eap.2 ⟨(e',r'),h1,Jfd h2 hn⟩)
  ·exact Hj h.2
theorem Kav (s:St) {d d':Nat} (hd':d'<1000\/500000<=d'):s.Le (s.ren d d'):=by
 rintro Γ a w ⟨ms,hdef,β,Im,hx⟩;have hf:∀ e n,Fb d d' e=some n->Jqu β d' (β d) n=β e:=by
  intro e n h;unfold Fb at h;split at h
  ·rename_i he;subst he;cases h;exact B4
  ·split at h
   ·cases h
   ·rename_i h1 h2;cases h;exact Oa h2
 refine ⟨ms,hdef,Jqu β d' (β d),Im,{ hx with fit:={ size:=by simpa [St.ren] using hx.fit.size,tmps:=fun i l hl=>?_,regs:=fun n q hm=>?_,nodup:=Hj hx.fit.nodup,live:=fun n q loc hm hl=>?_,apart:=fun n q n' q' l1 l2 hm hm' hne hl hl'=>?_,im:=hx.fit.im },regnew:=fun n q loc hm hl=>?_,fixed:=fun e he he'=>by rw [Oa omg];exact hx.fixed e he he',marks:=fun D hD=>?_ }⟩
 ·simp only [St.ren,Eam] at hl;obtain ⟨l1,hl1,rfl⟩:=Eak.1 hl;exact (hx.fit.tmps i l1 hl1).map hf
 ·obtain ⟨e,r,h1,h2,rfl⟩:=C2 hm;exact (hx.fit.regs e r h1).map hf (hf e n h2)
 ·obtain ⟨e,r,h1,h2,rfl⟩:=C2 hm;rw [hf e n h2] at hl;exact hx.fit.live e r loc h1 hl
 ·obtain ⟨e,r,h1,h2,rfl⟩:=C2 hm;obtain ⟨e',r',k1,k2,rfl⟩:=C2 hm';rw [hf e n h2] at hl;rw [hf e' n' k2] at hl';exact hx.fit.apart e r e' r' l1 l2 h1 k1 (fun hc=>hne (by subst hc;rw [h2] at k2;exact Ea3 k2)) hl hl'
 ·obtain ⟨e,r,h1,h2,rfl⟩:=C2 hm;rw [hf e n h2] at hl;exact hx.regnew e r loc h1 hl
 ·obtain ⟨m1,m2,m3,m4⟩:=hx.marks D hD;refine ⟨m1,m2,m3,fun n q loc hm hl=>?_⟩;obtain ⟨e,r,h1,h2,rfl⟩:=C2 hm;rw [hf e n h2] at hl;exact m4 e r loc h1 hl
def St.nilReg (d:Nat) (T:TypeId) (sz:Nat) (s:St):St:=⟨s.tmps.map (L.forget d),(d,.row T sz []) :: Cv d s.regs⟩
theorem RRx.nilReg {Γ:Base} {β:Env} {Im:Nat->Prop} {s:St} {tmps:Array Value} {w:World} (h:RRx Γ β Im s tmps w) {d:Nat} (hd:d<1000\/500000<=d) (T:TypeId) (sz:Nat):RRx Γ (Jqu β d none) Im (s.nilReg d T sz) tmps w:=by
 have hβ:∀ e,e≠d->Jqu β d none e=β e:=fun e he=>Oa he
 have h2:=h.fit.forget (d:=d) hβ;refine { h with fit:={ h2 with regs:=fun e q hq=>?_,nodup:=?_,live:=fun e q loc hq hl=>?_,apart:=fun e q e' q' loc loc' hq hq' hne hl hl'=>?_ },regnew:=fun e q loc hq hl=>?_,fixed:=fun e he he'=>by rw [hβ e omg];exact h.fixed e he he',marks:=fun D hD=>?_ }
 ·rcases Eaj.1 hq with hq | hq
  ·cases hq;exact .inl ⟨B4,rfl⟩
  ·exact h2.regs e q hq
 ·simp only [St.nilReg,Eat,Eb0];refine ⟨fun hm=>?_,h2.nodup⟩;obtain ⟨⟨e,q⟩,hq,he⟩:=Eap.1 hm;exact (Bn hq).1 he
 ·rcases Eaj.1 hq with hq | hq
  ·cases hq;rw [B4] at hl;cases hl
  ·exact h2.live e q loc hq hl
 ·rcases Eaj.1 hq with hq | hq
  ·cases hq;rw [B4] at hl;cases hl
  ·rcases Eaj.1 hq' with hq' | hq'
   ·cases hq';rw [B4] at hl';cases hl'
   ·exact h2.apart e q e' q' loc loc' hq hq' hne hl hl'
 ·rcases Eaj.1 hq with hq | hq
  ·cases hq;rw [B4] at hl;cases hl
  ·obtain ⟨h3,q',h4,rfl⟩:=Bn hq;rw [hβ e h3] at hl;exact h.regnew e q' loc h4 hl
 ·obtain ⟨m1,m2,m3,m4⟩:=h.marks D hD;refine ⟨m1,m2,m3,fun e q loc hq hl=>?_⟩;rcases Eaj.1 hq with hq | hq
  ·cases hq;rw [B4] at hl;cases hl
  ·obtain ⟨h3,q',h4,rfl⟩:=Bn hq;rw [hβ e h3] at hl;exact m4 e q' loc h4 hl
def St.nilOwn (i d:Nat) (T:TypeId) (sz:Nat) (s:St):St:=(s.nilReg d T sz).put (some i) (.own d 0 0)
theorem Jrw (s:St) {i d:Nat} (T:TypeId) (sz:Nat) (hd:d<1000\/500000<=d) (hi:s.tmps[i]? = some (.p .snil)):s.Le (s.nilOwn i d T sz):=by
 rintro Γ a w ⟨ms,hdef,β,Im,hx⟩;have h1:=hx.nilReg hd T sz;have hrep:=hx.fit.tmps i _ hi;have hlt:=(Eab.1 hi).1;have hv:a.tmps.getD i undef=.slice none 0 0:=by generalize a.tmps.getD i undef=v at hrep;cases hrep;rfl
 have h2:RRx (Γ.wm ms) (Jqu β d none) Im (s.nilOwn i d T sz) (a.put (some i) (.slice none 0 0)).tmps w:=h1.put (some i) (l:=.own d 0 0) (.inr ⟨B4,rfl,rfl,rfl⟩);have e:(a.put (some i) (.slice none 0 0)).tmps=a.tmps:=by
  simp only [Act.put];have hsz:i<a.tmps.size:=by rw [hx.fit.size];exact hlt
  have:a.tmps[i]=.slice none 0 0:=by rw [<- hv];simp [Eas,hsz]
  rw [<- Ebj];simp only [Array.toList_setIfInBounds];rw [<- this];exact List.set_getElem_self (by simpa using hsz)
 rw [e] at h2;exact ⟨ms,hdef,_,_,h2⟩
def setCell (j:Nat) (l:L):Reg->Reg
 | .var T cs=>.var T (cs.set j l)
 | r=>r
def St.nilCell (b j d:Nat) (T:TypeId) (sz:Nat) (s:St):St :=
 match Am b (s.nilReg d T sz).regs with
 | some r=>{ (s.nilReg d T sz) with regs:=Bs b (setCell j (.own d 0 0) r) (s.nilReg d T sz).regs }
 | none=>s.nilReg d T sz
theorem Jq2 (s:St) {b j d:Nat} (T:TypeId) (sz:Nat) (hd:d<1000\/500000<=d) {T':TypeId} {cs:List L} (hb:Am b (s.nilReg d T sz).regs=some (.var T' cs)) (hj:cs[j]? = some (.p .snil)):s.Le (s.nilCell b j d T sz):=by
 rintro Γ a w ⟨ms,hdef,β,Im,hx⟩;have h1:=hx.nilReg hd T sz;have hmem:=Ax hb;obtain ⟨loc,cur,g1,g2,g3,g4,g5,g6⟩:=h1.fit.regs b _ hmem;have hreg:Ci (Jqu β d none) w Im b (.var T' (cs.set j (.own d 0 0))):=by
  refine ⟨loc,cur,g1,by simpa using g2,g3,g4,by simpa using g5,fun k v l hv hl=>?_⟩;rw [Ebn] at hl;split at hl
  ·rename_i hk;subst hk;split at hl
   ·cases hl;obtain ⟨h3,_⟩:=g6 j v _ hv hj;refine ⟨?_,.inl rfl⟩;have h3':PRep w Im v .snil:=h3;cases h3';exact .inr ⟨B4,rfl,rfl,rfl⟩
   ·cases hl
  ·exact g6 k v l hv hl
 refine ⟨ms,hdef,Jqu β d none,Im,?_⟩;have:=h1.store hmem g1 (w':=w) rfl rfl rfl rfl (fun _ _=>rfl) hreg;simp only [St.nilCell,hb,setCell];exact this
theorem Jty (s:St) {d:Nat}:s.Le (s.freeze d):=by
 rintro Γ a w ⟨ms,hdef,β,Im,hx⟩;obtain ⟨Im',h⟩:=hx.freeze d;exact ⟨ms,hdef,β,Im',h⟩
def cvF (P:Program) (a b:TypeId) (x:Operand) (dst:Option Tmp) (K:St->Prop) (s:St):Prop:=if Ju3 P a=true then J2z P b (s.get x) (kput dst K s) else J1 P a b (s.get x) (kput dst K s)
def cvG (P:Program) (a b:TypeId) (s:St) (x:Operand) (dst:Option Tmp) (K:St->Prop) (l:L):Prop :=
 match l with
 | .ptr d 0 j=>L6 P a b d j (Am d s.regs) (kput dst K s)
 | .p (.str u)=>Og P a b u s dst K
 | _=>cvF P a b x dst K (s.freezeOps [x])
def lnil (l:L) (K:L->Prop):Prop :=
 match l with
 | .ptr d i j=>K (.ptr d i j)
 | .eptr cs=>K (.eptr cs)
 | .fn f ds=>K (.fn f ds)
 | _=>False
def Qk (l:L) (i:Nat) (K:L->Prop):Prop :=
 match l with
 | .tup xs=>∃ c,xs[i]? = some c/\K (.p c)
 | _=>False
def Jc0 (l a b:L) (K:L->Prop):Prop :=
 match l with
 | .p (.bool t)=>(t=true->K a)/\(t=false->K b)
 | _=>False
def Bi (X:Cx) (f:FuncId) (args:List L) (K:L->Prop):Prop:=∃ l,(Al X f args [] (fun m _=>m=l)/\l.retOK=true)/\K l
def lqvK (P:Program) (r:Regs) (s:St) (op:Op) (K:L->Prop):Prop:=∃ l,lqv P r s.get op l/\K l
section
variable {X:Cx} {ro:Option Nat} {Q:Ex->St->Prop} {K:St->Prop} {t:List L} {r:Regs} {ds:List (Option Tmp)} {rest:List Oper} {ty:TypeId} {ps:String} {af:Array Edge} {dst:Option Tmp}
theorem Jp7 {c:Code}:lwp X ro (.scope c) Q ⟨t,r⟩=lwp X ro c Q ⟨t,r⟩:=(rfl)
theorem e_skip:lwp X ro .skip Q ⟨t,r⟩=Q .normal ⟨t,r⟩:=(rfl)
theorem Jid {id:Nat} {ops:Array Oper}:lwp X ro (.region id ops false) Q ⟨t,r⟩=lops X (ops.toList.map (·.dst)) ops.toList (Q .normal) ⟨t,r⟩:=(rfl)
theorem e_seq {a b:Code}:lwp X ro (a.seq b) Q ⟨t,r⟩=lwp X ro a (kseq (lwp X ro b) Q) ⟨t,r⟩:=(rfl)
theorem e_cond {c:Operand} {a b:Code}:lwp X ro (.cond c a b) Q ⟨t,r⟩=O0 ((St.mk t r).get c) (lwp X ro a Q) (lwp X ro b Q) ⟨t,r⟩:=(rfl)
theorem Jpi {id:Nat} {c:Code}:lwp X ro (.block id c) Q ⟨t,r⟩=lwp X ro c (Nq id Q) ⟨t,r⟩:=(rfl)
theorem e_loop {c:Code}:lwp X ro (.loop c) Q ⟨t,r⟩=SWP X ro (.loop c) Q ⟨t,r⟩:=(rfl)
theorem e_exit {id:Nat}:lwp X ro (.exit id) Q ⟨t,r⟩=Q (.exit id) ⟨t,r⟩:=(rfl)
theorem e_ret:lwp X ro .ret Q ⟨t,r⟩=Q .ret ⟨t,r⟩:=(rfl)
theorem Jng {l:Nat}:lwp X ro (.label l) Q ⟨t,r⟩=Q .normal ⟨t,r⟩:=(rfl)
theorem Wj {B:(Ex->St->Prop)->St->Prop}:kseq B Q .normal ⟨t,r⟩=B Q ⟨t,r⟩:=(rfl)
theorem Jaq {B:(Ex->St->Prop)->St->Prop} {id:Nat}:kseq B Q (.exit id) ⟨t,r⟩=Q (.exit id) ⟨t,r⟩:=(rfl)
theorem Jf3 {B:(Ex->St->Prop)->St->Prop}:kseq B Q .ret ⟨t,r⟩=Q .ret ⟨t,r⟩:=(rfl)
theorem Qz {id:Nat}:Nq id Q .normal ⟨t,r⟩=Q .normal ⟨t,r⟩:=(rfl)
theorem Vo {id id':Nat}:Nq id Q (.exit id') ⟨t,r⟩=if id'=id then Q .normal ⟨t,r⟩ else Q (.exit id') ⟨t,r⟩:=(rfl)
theorem Z2 {id:Nat}:Nq id Q .ret ⟨t,r⟩=Q .ret ⟨t,r⟩:=(rfl)
theorem o_nil:lops X ds [] K ⟨t,r⟩=K ⟨t,r⟩:=(rfl)
theorem o_cons {op:Op}:lops X ds (⟨dst,op,ty,ps,af,none⟩ :: rest) K ⟨t,r⟩=lop X ⟨dst,op,ty,ps,af,none⟩ (lops X ds rest K) ⟨t,r⟩:=(rfl)
theorem Jpg {op:Op} {g:Nat×Bool}:lops X ds (⟨dst,op,ty,ps,af,some g⟩ :: rest) K ⟨t,r⟩=F4 ds (some g) (lop X ⟨dst,op,ty,ps,af,some g⟩ (lops X ds rest K)) (F9 dst (lops X ds rest K)) ⟨t,r⟩:=(rfl)
theorem q_nil:Jf X ds [] K ⟨t,r⟩=K ⟨t,r⟩:=(rfl)
theorem q_cons {op:Op}:Jf X ds (⟨dst,op,ty,ps,af,none⟩ :: rest) K ⟨t,r⟩=lqc X ⟨t,r⟩ ⟨dst,op,ty,ps,af,none⟩ (kput dst (Jf X ds rest K) ⟨t,r⟩):=(rfl)
theorem Joa {op:Op} {g:Nat×Bool}:Jf X ds (⟨dst,op,ty,ps,af,some g⟩ :: rest) K ⟨t,r⟩=F4 ds (some g) (kq X ⟨dst,op,ty,ps,af,some g⟩ (Jf X ds rest K)) (F9 dst (Jf X ds rest K)) ⟨t,r⟩:=(rfl)
theorem q_kq {o:Oper}:kq X o K ⟨t,r⟩=lqc X ⟨t,r⟩ o (kput o.dst K ⟨t,r⟩):=(rfl)
theorem k_put {d:Tmp} {l:L}:kput (some d) K ⟨t,r⟩ l=K ⟨t.set d l,r⟩:=(rfl)
theorem k_unit {d:Tmp}:F9 (some d) K ⟨t,r⟩=K ⟨t.set d (.tup []),r⟩:=(rfl)
theorem W2:F9 none K ⟨t,r⟩=K ⟨t,r⟩:=(rfl)
theorem s_put {d:Tmp} {l:L}:(St.mk t r).put (some d) l=⟨t.set d l,r⟩:=(rfl)
theorem s_tmps:(St.mk t r).tmps=t:=(rfl)
theorem s_regs:(St.mk t r).regs=r:=(rfl)
theorem s_tmp {i:Nat}:(St.mk t r).get (.tmp i)=t.getD i .junk:=(rfl)
theorem Jm9 {v:Value}:(St.mk t r).get (.const v)=G6 v:=(rfl)
theorem s_func {f:FuncId}:(St.mk t r).get (.func f)=.fn f []:=(rfl)
theorem v_bool {b:Bool}:G6 (.bool b)=.p (.bool b):=(rfl)
theorem v_int {k:IntKind} {n:Int}:G6 (.int k n)=.p (.int k n):=(rfl)
theorem v_str {a:Array UInt8}:G6 (.string ⟨a⟩)=.p (.str a.toList):=(rfl)
theorem v_snil:G6 (.slice none 0 0)=.p .snil:=(rfl)
theorem v_nptr:G6 (.pointer none)=.p .nptr:=(rfl)
theorem v_nmap:G6 (.map none)=.p .nmap:=(rfl)
theorem v_nifc:G6 .nilIface=.p .nifc:=(rfl)
theorem v_nfn:G6 .nilFunc=.p .nfn:=(rfl)
variable {g:Option (Nat×Bool)} {d:Tmp}
theorem p_move {x:Operand}:lop X ⟨dst,.move x,ty,ps,af,g⟩ K ⟨t,r⟩=kput dst K ⟨t,r⟩ ((St.mk t r).get x):=by cases dst <;> exact (rfl)
theorem Jl2 {x:Operand}:lop X ⟨dst,.assign x,ty,ps,af,g⟩ K ⟨t,r⟩=kput dst K ⟨t,r⟩ ((St.mk t r).get x):=by cases dst <;> exact (rfl)
theorem p_bin {op:BinOp} {tx ty':TypeId} {x y:Operand}:lop X ⟨dst,.binOp op tx x y ty',ty,ps,af,g⟩ K ⟨t,r⟩=lbin X.P op tx (D8 x || D8 y) ((St.mk t r).get x) ((St.mk t r).get y) (kput dst K ⟨t,r⟩):=by cases dst <;> exact (rfl)
theorem p_un {op:UnOp} {tx:TypeId} {x:Operand}:lop X ⟨dst,.unOp op tx x,ty,ps,af,g⟩ K ⟨t,r⟩=lun op ((St.mk t r).get x) (kput dst K ⟨t,r⟩):=by cases dst <;> exact (rfl)
theorem p_conv {a b:TypeId} {x:Operand}:lop X ⟨dst,.convert a b x,ty,ps,af,g⟩ K ⟨t,r⟩=cvG X.P a b ⟨t,r⟩ x dst K ((St.mk t r).get x):=by cases dst <;> exact (rfl)
theorem p_pick {c a b:Operand}:lop X ⟨dst,.pick c a b,ty,ps,af,g⟩ K ⟨t,r⟩=Jc0 ((St.mk t r).get c) ((St.mk t r).get a) ((St.mk t r).get b) (kput dst K ⟨t,r⟩):=by cases dst <;> exact (rfl)
theorem p_nil {x:Operand}:lop X ⟨dst,.nilCheck x,ty,ps,af,g⟩ K ⟨t,r⟩=lnil ((St.mk t r).get x) (kput dst K ⟨t,r⟩):=by cases dst <;> exact (rfl)
theorem p_load {tx:TypeId} {x:Operand}:lop X ⟨dst,.load tx x,ty,ps,af,g⟩ K ⟨t,r⟩=Jc X.P r tx ((St.mk t r).get x) (kput dst K ⟨t,r⟩):=by cases dst <;> exact (rfl)
theorem Jnh {tx:TypeId} {a x:Operand}:lop X ⟨dst,.store tx a x,ty,ps,af,g⟩ K ⟨t,r⟩=Nv X.P tx ⟨t,r⟩ a x (F9 dst K):=by cases dst <;> exact (rfl)
theorem Xg {tx:TypeId} {x:Operand} {f:Nat}:lop X ⟨dst,.fieldAddr tx x f,ty,ps,af,g⟩ K ⟨t,r⟩=D2 X.P tx ((St.mk t r).get x) f (kput dst K ⟨t,r⟩):=by cases dst <;> exact (rfl)
theorem Yf {tx:TypeId} {x i:Operand}:lop X ⟨dst,.indexAddr tx x i,ty,ps,af,g⟩ K ⟨t,r⟩=Dg X.P r tx ((St.mk t r).get x) ((St.mk t r).get i) (kput dst K ⟨t,r⟩):=by cases dst <;> exact (rfl)
theorem Jnn {tx:TypeId} {x i:Operand}:lop X ⟨dst,.index tx x i,ty,ps,af,g⟩ K ⟨t,r⟩=Ix X.P tx ((St.mk t r).get x) ((St.mk t r).get i) (kput dst K ⟨t,r⟩):=by cases dst <;> exact (rfl)
def slG (P:Program) (o:Oper) (tx:TypeId) (x:Operand) (lo hi:Option Operand) (dst:Option Tmp) (K:St->Prop) (s:St) (l:L):Prop :=
 match l with
 | .ptr d 0 0=>larr P tx s d lo hi (kput dst K) (Am d s.regs)
 | _=>G2 P s.regs tx s.get x lo hi none (kput dst K s)
theorem Jpn {tx:TypeId} {x:Operand} {lo hi:Option Operand}:lop X ⟨dst,.slice tx x lo hi none,ty,ps,af,g⟩ K ⟨t,r⟩=slG X.P ⟨dst,.slice tx x lo hi none,ty,ps,af,g⟩ tx x lo hi dst K ⟨t,r⟩ ((St.mk t r).get x):=by cases dst <;> exact (rfl)
theorem Jf5 {x:Operand} {i:Nat}:lop X ⟨dst,.extract x i,ty,ps,af,g⟩ K ⟨t,r⟩=Qk ((St.mk t r).get x) i (kput dst K ⟨t,r⟩):=by cases dst <;> exact (rfl)
theorem Jm5 {tx:TypeId} {pt:Array (Nat×Operand)}:lop X ⟨dst,.build tx pt,ty,ps,af,g⟩ K ⟨t,r⟩=Vf X.P tx (pt.toList.map fun (i,x)=>(i,(St.mk t r).get x)) (kput dst K ⟨t,r⟩):=by cases dst <;> exact (rfl)
theorem Jb7 {f:FuncId} {caps:Array Operand}:lop X ⟨dst,.makeFunc (.func f) #[] caps,ty,ps,af,g⟩ K ⟨t,r⟩=Jmn f (caps.toList.map (St.mk t r).get) (kput dst K ⟨t,r⟩):=by cases dst <;> simp only [lop,lq,true_and]
theorem p_len {x:Operand} {tx:TypeId}:lop X ⟨dst,.call { callee:=.builtin .len,args:=#[x],argTypes:=#[tx] },ty,ps,af,g⟩ K ⟨t,r⟩=llen X.P tx ((St.mk t r).get x) (kput dst K ⟨t,r⟩):=by cases dst <;> exact (rfl)
theorem p_max {args:Array Operand} {ats:Array TypeId}:lop X ⟨dst,.call { callee:=.builtin .max,args:=args,argTypes:=ats },ty,ps,af,g⟩ K ⟨t,r⟩=Fj true (args.toList.map (St.mk t r).get) (kput dst K ⟨t,r⟩):=by cases dst <;> exact (rfl)
theorem p_min {args:Array Operand} {ats:Array TypeId}:lop X ⟨dst,.call { callee:=.builtin .min,args:=args,argTypes:=ats },ty,ps,af,g⟩ K ⟨t,r⟩=Fj false (args.toList.map (St.mk t r).get) (kput dst K ⟨t,r⟩):=by cases dst <;> exact (rfl)
theorem Jn4 {T:TypeId}:lop X ⟨some d,.alloc T,ty,ps,af,g⟩ K ⟨t,r⟩=Wg X.P d T ⟨t,r⟩ K:=(rfl)
theorem p_box {T:TypeId} {x:Operand}:lop X ⟨some d,.box T x,ty,ps,af,g⟩ K ⟨t,r⟩=lbox d T ⟨t,r⟩ x K:=(rfl)
theorem V7 {tx:TypeId} {n:Nat} {pt:Array (Nat×Operand)}:lop X ⟨some d,.buildSlice tx n pt,ty,ps,af,g⟩ K ⟨t,r⟩=(if X.keep tx=true then n=pt.toList.length/\Jvj X.P d tx ⟨t,r⟩ pt.toList K else Fo X.P d tx n ⟨t,r⟩ pt.toList K):=(rfl)
theorem Yp {tx:TypeId} {l c:Operand}:lop X ⟨some d,.makeSlice tx l c,ty,ps,af,g⟩ K ⟨t,r⟩=Gl X.P d tx ⟨t,r⟩ l c K:=(rfl)
theorem p_copy {x y:Operand} {t1 t2:TypeId}:lop X ⟨dst,.call { callee:=.builtin .copy,args:=#[x,y],argTypes:=#[t1,t2] },ty,ps,af,g⟩ K ⟨t,r⟩=Tv X.P t1 t2 ⟨t,r⟩ x y (kput dst K):=(rfl)
theorem Jms {x y:Operand} {t1 t2:TypeId}:lop X ⟨some d,.call { callee:=.builtin .append,args:=#[x,y],argTypes:=#[t1,t2] },ty,ps,af,g⟩ K ⟨t,r⟩=(if X.keep t1=true then t2=t1/\Jxb X.P d t1 ⟨t,r⟩ x y K else Kk X.P d t1 t2 ⟨t,r⟩ x y K):=(rfl)
theorem p_call {f:Operand} {args:Array Operand} {ats:Array TypeId}:lop X ⟨dst,.call { callee:=.value f,args:=args,argTypes:=ats },ty,ps,af,g⟩ K ⟨t,r⟩=Jc1 X ⟨t,r⟩ f args.toList dst K:=by cases dst <;> exact (rfl)
theorem Jgq {tx:TypeId}:lop X ⟨some d,.makeMap tx none,ty,ps,af,g⟩ K ⟨t,r⟩=Mk d ⟨t,r⟩ K:=(rfl)
theorem Jp6 {tx:TypeId} {x:Operand}:lop X ⟨some d,.range tx x,ty,ps,af,g⟩ K ⟨t,r⟩=Wr X.P d tx ⟨t,r⟩ x K:=(rfl)
theorem p_next {it:Operand} {b:Bool}:lop X ⟨dst,.next it b,ty,ps,af,g⟩ K ⟨t,r⟩=Wv ⟨t,r⟩ it b (kput dst K):=by cases dst <;> exact (rfl)
theorem Jn8 {it:Operand}:lop X ⟨dst,.entry it,ty,ps,af,g⟩ K ⟨t,r⟩=Ri ⟨t,r⟩ it (kput dst K ⟨t,r⟩):=by cases dst <;> exact (rfl)
theorem Zf {tx:TypeId} {m k v:Operand}:lop X ⟨dst,.mapUpdate tx m k v,ty,ps,af,g⟩ K ⟨t,r⟩=Dq X.P tx ⟨t,r⟩ m k v (F9 dst K):=by cases dst <;> exact (rfl)
theorem Ji2 {tx:TypeId} {m k v:Operand}:lop X ⟨dst,.insert tx m k v,ty,ps,af,g⟩ K ⟨t,r⟩=Dq X.P tx ⟨t,r⟩ m k v (F9 dst K):=by cases dst <;> exact (rfl)
theorem Jkk {m k:Operand} {t1 t2:TypeId}:lop X ⟨dst,.call { callee:=.builtin .delete,args:=#[m,k],argTypes:=#[t1,t2] },ty,ps,af,g⟩ K ⟨t,r⟩=Kq X.P t1 ⟨t,r⟩ m k (F9 dst K):=by cases dst <;> exact (rfl)
def usR (P:Program) (o:Option TypeDesc) (d:Nat) (n:Int) (s:St) (N:St->L->Prop) (q:Option Reg):Prop :=
 match q with
 | some (.row T 1 es)=>o=some (.pointer T)/\P.cellsOf T=1/\∃ bs,Cw es=some bs/\n=bs.length/\bs≠[]/\bs.length<=9223372036854775807/\N (s.forget d) (.p (.str bs))
 | _=>False
def usT (P:Program) (o:Option TypeDesc) (d:Nat) (s:St) (N:St->L->Prop) (ly:L):Prop :=
 match ly with
 | .p (.int .i64 n)=>usR P o d n s N (Am d s.regs)
 | _=>False
def Jd1 (X:Cx) (t1:TypeId) (dst:Option Tmp) (y:Operand) (K:St->Prop) (s:St) (l:L):Prop :=
 match l with
 | .p .nptr=>(∃ k,s.get y=.p (.int k 0))/\K (s.put dst (.p (.str [])))
 | .ptr d 0 0=>usT X.P (X.P.underlying t1) d s (kput dst K) (s.get y)
 | _=>False
theorem p_ustr {x y:Operand} {t1 t2:TypeId}:lop X ⟨dst,.call { callee:=.builtin .unsafeString,args:=#[x,y],argTypes:=#[t1,t2] },ty,ps,af,g⟩ K ⟨t,r⟩=Jd1 X t1 dst y K ⟨t,r⟩ ((St.mk t r).get x):=by
 have h:lop X ⟨dst,.call { callee:=.builtin .unsafeString,args:=#[x,y],argTypes:=#[t1,t2] },ty,ps,af,g⟩ K ⟨t,r⟩=Jd6 X ⟨dst,.call { callee:=.builtin .unsafeString,args:=#[x,y],argTypes:=#[t1,t2] },ty,ps,af,g⟩ dst [x,y] [t1,t2] ⟨t,r⟩ K:=by cases dst <;> exact (rfl)
 rw [h];unfold Jd6 Jd1;simp only;split
 ·rename_i hx;rw [hx];apply propext;constructor
  ·rintro ⟨l,⟨_,h1,rfl⟩,hK⟩;exact ⟨h1,hK⟩
  ·rintro ⟨h1,hK⟩;exact ⟨_,⟨hx,h1,rfl⟩,hK⟩
 ·rename_i hx;split
  ·rename_i hy;exact absurd hy hx
  ·rename_i d hy;unfold Gn usT usR;rw [hy];cases hq:(St.mk t r).get y with
   | p v =>
    cases v with
    | int k n=>cases k <;> rfl
    | _=>rfl
   | _=>rfl
  ·rename_i h1 h2;unfold Gn;cases hq:(St.mk t r).get x with
   | ptr d i j =>
    cases i with
    | zero=>cases j with
     | zero=>exact absurd hq (h2 d)
     | succ j=>rfl
    | succ i=>rfl
   | _=>rfl
theorem Jpz {tx:TypeId} {x:Operand}:lop X ⟨dst,.makeInterface tx x,ty,ps,af,g⟩ K ⟨t,r⟩=lqvK X.P r ⟨t,r⟩ (.makeInterface tx x) (kput dst K ⟨t,r⟩):=by cases dst <;> exact (rfl)
theorem Ji3 {tx:TypeId} {x i:Operand} {b:Bool}:lop X ⟨dst,.lookup tx x i b,ty,ps,af,g⟩ K ⟨t,r⟩=lqvK X.P r ⟨t,r⟩ (.lookup tx x i b) (kput dst K ⟨t,r⟩):=by cases dst <;> exact (rfl)
theorem p_cap {x:Operand} {tx:TypeId}:lop X ⟨dst,.call { callee:=.builtin .cap,args:=#[x],argTypes:=#[tx] },ty,ps,af,g⟩ K ⟨t,r⟩=lqvK X.P r ⟨t,r⟩ (.call { callee:=.builtin .cap,args:=#[x],argTypes:=#[tx] }) (kput dst K ⟨t,r⟩):=by cases dst <;> exact (rfl)
variable {C:L->Prop}
theorem q_move {x:Operand}:lqc X ⟨t,r⟩ ⟨dst,.move x,ty,ps,af,g⟩ C=C ((St.mk t r).get x):=(rfl)
theorem Ji7 {x:Operand}:lqc X ⟨t,r⟩ ⟨dst,.assign x,ty,ps,af,g⟩ C=C ((St.mk t r).get x):=(rfl)
theorem q_bin {op:BinOp} {tx ty':TypeId} {x y:Operand}:lqc X ⟨t,r⟩ ⟨dst,.binOp op tx x y ty',ty,ps,af,g⟩ C=lbin X.P op tx (D8 x || D8 y) ((St.mk t r).get x) ((St.mk t r).get y) C:=(rfl)
theorem q_un {op:UnOp} {tx:TypeId} {x:Operand}:lqc X ⟨t,r⟩ ⟨dst,.unOp op tx x,ty,ps,af,g⟩ C=lun op ((St.mk t r).get x) C:=(rfl)
theorem q_pick {c a b:Operand}:lqc X ⟨t,r⟩ ⟨dst,.pick c a b,ty,ps,af,g⟩ C=Jc0 ((St.mk t r).get c) ((St.mk t r).get a) ((St.mk t r).get b) C:=(rfl)
theorem Jb4 {x:Operand}:lqc X ⟨t,r⟩ ⟨dst,.nilCheck x,ty,ps,af,g⟩ C=lnil ((St.mk t r).get x) C:=(rfl)
theorem q_load {tx:TypeId} {x:Operand}:lqc X ⟨t,r⟩ ⟨dst,.load tx x,ty,ps,af,g⟩ C=Jc X.P r tx ((St.mk t r).get x) C:=(rfl)
theorem Za {tx:TypeId} {x:Operand} {f:Nat}:lqc X ⟨t,r⟩ ⟨dst,.fieldAddr tx x f,ty,ps,af,g⟩ C=D2 X.P tx ((St.mk t r).get x) f C:=(rfl)
theorem W3 {tx:TypeId} {x i:Operand}:lqc X ⟨t,r⟩ ⟨dst,.indexAddr tx x i,ty,ps,af,g⟩ C=Dg X.P r tx ((St.mk t r).get x) ((St.mk t r).get i) C:=(rfl)
theorem Jp9 {tx:TypeId} {x i:Operand}:lqc X ⟨t,r⟩ ⟨dst,.index tx x i,ty,ps,af,g⟩ C=Ix X.P tx ((St.mk t r).get x) ((St.mk t r).get i) C:=(rfl)
theorem Jo0 {tx:TypeId} {x:Operand} {lo hi mx:Option Operand}:lqc X ⟨t,r⟩ ⟨dst,.slice tx x lo hi mx,ty,ps,af,g⟩ C=G2 X.P r tx (St.mk t r).get x lo hi mx C:=(rfl)
theorem Jhf {x:Operand} {i:Nat}:lqc X ⟨t,r⟩ ⟨dst,.extract x i,ty,ps,af,g⟩ C=Qk ((St.mk t r).get x) i C:=(rfl)
theorem q_len {x:Operand} {tx:TypeId}:lqc X ⟨t,r⟩ ⟨dst,.call { callee:=.builtin .len,args:=#[x],argTypes:=#[tx] },ty,ps,af,g⟩ C=llen X.P tx ((St.mk t r).get x) C:=(rfl)
theorem J6w {tx:TypeId} {n:Nat} {pt:Array (Nat×Operand)}:lqc X ⟨t,r⟩ ⟨dst,.buildSlice tx n pt,ty,ps,af,g⟩ C=lqbs X.P ⟨t,r⟩ tx n pt.toList C:=(rfl)
theorem Jmo {tx:TypeId} {x i:Operand} {b:Bool}:lqc X ⟨t,r⟩ ⟨dst,.lookup tx x i b,ty,ps,af,g⟩ C=lqvK X.P r ⟨t,r⟩ (.lookup tx x i b) C:=(rfl)
theorem q_usd {x:Operand} {tx:TypeId}:lqc X ⟨t,r⟩ ⟨dst,.call { callee:=.builtin .unsafeSliceData,args:=#[x],argTypes:=#[tx] },ty,ps,af,g⟩ C=lqvK X.P r ⟨t,r⟩ (.call { callee:=.builtin .unsafeSliceData,args:=#[x],argTypes:=#[tx] }) C:=(rfl)
theorem q_call {f:FuncId} {args:Array Operand} {ats:Array TypeId}:lqc X ⟨t,r⟩ ⟨dst,.call { callee:=.value (.func f),args:=args,argTypes:=ats },ty,ps,af,g⟩ C=Bi X f (args.toList.map (St.mk t r).get) C:=(rfl)
end
def Det (X:Cx) (f:FuncId) (args:List L) (rs:Regs) (l:L) (rs':Regs):Prop:=Al X f args rs fun m q=>m=l/\q=rs'
theorem Jqa {X:Cx} {f:FuncId} {args:List L} {rs:Regs} {l:L} {rs':Regs} {Post:L->Regs->Prop} (h:Det X f args rs l rs') (hp:Post l rs'):Al X f args rs Post :=
 h.mono fun m q ⟨h1,h2⟩=>by subst h1;subst h2;exact hp
theorem Jqb {X:Cx} {f:FuncId} {args:List L} {l:L} {C:L->Prop} (h:Det X f args [] l []) (hp:C l) (hr:l.retOK=true:=by rfl):Bi X f args C:=⟨l,⟨h.mono fun _ _ h=>h.1,hr⟩,hp⟩
theorem Jyr {X:Cx} {g:FuncId} {args:List L} {l:L} {s:St} {dst:Option Tmp} {K:St->Prop} (h:Ad X g args s.regs l) (hK:K (s.put dst l)):Jkt X g args s dst K:=⟨l,h,hK⟩
theorem J8b {X:Cx} {g:FuncId} {args:List L} {l:L} {s:St} {dst:Option Tmp} {K:St->Prop} (h:Ag X g args l) (hK:K (s.put dst l)):lext X g args s dst K:=⟨l,h,hK⟩
theorem J04 {X:Cx} {f:FuncId} {args args':List L} {rs:Regs} {Post:L->Regs->Prop} (hle:Aw args args') (h:Al X f args' rs Post):Al X f args rs Post:=by
 refine ⟨h.1,fun β Im w vs hg hf=>h.2 β Im w vs hg ?_⟩;obtain ⟨h1,h2⟩:=Fp hle;exact { hf with size:=by rw [hf.size];exact h1,tmps:=fun i l hl=>by obtain ⟨l0,hl0,hle⟩:=h2 i l hl;exact hle.rep (hf.tmps i l0 hl0) }
theorem Aa {n:Int} (h1:-9223372036854775808<=n) (h2:n<=9223372036854775807):IntKind.i64.wrap n=n:=by
 have e:IntKind.i64.wrap n=if n % 18446744073709551616 ≥ 9223372036854775808 then n % 18446744073709551616 - 18446744073709551616 else n % 18446744073709551616:=by
  simp [IntKind.wrap,IntKind.signed,IntKind.bits]
 rw [e];split <;> omega
theorem Qs {n:Int} (h1:-2147483648<=n) (h2:n<=2147483647):IntKind.i32.wrap n=n:=by
 have e:IntKind.i32.wrap n=if n % 4294967296 ≥ 2147483648 then n % 4294967296 - 4294967296 else n % 4294967296:=by
  simp [IntKind.wrap,IntKind.signed,IntKind.bits]
 rw [e];split <;> omega
theorem Be (n:Int):IntKind.u8.wrap n=n % 256:=by simp [IntKind.wrap,IntKind.signed,IntKind.bits]
theorem Ec (n:Int):IntKind.u32.wrap n=n % 4294967296:=by simp [IntKind.wrap,IntKind.signed,IntKind.bits]
theorem Ub (n:Int):IntKind.u64.wrap n=n % 18446744073709551616:=by simp [IntKind.wrap,IntKind.signed,IntKind.bits]
theorem Ab {n:Int} (h1:0<=n) (h2:n<=255):IntKind.u8.wrap n=n:=by rw [Be];omega
theorem Jlh {n:Int} (h1:0<=n) (h2:n<=4294967295):IntKind.u32.wrap n=n:=by rw [Ec];omega
theorem Mf {n:Int} (h1:0<=n) (h2:n<=18446744073709551615):IntKind.u64.wrap n=n:=by rw [Ub];omega
theorem ex_map {α γ:Type} {l:List α} {f:α->γ} {i:Nat} {Q:γ->Prop}:(∃ e,(l.map f)[i]? = some e/\Q e) = ∃ a,l[i]? = some a/\Q (f a):=by
 rw [Eam];apply propext;constructor
 ·rintro ⟨e,he,hq⟩;obtain ⟨a,ha,rfl⟩:=Eak.1 he;exact ⟨a,ha,hq⟩
 ·rintro ⟨a,ha,hq⟩;exact ⟨f a,by rw [ha];rfl,hq⟩
def Rb (K:PV->Prop) (m:L):Prop :=
 match m with
 | .p x=>K x
 | _=>False
def H4 (P:Program) (s:St):List ResultVar->(List PV->Prop)->Prop
 | [],K=>K []
 | .tmp t :: l,K=>Rb (fun x=>H4 P s l fun xs=>K (x :: xs)) (s.tmps.getD t .junk)
 | .cell t T :: l,K=>Jc P s.regs T (s.tmps.getD t .junk) (Rb fun x=>H4 P s l fun xs=>K (x :: xs))
def Gm:List ResultVar->List Operand
 | []=>[]
 | .tmp t :: l=>.tmp t :: Gm l
 | .cell _ _ :: l=>Gm l
def Sg:List PV->L
 | [x]=>.p x
 | xs=>.tup xs
def Cu:List Nat->Regs->Regs
 | [],_=>[]
 | d :: ds,rs=>match Am d rs with
  | some r=>(d,r) :: Cu ds rs
  | none=>Cu ds rs
def kres (keys:List Nat) (Post:L->Regs->Prop) (rs:Regs) (xs:List PV):Prop:=Post (Sg xs) (Cu (900 :: keys) rs)
def Jdn (keys:List Nat) (Post:L->Regs->Prop) (rs:Regs) (l:L):Prop:=Post l (Cu (900 :: keys) rs)
def lretF (P:Program) (rvs:List ResultVar) (keys:List Nat) (Post:L->Regs->Prop) (s:St):Prop :=
 H4 P (s.freezeOps (Gm rvs)) rvs (kres keys Post (s.freezeOps (Gm rvs)).regs)
def Jdm (P:Program) (rvs:List ResultVar) (keys:List Nat) (Post:L->Regs->Prop) (s:St):Prop :=
 match rvs with
 | [.tmp t]=>Jdn keys Post s.regs (s.tmps.getD t .junk)
 | [.cell t T]=>Jc P s.regs T (s.tmps.getD t .junk) (Jdn keys Post s.regs)
 | _=>False
def Yo (d n:Nat) (s:St):St :=
 match findKey d s.regs with
 | true=>s.ren d n
 | false=>s
def Du:List (Nat×Nat)->St->St
 | [],s=>s
 | (d,n) :: l,s=>Du l (Yo d n s)
def O7 (P:Program) (own:Bool) (rvs:List ResultVar) (keys:List Nat) (Post:L->Regs->Prop) (s:St):Prop :=
 match own with
 | false=>lretF P rvs keys Post s
 | true=>Jdm P rvs keys Post s
def Jed (P:Program) (own:Bool) (rn:List (Nat×Nat)) (rvs:List ResultVar) (keys:List Nat) (Post:L->Regs->Prop):Ex->St->Prop
 | .normal,s=>O7 P own rvs keys Post (Du rn s)
 | .ret,s=>O7 P own rvs keys Post (Du rn s)
 | .exit _,_=>False
theorem Cf {d:Nat} {r:Reg}:∀ {ds:List Nat} {rs:Regs},(d,r)∈Cu ds rs->d∈ds/\(d,r)∈rs
 | [],_,h=>by cases h
 | e :: ds,rs,h=>by
  simp only [Cu] at h;split at h
  ·rename_i q hq;rcases Eaj.1 h with h | h
   ·cases h;exact ⟨Eaf,Ax hq⟩
   ·exact ⟨Eag _ (Cf h).1,(Cf h).2⟩
  ·exact ⟨Eag _ (Cf h).1,(Cf h).2⟩
theorem He:∀ (ds:List Nat) (rs:Regs),((Cu ds rs).map (·.1)).Sublist ds
 | [],_=>.slnil
 | e :: ds,rs=>by
  simp only [Cu];split
  ·exact (He ds rs).cons_cons e
  ·exact (He ds rs).cons e
theorem B1:∀ (l:List (Nat×Nat)) (s:St),(∀ x∈l,x.2<1000\/500000<=x.2)->s.Le (Du l s)
 | [],s,_=>St.Le.refl s
 | (d,n) :: l,s,h=>by
  simp only [Du];refine St.Le.trans ?_ (B1 l _ fun x hx=>h x (Eag _ hx));unfold Yo;split
  ·exact Kav s (h _ Eaf)
  ·exact St.Le.refl s
theorem Pb {P:Program} {t:TypeId} {u v:Value} {w:World} (h:(Instr.loadAt t u).run P w=.ok v w):(do loadVar t (<- asAddr u):Sem Value).run P w=.ok v w:=by
 unfold Instr.loadAt Instr.sureAddr at h;cases u <;> simp_all [asAddr];rename_i a;cases a <;> simp_all
theorem Ic {P:Program} {β:Env} {w:World} {Im:Nat->Prop} {s:St} {a:Act} (hf:Fit β w Im s a.tmps) (g:ResultVar->Sem Value) (hg1:∀ t,g (.tmp t)=pure (a.tmps.getD t undef)) (hg2:∀ t T,g (.cell t T)=do loadVar T (<- asAddr (a.tmps.getD t undef))) :
  ∀ (rvs:List ResultVar) (K:List PV->Prop),H4 P s rvs K->∃ vs xs,(rvs.mapM g).run P w=.ok vs w/\K xs/\vs.length=xs.length/\∀ (i:Nat) (v:Value) (x:PV),vs[i]? = some v->xs[i]? = some x->PRep w Im v x
 | [],K,h=>⟨[],[],by simp,h,rfl,fun i v x hv=>by simp at hv⟩
 | .tmp t :: l,K,h=>by
  simp only [H4] at h;unfold Rb at h;split at h
  ·rename_i x hx;obtain ⟨vs,xs,h1,h2,h3,h4⟩:=Ic hf g hg1 hg2 l _ h;refine ⟨a.tmps.getD t undef :: vs,x :: xs,?_,h2,by simp [h3],fun i v y hv hy=>?_⟩
   ·simp only [List.mapM_cons,hg1,Sem.run_bind,Sem.run_pure,Result.andThen_ok,h1]
   ·cases i with
    | zero =>
     simp at hv hy;subst hv;subst hy;have:=A2 hf (.tmp t);simp only [St.get,hx] at this;simpa [LRep,Act.eval,Eas] using this
    | succ i=>simp at hv hy;exact h4 i v y hv hy
  ·exact h.elim
 | .cell t T :: l,K,h=>by
  simp only [H4] at h;have hr:=A2 hf (.tmp t);obtain ⟨v,m,hv,hm,hK⟩:=Jk hf hr h;unfold Rb at hK;split at hK
  ·rename_i x;obtain ⟨vs,xs,h1,h2,h3,h4⟩:=Ic hf g hg1 hg2 l _ hK;refine ⟨v :: vs,x :: xs,?_,h2,by simp [h3],fun i u y hu hy=>?_⟩
   ·have:=Pb hv;have e:a.eval (.tmp t)=a.tmps.getD t undef:=rfl;rw [e] at this;rw [List.mapM_cons];simp only [Sem.run_bind,hg2] at this ⊢;rw [this];simp only [Result.andThen_ok,h1,Sem.run_pure]
   ·cases i with
    | zero=>simp at hu hy;subst hu;subst hy;exact hm
    | succ i=>simp at hu hy;exact h4 i u y hu hy
  ·exact hK.elim
def Qd (tmps:Array Value):ResultVar->Sem Value
 | .tmp t=>pure (tmps.getD t undef)
 | .cell b T=>do loadVar T (<- asAddr (tmps.getD b undef))
theorem G9 {P:Program} {fn:Func} {tmps:Array Value} {w:World} {vs:List Value} (h:(fn.results.toList.mapM (Qd tmps)).run P w=.ok vs w) :
  (results fn tmps).run P w=.ok (if h:vs.length=1 then vs[0] else .tuple ⟨vs⟩) w:=by
 have e:results fn tmps=(do
   let vs <- fn.results.mapM (Qd tmps)
   pure (if h:vs.size=1 then vs[0] else .tuple vs)):=by
  unfold results;congr 1
 rw [e,Array.mapM_eq_mapM_toList];simp only [Sem.run_bind,Sem.run_map,h,Result.andThen_ok,Sem.run_pure];rfl
theorem RRx.shut {Γ:Base} {β:Env} {Im:Nat->Prop} {s:St} {tmps:Array Value} {w:World} {D:Nat} {ms:List Nat} (h:RRx (Γ.wm (D :: ms)) β Im s tmps w):RRx (Γ.wm ms) β Im s tmps (w.putObj D (.deferred none)):=by
 obtain ⟨m1,m2,m3,m4⟩:=h.marks D Eaf;have hlt:=(Ea5.1 m1).1;have hnd:D ∉ ms/\ms.Nodup:=Eb0.1 h.mnod;have hoth:∀ k,k≠D->(w.putObj D (.deferred none)).heap[k]? = w.heap[k]?:=fun k hk=>World.putObj_heap_other hk
 have hk:Keeps w Im (w.putObj D (.deferred none)) Im:=⟨fun _ h=>h,fun b hb=>hoth b fun e=>m2 (e ▸ hb)⟩
 refine {
     fit:={ size:=h.fit.size,tmps:=fun i l hl=>(h.fit.tmps i l hl).mono' hk,regs:=fun d r hr=>(h.fit.regs d r hr).mono hk rfl (fun _ _=>rfl) fun loc hl=>hoth _ (m4 d r loc hr hl),nodup:=h.fit.nodup,live:=fun d r loc hr hl=>by rw [World.putObj_size];exact h.fit.live d r loc hr hl,apart:=h.fit.apart,im:=fun b hb=>by rw [World.putObj_size];exact h.fit.im b hb }
     os:=h.os,tape:=h.tape,output:=h.output,size:=by rw [World.putObj_size];exact h.size,block:=fun k hk' hm=>?_,imin:=h.imin,imnew:=h.imnew,regnew:=h.regnew,fixed:=h.fixed,glob:=Γ.mono hk h.glob,mnod:=hnd.2,marks:=fun E hE=>?_ }
 ·have m3':Γ.W0.heap.size<=D:=m3;have hk2:k<Γ.W0.heap.size:=hk';rw [hoth k omg];exact h.block k hk' hm
 ·obtain ⟨n1,n2,n3,n4⟩:=h.marks E (Eag _ hE);exact ⟨(hoth E fun e=>hnd.1 (e ▸ hE)).trans n1,n2,n3,n4⟩
theorem Ie {F:Fence} {n:Nat} {P:Program} {fn:Func} {R:Ending->World->Prop} {Γ:Base} {β:Env} {Im:Nat->Prop} {s:St} {tmps:Array Value}:∀ (ms:List Nat) (w:World),RRx (Γ.wm ms) β Im s tmps w ->
  (∀ w',RRx (Γ.wm []) β Im s tmps w'->∃ v,(results fn tmps).run P w'=.ok v w'/\R (.returned v) w')->LeavesInM F n P fn tmps R (ms.map F6) .returning w
 | [],w,h,hf=>hf w h
 | D :: ms,w,h,hf=>by
  obtain ⟨m1,_⟩:=h.marks D Eaf;exact ⟨by simp,.inl ⟨D,_,rfl,run_takeDeferred m1,Ie ms _ h.shut hf⟩⟩
theorem Jz0 {X:Cx} {f:FuncId} {fn:Func} {c:Code} {args:List L} {rs:Regs} {Post:L->Regs->Prop} (own:Bool) (rn:List (Nat×Nat)) (hrn:∀ x∈rn,x.2<1000\/500000<=x.2) (hf:X.P.funcs[f]? = some fn) (hname:(fn.name == "runtime.NumGoroutine")=false) (hb:fn.body=some c)
  (h900:900 ∉ rs.map (·.1)) (h:∀ Γ a w,GOK X none Γ->(rs=[]->∀ b,¬ Γ.may b)->RRm Γ [] ⟨args ++ List.replicate (fn.ntmps - args.length) .junk,rs⟩ a w->c.wpIn (F0 none) 1 X.P (QQ Γ (Jed X.P own rn fn.results.toList (rs.map (·.1)) Post)) a w):Al X f args rs Post:=by
 refine ⟨enters_of hf hname hb,fun β Im w vs hglob hfit=>?_⟩;have hvl:vs.length=args.length:=by simpa using hfit.size
 refine callsIn_wide.1 (callsIn_of_wp_marks (n:=1) (F:=Fence.wide) hf hb trivial ?_);let Γ:Base:=⟨w,β,Im,fun k=>∃ d r loc,(d,r)∈rs/\β d=some loc/\loc.blk=k,[],X.G,X.mono⟩
 have hr0:RRm Γ [] ⟨args ++ List.replicate (fn.ntmps - args.length) .junk,rs⟩ { tmps:=(⟨vs⟩:Array Value) ++ Array.replicate (fn.ntmps - (⟨vs⟩:Array Value).size) undef,defers:=[] } w:=by
  refine ⟨rfl,β,Im,{ fit:={ size:=?_,tmps:=fun i l hl=>?_,regs:=hfit.regs,nodup:=hfit.nodup,live:=hfit.live,apart:=hfit.apart,im:=hfit.im },os:=rfl,tape:=rfl,output:=rfl,size:=Eai _,block:=fun _ _ _=>rfl,imin:=fun _ h=>h,imnew:=fun _ h=>.inl h,regnew:=fun d r loc hd hl=>.inr ⟨d,r,loc,hd,hl,rfl⟩,fixed:=fun _ _ _=>rfl,glob:=hglob,mnod:=.nil,marks:=fun D hD=>(by cases hD) }⟩
  ·simp [hvl]
  ·by_cases hi:i<args.length
   ·simp only at hl;rw [Eaq hi] at hl;have:=hfit.tmps i l hl;have e:((⟨vs⟩:Array Value) ++ Array.replicate (fn.ntmps - (⟨vs⟩:Array Value).size) undef).getD i undef=(⟨vs⟩:Array Value).getD i undef:=by
     simp only [Eas];rw [Ec0 (by simp;omega)]
    rw [e];exact this
   ·simp only at hl;rw [Ean omg,Ech] at hl;split at hl
    ·cases hl;trivial
    ·cases hl
 have hw:=h Γ _ w (Kdl rfl) (fun e b ⟨_,_,_,hm,_⟩=>by rw [e] at hm;cases hm) hr0;refine wpIn_mono (show c.wpIn Fence.wide 1 X.P _ _ _ from hw) fun e a w' hq=>?_
 have step:∀ {β':Env} {Im':Nat->Prop} {s:St} {tmps:Array Value} {w':World},RRx (Γ.wm []) β' Im' s tmps w'->CallStep β w Im rs β' w' Im' (Cu (900 :: rs.map (·.1)) s.regs):=by
  intro β' Im' s tmps w' hx;refine { os:=hx.os,tape:=hx.tape,output:=hx.output,size:=hx.size,block:=fun k hk' hne=>hx.block k hk' (fun ⟨d,r,loc,h1,h2,h3⟩=>hne d r loc h1 h2 h3),imin:=hx.imin,imnew:=hx.imnew,env:=hx.fixed,keys:=fun d r hd=>?_,regnew:=fun d r loc hd hl=>hx.regnew d r loc (Cf hd).2 hl,fit:=?_ }
  ·rcases Eaj.1 (Cf hd).1 with h | h
   ·exact .inl h
   ·obtain ⟨⟨d',r'⟩,h1,rfl⟩:=Eap.1 h;exact .inr ⟨r',h1⟩
  ·exact { size:=rfl,tmps:=fun i l h=>by simp at h,regs:=fun d r hd=>hx.fit.regs d r (Cf hd).2,nodup:=(He _ _).nodup (Eb0.2 ⟨h900,hfit.nodup⟩),live:=fun d r loc hd hl=>hx.fit.live d r loc (Cf hd).2 hl,apart:=fun d r d' r' l1 l2 hd hd' hne h1 h2=>hx.fit.apart d r d' r' l1 l2 (Cf hd).2 (Cf hd').2 hne h1 h2,im:=hx.fit.im }
 have fin:∀ s,O7 X.P own fn.results.toList (rs.map (·.1)) Post (Du rn s)->RR Γ s a w'->LeavesInM Fence.wide 1 X.P fn a.tmps (fun e w'=>∃ v l rs' β' Im',e=.returned v/\Post l rs'/\LRep β' w' Im' v l/\CallStep β w Im rs β' w' Im' rs') a.defers .returning w':=by
  intro s hl hr;obtain ⟨ms,hdef,β',Im0,hx0⟩:=B1 rn s hrn Γ a w' hr;generalize Du rn s=s at hl hx0;rw [hdef];unfold O7 at hl;split at hl
  ·obtain ⟨Im',hx⟩:=RRx.freezeOps (Gm fn.results.toList) hx0;unfold lretF at hl;refine Ie ms _ hx fun w2 hx2=>?_
   obtain ⟨vs,xs,h1,hP,h3,h4⟩:=Ic (P:=X.P) hx2.fit (a:={ tmps:=a.tmps,defers:=[] }) (Qd a.tmps) (fun _=>rfl) (fun _ _=>rfl) _ _ hl;have hrun:=G9 (P:=X.P) (fn:=fn) h1;refine ⟨_,hrun,_,Sg xs,_,β',Im',rfl,hP,?_,step hx2⟩;split
   ·rename_i h
    match vs,xs,h,h3,h4 with
    | [v],[x],_,_,h4=>exact h4 0 v x rfl rfl
   ·rename_i h;have:Sg xs=.tup xs:=by
     match xs with
     | []=>rfl
     | [x]=>exact absurd h3 h
     | _ :: _ :: _=>rfl
    rw [this];exact ⟨vs,rfl,h3,h4⟩
  ·refine Ie ms _ hx0 fun w2 hx2=>?_
   unfold Jdm at hl;split at hl
   ·rename_i t hres;have h1:(fn.results.toList.mapM (Qd a.tmps)).run X.P w2=.ok [a.tmps.getD t undef] w2:=by rw [hres];simp [Qd]
    have hrun:=G9 (P:=X.P) (fn:=fn) h1;have hrep:=A2 (a:={ tmps:=a.tmps,defers:=[] }) hx2.fit (.tmp t);exact ⟨_,hrun,_,_,_,β',Im0,rfl,hl,hrep,step hx2⟩
   ·rename_i t T hres;have hrep:=A2 (a:={ tmps:=a.tmps,defers:=[] }) hx2.fit (.tmp t);obtain ⟨v,m,hv,hm,hK⟩:=Jk (P:=X.P) (a:={ tmps:=a.tmps,defers:=[] }) hx2.fit hrep hl;have h1:(fn.results.toList.mapM (Qd a.tmps)).run X.P w2=.ok [v] w2:=by
     rw [hres];have:=Pb hv;simp only [List.mapM_cons,List.mapM_nil,Qd,Sem.run_bind] at this ⊢;have e:({ tmps:=a.tmps,defers:=[] }:Act).eval (.tmp t)=a.tmps.getD t undef:=rfl;rw [e] at this;rw [this];simp
    have hrun:=G9 (P:=X.P) (fn:=fn) h1;exact ⟨_,hrun,_,m,_,β',Im0,rfl,hK,hm,step hx2⟩
   ·exact hl.elim
 cases e with
 | normal=>obtain ⟨s,h1,h2⟩:=hq;exact fin s h1 h2
 | ret=>obtain ⟨s,h1,h2⟩:=hq;exact fin s h1 h2
 | exit id=>obtain ⟨s,h1,h2⟩:=hq;exact h1.elim
 | goto l=>exact hq.elim
 | panic c=>exact hq.elim
 | outgrown=>exact hq.elim
section
variable {P:Program} {rvs:List ResultVar} {keys:List Nat} {Post:L->Regs->Prop} {t:List L} {r:Regs} {own:Bool} {rn:List (Nat×Nat)}
theorem J0j {X:Cx} {f:FuncId} {fn:Func} {c:Code} {args:List L} {rs:Regs} {Post:L->Regs->Prop} (own:Bool) (rn:List (Nat×Nat)) (hrn:∀ x∈rn,x.2<1000\/500000<=x.2) (hf:X.P.funcs[f]? = some fn) (hname:(fn.name == "runtime.NumGoroutine")=false) (hb:fn.body=some c)
  (h900:900 ∉ rs.map (·.1)) (h:SWP X none c (Jed X.P own rn fn.results.toList (rs.map (·.1)) Post) ⟨args ++ List.replicate (fn.ntmps - args.length) .junk,rs⟩):Al X f args rs Post :=
 Jz0 own rn hrn hf hname hb h900 fun Γ a w hG _ hr=>h Γ a w hG hr.rr
theorem Vy:Jed P own rn rvs keys Post .normal ⟨t,r⟩=O7 P own rvs keys Post (Du rn ⟨t,r⟩):=(rfl)
theorem Jhr:Jed P own rn rvs keys Post .ret ⟨t,r⟩=O7 P own rvs keys Post (Du rn ⟨t,r⟩):=(rfl)
end
end Go.LX
