/- Code on logical states: what is to be shown; loops; contracts of functions. -/
import Derived.Test.YteiencnfglbnkaaDoorLxM
set_option linter.unusedSimpArgs false
set_option linter.unusedVariables false
set_option linter.unusedSectionVars false
set_option linter.unnecessarySimpa false
namespace Go.LX
open Go Go.RowKit Go.Proofs

inductive Ex where
  | normal
  | exit (id : Nat)
  | ret

def QQ (Γ : Base) (Q : Ex → St → Prop) : Exit → Act → World → Prop
  | .normal, a, w => ∃ s, Q .normal s ∧ RR Γ s a w
  | .exit id, a, w => ∃ s, Q (.exit id) s ∧ RR Γ s a w
  | .ret, a, w => ∃ s, Q .ret s ∧ RR Γ s a w
  | _, _, _ => False

/-- What the code does to every frame and world that the state stands for. -/
def SWP (X : Cx) (ro : Option Nat) (c : Code) (Q : Ex → St → Prop) (s : St) : Prop := ∀ Γ a w, Γ.G = X.G → RR Γ s a w → c.wpIn (F0 ro) 1 X.P (QQ Γ Q) a w

def kseq (B : (Ex → St → Prop) → St → Prop) (Q : Ex → St → Prop) : Ex → St → Prop
  | .normal, s => B Q s
  | .exit id, s => Q (.exit id) s
  | .ret, s => Q .ret s
def kblock (id : Nat) (Q : Ex → St → Prop) : Ex → St → Prop
  | .normal, s => Q .normal s
  | .exit id', s => if id' = id then Q .normal s else Q (.exit id') s
  | .ret, s => Q .ret s
def lcond (l : L) (A B : St → Prop) (s : St) : Prop :=
  match l with
  | .p (.bool t) => (t = true → A s) ∧ (t = false → B s)
  | _ => False

def lwp (X : Cx) (ro : Option Nat) : Code → (Ex → St → Prop) → St → Prop
  | .skip, Q, s => Q .normal s
  | .region id ops draw, Q, s => match draw with
    | false => lops X (ops.toList.map (·.dst)) ops.toList (Q .normal) s
    | true => SWP X ro (.region id ops true) Q s
  | .seq a b, Q, s => lwp X ro a (kseq (lwp X ro b) Q) s
  | .cond c a b, Q, s => lcond (s.get c) (lwp X ro a Q) (lwp X ro b Q) s
  | .block id c, Q, s => lwp X ro c (kblock id Q) s
  | .loop c, Q, s => SWP X ro (.loop c) Q s
  | .exit id, Q, s => Q (.exit id) s
  | .ret, Q, s => Q .ret s
  | .label _, Q, s => Q .normal s
  | .scope c, Q, s => lwp X ro c Q s
  | c, Q, s => SWP X ro c Q s

theorem stepR_scope {P : Program} {b : Frame} {a : Act} {k : List Item} {cs : List Frame} {w : World} {c : Code} : step P (lone (b.atR a (.code (.scope c) :: k)) cs w) = .next (lone (b.atR a (.code c :: .inScope c :: k)) cs w) :=
  step_lone_go (by simp [stepG, stepG.exec, Frame.atR])
theorem stepR_inScope {P : Program} {b : Frame} {a : Act} {k : List Item} {cs : List Frame} {w : World} {c : Code} : step P (lone (b.atR a (.inScope c :: k)) cs w) = .next (lone (b.atR a k) cs w) :=
  step_lone_go (by simp [stepG, stepG.exec, Frame.atR])

section
variable {X : Cx} {ro : Option Nat}

theorem lwp_sound (hm : X.P.follows .mixedOrders = true) : ∀ (c : Code) (Q : Ex → St → Prop) (s : St), lwp X ro c Q s → SWP X ro c Q s := by
  intro c
  induction c with
  | skip => exact fun Q s h Γ a w hG hr => wpIn_skip ⟨s, h, hr⟩
  | region id ops draw =>
    intro Q s h Γ a w hG hr
    cases draw with
    | false =>
      simp only [lwp] at h
      refine wpIn_region ?_
      have := lops_sound (X := X) (Γ := Γ) (ro := ro) (n := 1) (ops := ops) (K := Q .normal) (Q := QQ Γ Q) hG (fun s a w h1 h2 => ⟨s, h1, h2⟩) ops.toList 0 (by simp) s a w hr h
      rw [Array.length_toList] at this
      rw [List.range_eq_range']
      exact this
    | true =>
      exact h Γ a w hG hr
  | seq x y ihx ihy =>
    intro Q s h Γ a w hG hr
    simp only [lwp] at h
    refine wpIn_seq (wpIn_mono (ihx _ s h Γ a w hG hr) fun e a w hq => ?_)
    cases e with
    | normal => obtain ⟨s', h1, h2⟩ := hq; exact ihy Q s' h1 Γ a w hG h2
    | exit id => exact hq
    | ret => exact hq
    | goto l => exact hq.elim
    | panic c => exact hq.elim
    | outgrown => exact hq.elim
  | cond c x y ihx ihy =>
    intro Q s h Γ a w hG hr
    simp only [lwp, lcond] at h
    have hr' := hr
    obtain ⟨ms, hdef, β, Im, hx⟩ := hr'
    have hc := get_rep hx.fit c
    split at h
    · rename_i t hg
      rw [hg] at hc
      cases hv : a.eval c <;> rw [hv] at hc <;> cases hc
      exact wpIn_cond_split hv (fun ht => ihx Q s (h.1 ht) Γ a w hG hr) (fun ht => ihy Q s (h.2 ht) Γ a w hG hr)
    · exact h.elim
  | block id c ih =>
    intro Q s h Γ a w hG hr
    simp only [lwp] at h
    refine wpIn_block (wpIn_mono (ih _ s h Γ a w hG hr) fun e a w hq => ?_)
    cases e with
    | normal => exact hq
    | exit id' =>
      obtain ⟨s', h1, h2⟩ := hq
      simp only [kblock] at h1
      simp only [Exit.inBlock]
      split at h1
      · rename_i he; rw [if_pos he]; exact ⟨s', h1, h2⟩
      · rename_i he; rw [if_neg he]; exact ⟨s', h1, h2⟩
    | ret => exact hq
    | goto l => exact hq.elim
    | panic c => exact hq.elim
    | outgrown => exact hq.elim
  | loop c _ => exact fun Q s h => h
  | exit id => exact fun Q s h Γ a w hG hr => wpIn_exit ⟨s, h, hr⟩
  | ret => exact fun Q s h Γ a w hG hr => wpIn_ret ⟨s, h, hr⟩
  | label l => exact fun Q s h Γ a w hG hr => wpIn_label ⟨s, h, hr⟩
  | rangeFunc f ps asg c _ _ => exact fun Q s h => h
  | scope c ih =>
    intro Q s h Γ a w hG hr
    simp only [lwp] at h
    intro b k cs hro hb hroom
    obtain ⟨e, a₁, w₁, hq, harr⟩ := ih Q s h Γ a w hG hr b (.inScope c :: k) cs hro hb hroom
    cases e with
    | normal => exact ⟨.normal, a₁, w₁, hq, .of_steps (.one (fenced_calm hb hroom rfl) stepR_scope) (StepsIn.trans harr (.one (fenced_calm hb hroom rfl) stepR_inScope))⟩
    | exit id =>
      have hx : ∀ id (k : List Item), exitTo id (Item.inScope c :: k) = exitTo id k := fun id k => by simp [exitTo]
      exact ⟨.exit id, a₁, w₁, hq, .of_steps (.one (fenced_calm hb hroom rfl) stepR_scope) ⟨fun k' hk => harr.1 k' (by rw [hx]; exact hk), fun hr hk => harr.2 hr (by rw [hx]; exact hk)⟩⟩
    | ret => exact ⟨.ret, a₁, w₁, hq, .of_steps (.one (fenced_calm hb hroom rfl) stepR_scope) harr⟩
    | goto l => exact hq.elim
    | panic ch => exact hq.elim
    | outgrown => exact hq.elim
  | goto l => exact fun Q s h => h
  | refuse why => exact fun Q s h => h

/-- It changes no region, and makes none. -/
def calmOp : Op → Bool
  | .alloc _ | .box .. | .store .. | .makeSlice .. | .mapUpdate .. | .makeMap .. | .insert .. | .next .. | .range .. => false
  | .call { callee := .builtin .append, .. } => false
  | .call { callee := .builtin .delete, .. } => false
  | _ => true
def calmOps : List Oper → Bool
  | [] => true
  | o :: l => match calmOp o.op with
    | true => calmOps l
    | false => false
/-- A region that draws its order, of operations that only read or compute: the order of the text serves. -/
theorem draw_lex {id : Nat} {ops : Array Oper} {Q : Ex → St → Prop} {s : St} (hm : X.P.follows .mixedOrders = true) (_ : calmOps ops.toList = true) (hB : Region.lexB .any ops = true) (h : lopsQ X (ops.toList.map (·.dst)) ops.toList (Q .normal) s) : SWP X ro (.region id ops true) Q s :=
  fun Γ a w hG hr => draws_sound hG hm hB (K := Q .normal) (Q := QQ Γ Q) (fun s _ _ h1 h2 => ⟨s, h1, h2⟩) hr h

/-! ### All orders, one by one -/
inductive Ord where
  | leaf
  | nil
  | bad
  | node (i : Nat) (sub next : Ord)
def ordOf (ops : Array Oper) : Nat → Array Bool → Ord
  | 0, listed => match Region.ready .any ops listed with
    | [] => .leaf
    | _ => .bad
  | f + 1, listed => match Region.ready .any ops listed with
    | [] => .leaf
    | is => is.foldr (fun i acc => .node i (ordOf ops f (listed.setIfInBounds i true)) acc) .nil
def lAt (X : Cx) (ds : List (Option Tmp)) (ops : List Oper) (i : Nat) (C : St → Prop) (s : St) : Prop :=
  match ops[i]? with
  | some o => lguard ds o.guard (lop X o C) (kunit o.dst C) s
  | none => False
def lOrd (X : Cx) (ds : List (Option Tmp)) (ops : List Oper) (K : St → Prop) : Ord → St → Prop
  | .leaf, s => K s
  | .nil, _ => True
  | .bad, _ => False
  | .node i sub next, s => lAt X ds ops i (lOrd X ds ops K sub) s ∧ lOrd X ds ops K next s

theorem lOrd_alts {ops : Array Oper} {K : St → Prop} {f : Nat} {listed : Array Bool} {s : St} : ∀ (is : List Nat), lOrd X (ops.toList.map (·.dst)) ops.toList K (is.foldr (fun i acc => .node i (ordOf ops f (listed.setIfInBounds i true)) acc) .nil) s →
    ∀ i ∈ is, lAt X (ops.toList.map (·.dst)) ops.toList i (lOrd X (ops.toList.map (·.dst)) ops.toList K (ordOf ops f (listed.setIfInBounds i true))) s
  | [], _, i, hi => by cases hi
  | j :: is, h, i, hi => by
    simp only [List.foldr_cons, lOrd] at h
    rcases List.mem_cons.1 hi with rfl | hi
    · exact h.1
    · exact lOrd_alts is h.2 i hi

theorem lAt_sound {Γ : Base} {ops : Array Oper} {i : Nat} {C : St → Prop} {s : St} {a : Act} {w : World} {Q : Exit → Act → World → Prop} {n : Nat} (hG : Γ.G = X.G) (hr : RR Γ s a w) (h : lAt X (ops.toList.map (·.dst)) ops.toList i C s) :
    wpOpIn (F0 ro) n X.P ops Q i (fun a' w' => ∃ s', C s' ∧ RR Γ s' a' w') a w := by
  unfold lAt at h
  rw [Array.getElem?_toList] at h
  unfold wpOpIn
  split at h
  · rename_i o ho
    simp only [ho]
    obtain ⟨s', h', hc⟩ := lguard_sound hr h
    rcases hc with ⟨hA, hw⟩ | ⟨hB, hw⟩
    · rw [if_pos (hw o rfl)]
      exact lop_sound hG h' hA
    · rw [if_neg (by rw [hw o rfl]; simp)]
      obtain ⟨ms, hdef, β, Im, hx⟩ := h'
      exact ⟨fun _ _ => trivial, _, hB, ms, put_defers' hdef, β, Im, hx.put o.dst undef_rep⟩
  · exact h.elim

theorem wpAny_of_ord {Γ : Base} {ops : Array Oper} {K : St → Prop} {Q : Exit → Act → World → Prop} {n : Nat} (hG : Γ.G = X.G) (hQ : ∀ s a w, K s → RR Γ s a w → Q .normal a w) : ∀ (f : Nat) (listed : Array Bool) (s : St) (a : Act) (w : World), RR Γ s a w →
    lOrd X (ops.toList.map (·.dst)) ops.toList K (ordOf ops f listed) s → wpAnyIn (F0 ro) n X.P .any ops Q f listed a w
  | 0, listed, s, a, w, hr, h => by
    unfold ordOf at h
    split at h
    · rename_i h0; exact ⟨h0, hQ s a w h hr⟩
    · exact h.elim
  | f + 1, listed, s, a, w, hr, h => by
    unfold ordOf at h
    split at h
    · rename_i h0
      exact ⟨fun _ => hQ s a w h hr, fun i hi => by rw [h0] at hi; cases hi⟩
    · rename_i h0
      refine ⟨fun h1 => absurd h1 h0, fun i hi => ?_⟩
      exact wpOpIn_mono (fun a' w' ⟨s', hs, hr'⟩ => wpAny_of_ord hG hQ f _ s' a' w' hr' hs) (lAt_sound hG hr (lOrd_alts _ h i hi))

/-- A region that draws its order: whatever order it is, what is left is no less than s0 says. -/
theorem draw_enum {id : Nat} {ops : Array Oper} {Q : Ex → St → Prop} {s : St} (T : Ord) (s0 : St) (hm : X.P.follows .mixedOrders = true) (hT : ordOf ops ops.size (Array.replicate ops.size false) = T)
    (h : lOrd X (ops.toList.map (·.dst)) ops.toList (fun s => ∀ Γ a w, RR Γ s a w → RR Γ s0 a w) T s) (hK : Q .normal s0) : SWP X ro (.region id ops true) Q s := fun Γ a w hG hr => by
  have h' : RR Γ s a { w with drawn := w.drawn + 1 } := by
    obtain ⟨ms, hdef, β, Im, hx⟩ := hr
    exact ⟨ms, hdef, β, Im, hx.grow (Grow.drew hx.fit.im)⟩
  subst hT
  exact wpIn_region_any hm (wpAny_of_ord hG (K := fun s => ∀ Γ a w, RR Γ s a w → RR Γ s0 a w) (fun s a w h1 h2 => ⟨s0, hK, h1 Γ a w h2⟩) _ _ s a _ h' h)

theorem SWP.mono {c : Code} {Q Q' : Ex → St → Prop} {s : St} (h : SWP X ro c Q s) (hq : ∀ e s, Q e s → Q' e s) : SWP X ro c Q' s := fun Γ a w hG hr =>
  wpIn_mono (h Γ a w hG hr) fun e a w hq' => by
    cases e with
    | normal => obtain ⟨s', h1, h2⟩ := hq'; exact ⟨s', hq _ _ h1, h2⟩
    | exit id => obtain ⟨s', h1, h2⟩ := hq'; exact ⟨s', hq _ _ h1, h2⟩
    | ret => obtain ⟨s', h1, h2⟩ := hq'; exact ⟨s', hq _ _ h1, h2⟩
    | goto l => exact hq'.elim
    | panic c => exact hq'.elim
    | outgrown => exact hq'.elim

/-! ### A state that says less -/
def St.Le (s s' : St) : Prop := ∀ Γ a w, RR Γ s a w → RR Γ s' a w

theorem St.Le.refl (s : St) : s.Le s := fun _ _ _ h => h
theorem St.Le.trans {s s' s'' : St} (h : s.Le s') (k : s'.Le s'') : s.Le s'' := fun Γ a w hr => k Γ a w (h Γ a w hr)
theorem SWP.of_le {c : Code} {Q : Ex → St → Prop} {s s' : St} (hle : s.Le s') (h : SWP X ro c Q s') : SWP X ro c Q s := fun Γ a w hG hr => h Γ a w hG (hle Γ a w hr)

def kloop {ι : Type} (I : ι → St) (Pre : ι → Prop) (μ : ι → Nat) (x : ι) (Q : Ex → St → Prop) : Ex → St → Prop
  | .normal, s => ∃ y, Pre y ∧ μ y < μ x ∧ s.Le (I y)
  | .exit id, s => Q (.exit id) s
  | .ret, s => Q .ret s

/-- A loop: 'I x' is the state at the round's head; 'Pre x' what holds of x. -/
theorem SWP.loop {ι : Type} (I : ι → St) (Pre : ι → Prop) (μ : ι → Nat) (x0 : ι) {c : Code} {Q : Ex → St → Prop} {s : St} (hs : s.Le (I x0)) (h0 : Pre x0) (round : ∀ x, Pre x → SWP X ro c (kloop I Pre μ x Q) (I x)) :
    SWP X ro (.loop c) Q s := by
  intro Γ a w hG hr
  have key : ∀ n x, μ x = n → Pre x → ∀ a w, RR Γ (I x) a w → ∀ (b : Frame) (k : List Item) (cs : List Frame), b.roundOf = (F0 ro).round → (F0 ro).fn b.fn → (F0 ro).room (cs.length + 1 + 1) →
      ∃ e a' w', QQ Γ Q e a' w' ∧ ArrivesIn (Machine.fenced X.P (F0 ro)) X.P (lone (b.atR a (.code c :: .inLoop c :: k)) cs w) b k cs e a' w' := by
    intro n
    induction n using Nat.strongRecOn with
    | _ n ih =>
      intro x hn hP a w hr b k cs hro hb hroom
      obtain ⟨e, a₁, w₁, hq, harr⟩ := round x hP Γ a w hG hr b (.inLoop c :: k) cs hro hb hroom
      cases e with
      | normal =>
        obtain ⟨s', ⟨y, hy, hlt, hle⟩, h2⟩ := hq
        obtain ⟨e₂, a₂, w₂, hq₂, harr₂⟩ := ih (μ y) (hn ▸ hlt) y rfl hy a₁ w₁ (hle Γ a₁ w₁ h2) b k cs hro hb hroom
        exact ⟨e₂, a₂, w₂, hq₂, .of_steps (StepsIn.trans harr (.one (fenced_calm hb hroom rfl) stepR_inLoop)) harr₂⟩
      | exit id =>
        obtain ⟨s', h1, h2⟩ := hq
        exact ⟨.exit id, a₁, w₁, ⟨s', h1, h2⟩, .pass (x := .inLoop c) rfl (fun _ _ => .inl (by simp)) harr⟩
      | ret =>
        obtain ⟨s', h1, h2⟩ := hq
        exact ⟨.ret, a₁, w₁, ⟨s', h1, h2⟩, .pass (x := .inLoop c) rfl (fun _ _ => .inl (by simp)) harr⟩
      | goto l => exact hq.elim
      | panic ch => exact hq.elim
      | outgrown => exact hq.elim
  intro b k cs hro hb hroom
  obtain ⟨e, a', w', hq, harr⟩ := key _ x0 rfl h0 a w (hs Γ a w hr) b k cs hro hb hroom
  exact ⟨e, a', w', hq, .of_steps (.one (fenced_calm hb hroom rfl) stepR_loop) harr⟩

theorem pure?_spec {l : L} {p : PV} (h : l.pure? = some p) : l = .p p := by
  cases l <;> simp [L.pure?] at h
  rw [h]

end
end Go.LX
