/- A region that draws its order: where its operations only read, or call what only computes, the order of the text serves for all. -/
import Derived.Test.YteiencnfglbnkaaDoorLxL
import Derived.Still
set_option linter.unusedSimpArgs false
set_option linter.unusedVariables false
set_option linter.unusedSectionVars false
set_option linter.unnecessarySimpa false
namespace Go.LX
open Go Go.RowKit Go.Proofs

/-- A value that names no region. -/
def L.retOK : L → Bool
  | .p _ => true
  | .tup _ => true
  | _ => false
def lqbs (P : Program) (s : St) (t : TypeId) (n : Nat) (parts : List (Nat × Operand)) (K : L → Prop) : Prop :=
  ∃ e sz, slE P t = some (e, sz) ∧ n * sz ≤ 16777216 ∧ (∃ zs, zeroPV P e = some zs ∧ zs.length = sz) ∧ parts.length = n ∧ idxOK 0 (parts.map fun (i, x) => (i, s.get x)) = true ∧
    ∃ es, partsPV sz (parts.map fun (i, x) => (i, s.get x)) = some es ∧ K (.p (.sl es))
def lqc (X : Cx) (s : St) (o : Oper) (K : L → Prop) : Prop :=
  match o.op with
  | .call { callee := .value f, args, argTypes := _ } => match s.get f with
    | .fn g [] => ∃ l, (LCalls X g (args.toList.map s.get) [] (fun m _ => m = l) ∧ l.retOK = true) ∧ K l
    | _ => False
  | .buildSlice t n parts => lqbs X.P s t n parts.toList K
  | op => lq X.P s.regs s.get op K

def kq (X : Cx) (o : Oper) (K : St → Prop) (s : St) : Prop := lqc X s o (kput o.dst K s)
def lopsQ (X : Cx) (ds : List (Option Tmp)) : List Oper → (St → Prop) → St → Prop
  | [], K, s => K s
  | o :: rest, K, s => lguard ds o.guard (kq X o (lopsQ X ds rest K)) (kunit o.dst (lopsQ X ds rest K)) s

def YS (X : Cx) (ds : List (Option Tmp)) (s : St) (o : Oper) (K : L → Prop) : Prop :=
  match o.guard with
  | none => lqc X s o K
  | some (j, want) => match ds.getD j none with
    | some dj => match s.tmps.getD dj .junk with
      | .p (.bool c) => if c = want then lqc X s o K else K (.tup [])
      | .tup [] => K (.tup [])
      | _ => False
    | none => False
def lopsY (X : Cx) (ds : List (Option Tmp)) (K : St → Prop) : List Oper → St → Prop
  | [], s => K s
  | o :: rest, s => YS X ds s o fun l => lopsY X ds K rest (s.put o.dst l)

section
variable {X : Cx} {Γ : Base} {ro : Option Nat} {ops : Array Oper} {md : Region.Mode}

theorem lqc_mono {s : St} {o : Oper} {K K' : L → Prop} (h : ∀ l, K l → K' l) (hl : lqc X s o K) : lqc X s o K' := by
  unfold lqc at hl ⊢
  split at hl
  · split at hl
    · obtain ⟨l, h1, h2⟩ := hl; exact ⟨l, h1, h l h2⟩
    · exact hl.elim
  · obtain ⟨e, sz, h1, h2, h3, h4, h5, es, h6, h7⟩ := hl
    exact ⟨e, sz, h1, h2, h3, h4, h5, es, h6, h _ h7⟩
  · exact lq_mono h hl

theorem lqc_split {s : St} {o : Oper} {K : L → Prop} (hl : lqc X s o K) : ∃ l, lqc X s o (fun m => m = l) ∧ K l := by
  unfold lqc at hl ⊢
  split at hl
  · split at hl
    · obtain ⟨l, h1, h2⟩ := hl; exact ⟨l, ⟨l, h1, rfl⟩, h2⟩
    · exact hl.elim
  · obtain ⟨e, sz, h1, h2, h3, h4, h5, es, h6, h7⟩ := hl
    exact ⟨_, ⟨e, sz, h1, h2, h3, h4, h5, es, h6, rfl⟩, h7⟩
  · exact lq_split hl

theorem lqc_congr {s s' : St} {o : Oper} {K : L → Prop} (hr : s'.regs = s.regs) (hρ : ∀ x ∈ o.op.operands.toList, s'.get x = s.get x) (hl : lqc X s o K) : lqc X s' o K := by
  unfold lqc at hl ⊢
  split at hl
  · rename_i f args ts ho
    have e1 : s'.get f = s.get f := hρ f (by rw [ho]; simp [Op.operands, Call.operands])
    have e2 : args.toList.map s'.get = args.toList.map s.get := List.map_congr_left fun x hm => hρ x (by rw [ho]; simp [Op.operands, Call.operands]; exact .inr (by simpa using hm))
    rw [e1, e2]
    exact hl
  · rename_i t n parts ho
    have e2 : (parts.toList.map fun (i, x) => (i, s'.get x)) = parts.toList.map fun (i, x) => (i, s.get x) := List.map_congr_left fun x hm => by
      have := hρ x.2 (by rw [ho]; simp [Op.operands]; exact ⟨x.1, by simpa using hm⟩)
      simp only [this]
    unfold lqbs at hl ⊢
    rw [e2]
    exact hl
  · rw [hr]; exact lq_congr hρ hl

theorem YS_mono {ds : List (Option Tmp)} {s : St} {o : Oper} {K K' : L → Prop} (h : ∀ l, K l → K' l) (hl : YS X ds s o K) : YS X ds s o K' := by
  unfold YS at hl ⊢
  split at hl
  · exact lqc_mono h hl
  · split at hl
    · split at hl
      · split at hl
        · rename_i hc; rw [if_pos hc]; exact lqc_mono h hl
        · rename_i hc; rw [if_neg hc]; exact h _ hl
      · exact h _ hl
      · exact hl.elim
    · exact hl.elim

theorem YS_split {ds : List (Option Tmp)} {s : St} {o : Oper} {K : L → Prop} (hl : YS X ds s o K) : ∃ l, YS X ds s o (fun m => m = l) ∧ K l := by
  unfold YS at hl ⊢
  split at hl
  · exact lqc_split hl
  · split at hl
    · split at hl
      · split at hl
        · rename_i hc; simp only [if_pos hc]; exact lqc_split hl
        · rename_i hc; simp only [if_neg hc]; exact ⟨_, rfl, hl⟩
      · exact ⟨_, rfl, hl⟩
      · exact hl.elim
    · exact hl.elim

theorem get_put {s : St} {dst : Option Tmp} {l : L} {x : Operand} (h : ∀ d, dst = some d → x ≠ .tmp d) : (s.put dst l).get x = s.get x := by
  cases dst with
  | none => rfl
  | some d =>
    cases x with
    | tmp t =>
      have : d ≠ t := fun e => h d rfl (by rw [e])
      simp [St.get, St.put, List.getD_eq_getElem?_getD, this]
    | const v => rfl
    | global g => rfl
    | func f => rfl

theorem ds_get (j : Nat) : (ops.toList.map (·.dst)).getD j none = (ops[j]?).bind (·.dst) := by
  rw [List.getD_eq_getElem?_getD, List.getElem?_map]
  cases h : ops[j]? <;> simp [h]

/-- A slot that an operation does not look at. -/
theorem YS_put {s : St} {o : Oper} {K : L → Prop} {dst : Option Tmp} {l : L} (h : ∀ d, dst = some d → d ∉ o.looksAt ops) (hl : YS X (ops.toList.map (·.dst)) s o K) : YS X (ops.toList.map (·.dst)) (s.put dst l) o K := by
  have hop : ∀ x ∈ o.op.operands.toList, (s.put dst l).get x = s.get x := fun x hx => get_put fun d hd hxd => h d hd (by
    subst hxd
    exact List.mem_append_left _ (List.mem_filterMap.2 ⟨.tmp d, by simpa using hx, rfl⟩))
  have hreg : (s.put dst l).regs = s.regs := by cases dst <;> rfl
  unfold YS at hl ⊢
  split at hl
  · exact lqc_congr hreg hop hl
  · rename_i j want hg
    split at hl
    · rename_i dj hdj
      have hdj' : (ops[j]?).bind (·.dst) = some dj := by rw [← ds_get]; exact hdj
      have hslot : (s.put dst l).tmps.getD dj .junk = s.tmps.getD dj .junk := by
        cases dst with
        | none => rfl
        | some d =>
          have : d ≠ dj := fun e => h d rfl (by
            subst e
            unfold Oper.looksAt
            refine List.mem_append_right _ ?_
            rw [hg]
            simp only [hdj']
            simp)
          simp [St.put, List.getD_eq_getElem?_getD, this]
      rw [hslot]
      split at hl
      · split at hl
        · rename_i hc; rw [if_pos hc]; exact lqc_congr hreg hop hl
        · rename_i hc; rw [if_neg hc]; exact hl
      · exact hl
      · exact hl.elim
    · exact hl.elim

theorem St.put_comm (s : St) {x y : Option Tmp} (v u : L) (h : ∀ d, x = some d → y ≠ some d) : (s.put x v).put y u = (s.put y u).put x v := by
  cases x with
  | none => rfl
  | some d => cases y with
    | none => rfl
    | some e =>
      have : d ≠ e := fun h' => h d rfl (by rw [h'])
      simp only [St.put]
      congr 1
      exact List.set_comm _ _ this

/-- YS_put backwards: to a state in which the slot holds what it held. -/
theorem YS_unput {s : St} {o : Oper} {K : L → Prop} {dst : Option Tmp} {l : L} (h : ∀ d, dst = some d → d ∉ o.looksAt ops) (hl : YS X (ops.toList.map (·.dst)) (s.put dst l) o K) : YS X (ops.toList.map (·.dst)) s o K := by
  cases dst with
  | none => exact hl
  | some d =>
    cases hd : s.tmps[d]? with
    | none =>
      have : s.put (some d) l = s := by
        simp only [St.put]
        congr 1
        exact List.set_eq_of_length_le (by rw [List.getElem?_eq_none_iff] at hd; exact hd)
      rw [this] at hl; exact hl
    | some l0 =>
      have := YS_put (ops := ops) (dst := some d) (l := l0) h hl
      have e : (s.put (some d) l).put (some d) l0 = s := by
        simp only [St.put, List.set_set]
        congr 1
        obtain ⟨h1, h2⟩ := List.getElem?_eq_some_iff.1 hd
        rw [← h2]; exact List.set_getElem_self h1
      rw [e] at this; exact this

/-- Whatever order is picked from here on. -/
def lAny (X : Cx) (md : Region.Mode) (ops : Array Oper) (K : St → Prop) : Nat → Array Bool → St → Prop
  | 0, listed, s => Region.ready md ops listed = [] ∧ K s
  | fuel + 1, listed, s => (Region.ready md ops listed = [] → K s) ∧
    ∀ i ∈ Region.ready md ops listed, ∀ o, ops[i]? = some o → YS X (ops.toList.map (·.dst)) s o fun l => lAny X md ops K fuel (listed.setIfInBounds i true) (s.put o.dst l)

theorem lAny_first {K : St → Prop} {i : Nat} {oi : Oper} {v : L} (hi : ops[i]? = some oi) : ∀ (fuel : Nat) (listed : Array Bool) (s : St),
      (∀ j oj, ops[j]? = some oj → j ≠ i → listed.getD j true = false → (∀ e ∈ oj.after, Region.binds md e = true → e.on ≠ i) → oi.apart ops oj = true) →
      i ∈ Region.ready md ops listed → YS X (ops.toList.map (·.dst)) s oi (fun m => m = v) →
      lAny X md ops K fuel (listed.setIfInBounds i true) (s.put oi.dst v) → lAny X md ops K (fuel + 1) listed s := by
  intro fuel
  induction fuel with
  | zero =>
    intro listed s _ hr hy H
    refine ⟨fun h => (by rw [h] at hr; cases hr), fun j hj oj hoj => ?_⟩
    by_cases hji : j = i
    · subst hji; rw [hi] at hoj; cases hoj; exact YS_mono (fun l hl => by rw [hl]; exact H) hy
    · have := ready_mono hj hji
      rw [H.1] at this
      cases this
  | succ fuel ih =>
    intro listed s hfree hr hy H
    refine ⟨fun h => (by rw [h] at hr; cases hr), fun j hj oj hoj => ?_⟩
    by_cases hji : j = i
    · subst hji; rw [hi] at hoj; cases hoj; exact YS_mono (fun l hl => by rw [hl]; exact H) hy
    · have h1 := H.2 j (ready_mono hj hji) oj hoj
      obtain ⟨hjun, oj', hoj', hall⟩ := mem_ready.1 hj
      rw [hoj] at hoj'; cases hoj'
      have hnot : ∀ e ∈ oj.after, Region.binds md e = true → e.on ≠ i := fun e he hb heq => by
        have h1 := hall e he hb
        have h0 := (mem_ready.1 hr).1
        rw [heq] at h1
        rcases Nat.lt_or_ge i listed.size with h' | h'
        · simp [h'] at h0 h1; rw [h0] at h1; cases h1
        · simp [Array.getElem?_eq_none h'] at h1
      obtain ⟨a1, a2, a3⟩ := Oper.apart_spec (hfree j oj hoj hji hjun hnot)
      have hfree' : ∀ k ok, ops[k]? = some ok → k ≠ i → (listed.setIfInBounds j true).getD k true = false →
          (∀ e ∈ ok.after, Region.binds md e = true → e.on ≠ i) → oi.apart ops ok = true := fun k ok hk hki hun hno => by
        refine hfree k ok hk hki ?_ hno
        by_cases hjk : j = k
        · subst hjk; exact hjun
        · rw [getD_set_ne true hjk] at hun; exact hun
      refine YS_mono (fun l hl => ?_) (YS_unput a1 h1)
      refine ih (listed.setIfInBounds j true) (s.put oj.dst l) hfree' (ready_mono hr (Ne.symm hji)) (YS_put a3 hy) ?_
      rw [Array.setIfInBounds_comm _ _ hji]
      rw [← St.put_comm s v l a2]
      exact hl

theorem lAny_lex {K : St → Prop} : ∀ (l : List Oper) (k : Nat) (listed : Array Bool) (s : St), (∀ j, l[j]? = ops[k + j]?) →
    Region.lexFrom md ops l.length k listed = true → lopsY X (ops.toList.map (·.dst)) K l s → lAny X md ops K l.length listed s
  | [], _, _, _, _, hB, h => ⟨by simpa [Region.lexFrom] using hB, h⟩
  | o :: l, k, listed, s, hl, hB, h => by
    have h0 : ops[k]? = some o := by simpa using (hl 0).symm
    simp only [List.length_cons, Region.lexFrom, Bool.and_eq_true] at hB
    obtain ⟨⟨hr, hf⟩, hB'⟩ := hB
    obtain ⟨v, hy, hK⟩ := YS_split (X := X) (show YS X _ s o _ from h)
    exact lAny_first h0 l.length listed s (Region.free_spec h0 hf) (by simpa using hr) hy
      (lAny_lex l (k + 1) _ _ (fun j => by have := hl (j + 1); simpa [Nat.add_assoc, Nat.add_comm 1 j] using this) hB' hK)

/-! ### What is meant -/
theorem lqc_sound {s : St} {a : Act} {w : World} {o : Oper} {K : L → Prop} {Q : Exit → Act → World → Prop} {n : Nat} (hG : Γ.G = X.G) (h : RR Γ s a w) (hl : lqc X s o K) :
    o.wpIn (F0 ro) n X.P a w (fun a' w' => ∃ l, K l ∧ RR Γ (s.put o.dst l) a' w') Q := by
  obtain ⟨ms, hdef, β, Im, hx⟩ := h
  unfold lqc at hl
  split at hl
  · rename_i f args ts ho
    split at hl
    · rename_i g hg
      obtain ⟨l, ⟨⟨hent, hl⟩, hret⟩, hK⟩ := hl
      have hrf := get_rep hx.fit f
      rw [hg] at hrf
      obtain ⟨cs, hv, hcl, hcs⟩ := hrf
      have : cs = [] := List.eq_nil_of_length_eq_zero (by simpa using hcl)
      subst this
      have hfit : Fit β w Im ⟨args.toList.map s.get, []⟩ ⟨args.toList.map a.eval⟩ := by
        refine { size := by simp, tmps := fun i l hl' => ?_, regs := fun d r h => (by cases h), nodup := .nil, live := fun d r loc h => (by cases h), apart := fun d r d' r' l1 l2 h => (by cases h), im := hx.fit.im }
        simp only [List.getElem?_map] at hl'
        obtain ⟨q, hq, rfl⟩ := Option.map_eq_some_iff.1 hl'
        have e1 : (⟨args.toList.map a.eval⟩ : Array Value).getD i undef = a.eval q := by simp only [Array.getD_eq_getD_getElem?, List.getElem?_toArray, List.getElem?_map, hq]; rfl
        rw [e1]
        exact get_rep hx.fit q
      refine wpIn_enter (f := g) (args := ⟨args.toList.map a.eval⟩) (w' := w) (by rw [ho]; simp) ?_ ?_
      · unfold execOp
        rw [ho]
        have e : args.map a.eval ++ (⟨[]⟩ : Array Value) = ⟨args.toList.map a.eval⟩ := by rw [← Array.toList_inj]; simp
        simp only [resolve, Sem.run_bind, hv, Deferred.ofValue, Sem.run_pure, Result.andThen_ok, invoke, Array.empty_append, e]
        exact hent _ _
      · refine (hl β Im w _ (hG ▸ hx.glob) hfit).mono fun e w' ⟨v, m, rs', β', Im2, he, hP, hrep, hstep⟩ => ⟨v, he, l, hK, ms, put_defers' hdef, β, Im2, ?_⟩
        subst hP
        have g : Grow w Im w' Im2 := ⟨hstep.os, hstep.tape, hstep.output, hstep.size, fun k hk => hstep.block k hk fun d r loc h => (by cases h), hstep.imin, fun b hb => (hstep.imnew b hb).imp id fun h => h.elim id fun ⟨d, r, loc, h, _⟩ => (by cases h), hstep.fit.im⟩
        refine (hx.grow g).put _ ?_
        cases m <;> first | exact hrep | cases hret
    · exact hl.elim
  · rename_i t m parts ho
    obtain ⟨e, sz, h1, h2, h3, h4, h5, es, h6, h7⟩ := hl
    obtain ⟨v, w', Im', hr, hg, hp⟩ := buildPure_sound hx h1 h2 h3 h4 h5 h6
    have e1 : (parts.map fun (i, x) => (i, a.eval x)) = ⟨parts.toList.map fun (i, x) => (i, a.eval x)⟩ := by rw [← Array.toList_inj]; simp
    rw [← e1] at hr
    refine wpIn_value (v := v) (w' := w') (by rw [ho]; simp) (by unfold execOp; rw [ho]; simp [hr]) ⟨_, h7, ms, put_defers' hdef, β, Im', (hx.grow hg).put _ hp⟩
  · have hq := lq_sound (P := X.P) hx.fit (o := o) hl
    obtain ⟨v, l, hr, hrep, hK⟩ := hq
    refine wpIn_value (v := v) (w' := w) (fun c hc => ?_) hr ⟨_, hK, ms, put_defers' hdef, β, Im, hx.put _ hrep⟩
    rw [hc] at hl; simp [lq, lqv] at hl

theorem slot_val {s : St} {a : Act} {w : World} (h : RR Γ s a w) {j dj : Nat} {c : Bool} (hdj : (ops[j]?).bind (·.dst) = some dj) (hc : s.tmps.getD dj .junk = .p (.bool c)) : yielded ops a.tmps j = some c := by
  obtain ⟨ms, hdef, β, Im, hx⟩ := h
  have hlt : s.tmps[dj]? = some (.p (.bool c)) := by
    rw [List.getD_eq_getElem?_getD] at hc
    cases hs : s.tmps[dj]? with
    | none => rw [hs] at hc; simp at hc
    | some l => rw [hs] at hc; simp at hc; rw [hc]
  have hrep := hx.fit.tmps dj _ hlt
  have hsz : dj < a.tmps.size := by rw [hx.fit.size]; exact (List.getElem?_eq_some_iff.1 hlt).1
  have e1 : a.tmps.getD dj undef = a.tmps[dj] := by simp [Array.getD_eq_getD_getElem?, hsz]
  rw [e1] at hrep
  cases hvv : a.tmps[dj] with
  | bool b => rw [hvv] at hrep; cases hrep; simp [yielded, hdj, hsz, hvv]
  | _ => rw [hvv] at hrep; cases hrep
theorem slot_undef {s : St} {a : Act} {w : World} (h : RR Γ s a w) {j dj : Nat} (hdj : (ops[j]?).bind (·.dst) = some dj) (hc : s.tmps.getD dj .junk = .tup []) : yielded ops a.tmps j = none := by
  obtain ⟨ms, hdef, β, Im, hx⟩ := h
  have hlt : s.tmps[dj]? = some (.tup []) := by
    rw [List.getD_eq_getElem?_getD] at hc
    cases hs : s.tmps[dj]? with
    | none => rw [hs] at hc; simp at hc
    | some l => rw [hs] at hc; simp at hc; rw [hc]
  have hrep := hx.fit.tmps dj _ hlt
  have hsz : dj < a.tmps.size := by rw [hx.fit.size]; exact (List.getElem?_eq_some_iff.1 hlt).1
  have e1 : a.tmps.getD dj undef = a.tmps[dj] := by simp [Array.getD_eq_getD_getElem?, hsz]
  rw [e1] at hrep
  obtain ⟨vs, hv, _⟩ := hrep
  simp [yielded, hdj, hsz, hv]

theorem YS_sound {s : St} {a : Act} {w : World} {i : Nat} {o : Oper} {K : L → Prop} {K' : Act → World → Prop} {Q : Exit → Act → World → Prop} {n : Nat} (hi : ops[i]? = some o) (hG : Γ.G = X.G) (h : RR Γ s a w) (hl : YS X (ops.toList.map (·.dst)) s o K)
    (hK : ∀ l a' w', K l → RR Γ (s.put o.dst l) a' w' → K' a' w') : wpOpIn (F0 ro) n X.P ops Q i K' a w := by
  unfold wpOpIn
  simp only [hi]
  have run : ∀ {K : L → Prop}, lqc X s o K → (∀ l a' w', K l → RR Γ (s.put o.dst l) a' w' → K' a' w') → o.wpIn (F0 ro) n X.P a w K' Q := fun hl hK =>
    Oper.wpIn_mono (fun a' w' ⟨l, h1, h2⟩ => hK l a' w' h1 h2) (lqc_sound hG h hl)
  have skip : ∀ {K : L → Prop}, K (.tup []) → (∀ l a' w', K l → RR Γ (s.put o.dst l) a' w' → K' a' w') → K' (a.put o.dst undef) w := fun h1 hK => by
    obtain ⟨ms, hdef, β, Im, hx⟩ := h
    exact hK _ _ _ h1 ⟨ms, put_defers' hdef, β, Im, hx.put _ undef_rep⟩
  unfold YS at hl
  split at hl
  · rename_i hg
    rw [if_pos (by simp [Region.wanted, hg])]
    exact run hl hK
  · rename_i j want hg
    split at hl
    · rename_i dj hdj
      rw [ds_get] at hdj
      split at hl
      · rename_i c hc
        have hy := slot_val h hdj hc
        split at hl
        · rename_i hcw
          rw [if_pos (by simp [Region.wanted, hg, hy, hcw])]
          exact run hl hK
        · rename_i hcw
          rw [if_neg (by simp [Region.wanted, hg, hy, hcw])]
          exact ⟨fun _ _ => trivial, skip hl hK⟩
      · rename_i hc
        have hy := slot_undef h hdj hc
        rw [if_neg (by simp [Region.wanted, hg, hy])]
        exact ⟨fun _ _ => trivial, skip hl hK⟩
      · exact hl.elim
    · exact hl.elim

theorem wpAny_of_lAny {K : St → Prop} {Q : Exit → Act → World → Prop} {n : Nat} (hG : Γ.G = X.G) (hQ : ∀ s a w, K s → RR Γ s a w → Q .normal a w) : ∀ (fuel : Nat) (listed : Array Bool) (s : St) (a : Act) (w : World), RR Γ s a w →
    lAny X md ops K fuel listed s → wpAnyIn (F0 ro) n X.P md ops Q fuel listed a w
  | 0, _, s, a, w, h, hl => ⟨hl.1, hQ s a w hl.2 h⟩
  | fuel + 1, _, s, a, w, h, hl => ⟨fun h0 => hQ s a w (hl.1 h0) h, fun i hi => by
      obtain ⟨_, o, ho, _⟩ := mem_ready.1 hi
      exact YS_sound ho hG h (hl.2 i hi o ho) fun l a' w' h1 h2 => wpAny_of_lAny hG hQ fuel _ _ a' w' h2 h1⟩

theorem lopsY_of_Q {K : St → Prop} {ds : List (Option Tmp)} : ∀ (l : List Oper) (s : St), lopsQ X ds l K s → lopsY X ds K l s
  | [], s, h => h
  | o :: l, s, h => by
    have self : ∀ (dj : Nat) (c : Bool), s.tmps.getD dj .junk = .p (.bool c) → s.put (some dj) (.p (.bool c)) = s := by
      intro dj c hc
      rw [List.getD_eq_getElem?_getD] at hc
      cases hs : s.tmps[dj]? with
      | none => rw [hs] at hc; simp at hc
      | some x =>
        rw [hs] at hc; simp at hc
        simp only [St.put]
        congr 1
        obtain ⟨h1, h2⟩ := List.getElem?_eq_some_iff.1 hs
        rw [← hc, ← h2]; exact List.set_getElem_self h1
    simp only [lopsQ] at h
    simp only [lopsY]
    unfold lguard at h
    unfold YS
    cases hg : o.guard with
    | none =>
      rw [hg] at h
      exact lqc_mono (fun m hm => lopsY_of_Q l _ hm) h
    | some jw =>
      obtain ⟨j, want⟩ := jw
      rw [hg] at h
      simp only at h ⊢
      cases hdj : ds.getD j none with
      | none => rw [hdj] at h; exact h.elim
      | some dj =>
        rw [hdj] at h
        simp only at h ⊢
        split at h
        · rename_i c hc
          rw [hc]
          simp only
          by_cases hcw : c = want
          · rw [if_pos hcw]
            have h1 := h.1 hcw
            subst hcw
            rw [self _ _ hc] at h1
            exact lqc_mono (fun m hm => lopsY_of_Q l _ hm) h1
          · rw [if_neg hcw]
            have hcw' : c = !want := by cases c <;> cases want <;> simp_all
            have h1 := h.2 hcw'
            rw [← hcw', self _ _ hc] at h1
            exact lopsY_of_Q l _ h1
        · rename_i hc
          rw [hc]
          exact lopsY_of_Q l _ h
        · exact h.elim

/-- A region that draws its order. -/
theorem draws_sound {id : Nat} {s : St} {a : Act} {w : World} {K : St → Prop} {Q : Exit → Act → World → Prop} {n : Nat} (hG : Γ.G = X.G) (hm : X.P.follows .mixedOrders = true) (hB : Region.lexB .any ops = true) (hQ : ∀ s a w, K s → RR Γ s a w → Q .normal a w) (h : RR Γ s a w)
    (hl : lopsQ X (ops.toList.map (·.dst)) ops.toList K s) : (Code.region id ops true).wpIn (F0 ro) n X.P Q a w := by
  simp only [Region.lexB, Bool.and_eq_true] at hB
  have h' : RR Γ s a { w with drawn := w.drawn + 1 } := by
    obtain ⟨ms, hdef, β, Im, hx⟩ := h
    exact ⟨ms, hdef, β, Im, hx.grow (Grow.drew hx.fit.im)⟩
  refine wpIn_region_any hm (wpAny_of_lAny hG hQ _ _ s a _ h' ?_)
  have := lAny_lex (X := X) (K := K) (md := .any) ops.toList 0 (Array.replicate ops.size false) s (by simp) (by simpa using hB.2) (lopsY_of_Q ops.toList s hl)
  simpa using this

end
end Go.LX
