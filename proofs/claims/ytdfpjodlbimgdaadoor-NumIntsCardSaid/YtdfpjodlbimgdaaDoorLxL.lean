/- Operations one behind the other, on logical states. -/
import Derived.Test.YtdfpjodlbimgdaaDoorLxTwo
set_option linter.unusedSimpArgs false
set_option linter.unusedVariables false
set_option linter.unusedSectionVars false
set_option linter.unnecessarySimpa false
namespace Go.LX
open Go Go.RowKit Go.Proofs

/-- The wide fence, in a function's body or in a round of a range over a function. -/
def F0 (r : Option Nat) : Fence := { fn := fun _ => True, depth := none, alive := false, round := r }

theorem calls_F0 {r : Option Nat} {n : Nat} {P : Program} {f : FuncId} {args : Array Value} {w : World} {R : Ending → World → Prop} (h : Calls P f args w R) : CallsIn (F0 r) n P f args w R :=
  show CallsIn Fence.wide n P f args w R from callsIn_wide.2 h

/-! ### The operations -/
def lcall (X : Cx) (s : St) (f : Operand) (args : List Operand) (K : L → Regs → St → Prop) : Prop :=
  match s.get f with
  | .fn g ds =>
    LCalls X g ((args.map (s.freezeOps args).get ++ ds.map fun d => L.ptr d 0 0).map L.shift) (shiftRegs (restrict (reachIds 2 ((args.map (s.freezeOps args).get).flatMap L.ids ++ ds) (s.freezeOps args).regs) (s.freezeOps args).regs))
      fun l rs' => K l rs' (s.freezeOps args)
  | _ => False

/-- What comes behind an operation. -/
def kput (dst : Option Tmp) (K : St → Prop) (s : St) (l : L) : Prop := K (s.put dst l)
def kunit (dst : Option Tmp) (K : St → Prop) (s : St) : Prop := K (s.put dst (.tup []))
def kcall (dst : Option Tmp) (K : St → Prop) (l : L) (rs' : Regs) (s : St) : Prop := K ((s.after rs').put dst l)

def lop (X : Cx) (o : Oper) (K : St → Prop) (s : St) : Prop :=
  match o.op, o.dst with
  | .alloc T, some d => lalloc X.P d T s K
  | .box T x, some d => lbox d T s x K
  | .buildSlice t n parts, some d => lbuildSlice X.P d t n s parts.toList K
  | .makeSlice t l c, some d => lmakeSlice X.P d t s l c K
  | .store t a x, dst => lstore X.P t s a x (kunit dst K)
  | .call { callee := .builtin .append, args, argTypes }, some d => match args.toList, argTypes.toList with
    | [x, y], [t, t'] => lappend X.P d t t' s x y K
    | _, _ => False
  | .call { callee := .value f, args, argTypes := _ }, dst => lcall X s f args.toList (kcall dst K)
  | .convert a b x, dst => lconv X.P a b ((s.freezeOps [x]).get x) (kput dst K (s.freezeOps [x]))
  | op, dst => lq X.P s.regs s.get op (kput dst K s)

/-- An operation under its guard. 'ds': what each operation of the region writes. -/
def lguard (ds : List (Option Tmp)) (g : Option (Nat × Bool)) (A B : St → Prop) (s : St) : Prop :=
  match g with
  | none => A s
  | some (j, want) => match ds.getD j none with
    | some dj => match s.tmps.getD dj .junk with
      | .p (.bool c) => (c = want → A (s.put (some dj) (.p (.bool want)))) ∧ (c = (!want) → B (s.put (some dj) (.p (.bool (!want)))))
      | .tup [] => B s
      | _ => False
    | none => False

def lops (X : Cx) (ds : List (Option Tmp)) : List Oper → (St → Prop) → St → Prop
  | [], K, s => K s
  | o :: rest, K, s => lguard ds o.guard (lop X o (lops X ds rest K)) (kunit o.dst (lops X ds rest K)) s

section
variable {P : Program} {X : Cx} {Γ : Base} {ro : Option Nat}

theorem semAt_of {o : Oper} (ρ : Operand → Value) (h : ∀ c, o.op ≠ .defer c) : o.semAt (F0 ro).round ρ = execOp ρ o := Oper.semAt_eq _ _ _ h

/-- An operation whose run yields a value. -/
theorem wpIn_value {o : Oper} {a : Act} {w w' : World} {v : Value} {next : Act → World → Prop} {Q : Exit → Act → World → Prop} {n : Nat} (hd : ∀ c, o.op ≠ .defer c) (hr : (execOp a.eval o).run P w = .ok (.value v) w') (h : next (a.put o.dst v) w') :
    o.wpIn (F0 ro) n P a w next Q := by
  refine ⟨fun _ _ => trivial, ?_⟩
  rw [semAt_of _ hd, hr]
  exact h
theorem wpIn_skipped {o : Oper} {a : Act} {w w' : World} {next : Act → World → Prop} {Q : Exit → Act → World → Prop} {n : Nat} (hd : ∀ c, o.op ≠ .defer c) (hr : (execOp a.eval o).run P w = .ok .skip w') (h : next (a.put o.dst undef) w') :
    o.wpIn (F0 ro) n P a w next Q := by
  refine ⟨fun _ _ => trivial, ?_⟩
  rw [semAt_of _ hd, hr]
  exact h
theorem wpIn_enter {o : Oper} {a : Act} {w w' : World} {f : FuncId} {args : Array Value} {next : Act → World → Prop} {Q : Exit → Act → World → Prop} {n : Nat} (hd : ∀ c, o.op ≠ .defer c) (hr : (execOp a.eval o).run P w = .ok (.enter f args) w')
    (h : Calls P f args w' fun e w'' => ∃ v, e = .returned v ∧ next (a.put o.dst v) w'') : o.wpIn (F0 ro) n P a w next Q := by
  refine ⟨fun _ _ => trivial, ?_⟩
  rw [semAt_of _ hd, hr]
  refine ⟨fun h => by simp [F0] at h, ?_⟩
  refine calls_F0 (h.mono fun e w'' ⟨v, he, hn⟩ => ?_)
  subst he
  exact hn

theorem Makes.oper {a : Act} {d : Tmp} {r : Sem Value} {K : St → Prop} {w : World} {o : Oper} {Q : Exit → Act → World → Prop} {n : Nat} (h : Makes Γ a d (r.run P w) K) (hd : ∀ c, o.op ≠ .defer c) (ho : execOp a.eval o = (do pure (Next.value (← r)) : Sem Next)) (hdst : o.dst = some d) (hdef : a.defers = []) :
    o.wpIn (F0 ro) n P a w (fun a' w' => ∃ s, K s ∧ RR Γ s a' w') Q := by
  obtain ⟨v, w', β', Im', s', l, hr, h1, h2, hK⟩ := h
  refine wpIn_value hd (v := v) (w' := w') (by rw [ho]; simp [hr]) ⟨_, hK, ?_, β', Im', ?_⟩
  · rw [hdst]; exact hdef
  · rw [hdst]; exact h1.put (some d) h2

theorem lop_sound {s : St} {a : Act} {w : World} {o : Oper} {K : St → Prop} {Q : Exit → Act → World → Prop} {n : Nat} (hG : Γ.G = X.G) (h : RR Γ s a w) (hl : lop X o K s) : o.wpIn (F0 ro) n X.P a w (fun a' w' => ∃ s, K s ∧ RR Γ s a' w') Q := by
  obtain ⟨hdef, β, Im, hx⟩ := h
  unfold lop at hl
  split at hl
  · rename_i T d ho hdst
    exact (lalloc_sound hx hl).oper (by rw [ho]; simp) (by unfold execOp; rw [ho]) hdst hdef
  · rename_i T x d ho hdst
    exact (lbox_sound (P := X.P) hx hl).oper (by rw [ho]; simp) (by unfold execOp; rw [ho]) hdst hdef
  · rename_i t m parts d ho hdst
    have := lbuildSlice_sound hx hl
    have e : (parts.map fun (i, x) => (i, a.eval x)) = ⟨parts.toList.map fun (i, x) => (i, a.eval x)⟩ := by rw [← Array.toList_inj]; simp
    rw [← e] at this
    exact this.oper (by rw [ho]; simp) (by unfold execOp; rw [ho]) hdst hdef
  · rename_i t l c d ho hdst
    exact (lmakeSlice_sound hx hl).oper (by rw [ho]; simp) (by unfold execOp; rw [ho]) hdst hdef
  · rename_i t x y ho
    obtain ⟨w', s', Im', hr, hK, h'⟩ := lstore_sound hx hl
    refine wpIn_skipped (w' := w') (by rw [ho]; simp) (by unfold execOp; rw [ho]; simp [hr]) ⟨_, hK, ?_, β, Im', h'.put _ ⟨[], rfl, rfl, fun i x p h => by simp at h⟩⟩
    cases hc : o.dst <;> simpa [Act.put] using hdef
  · rename_i args ts d ho hdst
    split at hl
    · rename_i x y t t' ha ht
      have := lappend_sound (ty := o.type) hx hl
      refine this.oper (by rw [ho]; simp) ?_ hdst hdef
      unfold execOp
      rw [ho]
      obtain ⟨la⟩ := args
      obtain ⟨lt⟩ := ts
      simp only at ha ht
      subst ha; subst ht
      simp [resolve, invoke, builtin]
    · exact hl.elim
  · rename_i f args ts ho
    unfold lcall at hl
    split at hl
    · rename_i g ds hg
      obtain ⟨hent, hl⟩ := hl
      have hrf := get_rep hx.fit f
      rw [hg] at hrf
      obtain ⟨cs, hv, hcl, hcs⟩ := hrf
      obtain ⟨Im', hx'⟩ := RRx.freezeOps args.toList hx
      have hfit := hx'.fit.call (args := args.toList.map (s.freezeOps args.toList).get ++ ds.map fun d => L.ptr d 0 0) (vs := args.toList.map a.eval ++ cs) (by simp [hcl]) (fun i v l hi hl' => by
        by_cases hlt : i < args.toList.length
        · rw [List.getElem?_append_left (by simpa using hlt), List.getElem?_map] at hi hl'
          obtain ⟨q, hq, rfl⟩ := Option.map_eq_some_iff.1 hi
          rw [hq] at hl'
          cases hl'
          exact get_rep hx'.fit q
        · rw [List.getElem?_append_right (by simpa using hlt)] at hi hl'
          simp only [List.length_map] at hi hl'
          rw [List.getElem?_map] at hl'
          obtain ⟨d, hd, rfl⟩ := Option.map_eq_some_iff.1 hl'
          obtain ⟨loc, h1, h2⟩ := hcs _ v d hi hd
          exact ⟨loc, h1, by simpa using h2⟩) (reachIds 2 ((args.toList.map (s.freezeOps args.toList).get).flatMap L.ids ++ ds) (s.freezeOps args.toList).regs)
      refine wpIn_enter (f := g) (args := ⟨args.toList.map a.eval ++ cs⟩) (w' := w) (by rw [ho]; simp) ?_ ?_
      · unfold execOp
        rw [ho]
        have e : args.map a.eval ++ (⟨cs⟩ : Array Value) = ⟨args.toList.map a.eval ++ cs⟩ := by rw [← Array.toList_inj]; simp
        simp only [resolve, Sem.run_bind, hv, Deferred.ofValue, Sem.run_pure, Result.andThen_ok, invoke, Array.empty_append, e]
        exact hent _ _
      · refine (hl β.shift Im' w _ (hG ▸ hx'.glob) hfit).mono fun e w' ⟨v, l, rs', β', Im2, he, hP, hrep, hret, hstep⟩ => ⟨v, he, _, hP, ?_, β, Im2, ?_⟩
        · cases hc : o.dst <;> simpa [Act.put] using hdef
        · refine (hx'.called hstep).put _ ?_
          cases l <;> first | exact hrep | cases hret
    · exact hl.elim
  · rename_i a1 b1 x ho
    obtain ⟨Im', hx'⟩ := RRx.freezeOps [x] hx
    have hq := lconv_sound (P := X.P) (get_rep hx'.fit x) hl
    obtain ⟨v, l, hr, hrep, hK⟩ := hq
    refine wpIn_value (v := v) (w' := w) (by rw [ho]; simp) (by unfold execOp; rw [ho]; simp [hr]) ⟨_, hK, ?_, β, Im', hx'.put _ hrep⟩
    cases hc : o.dst <;> simpa [Act.put] using hdef
  · rename_i op dst h1 h2 h3 h4 h5 h6 h7 h8
    have hq := lq_sound (P := X.P) hx.fit (o := o) hl
    obtain ⟨v, l, hr, hrep, hK⟩ := hq
    refine wpIn_value (v := v) (w' := w) (fun c hc => ?_) hr ⟨_, hK, ?_, β, Im, hx.put _ hrep⟩
    · rw [hc] at hl; simp [lq] at hl
    · cases hc : o.dst <;> simpa [Act.put] using hdef

/-- Under its guard. -/
theorem lguard_sound {s : St} {a : Act} {w : World} {ops : Array Oper} {g : Option (Nat × Bool)} {A B : St → Prop} (h : RR Γ s a w) (hl : lguard (ops.toList.map (·.dst)) g A B s) :
    ∃ s', RR Γ s' a w ∧ ((A s' ∧ ∀ o : Oper, o.guard = g → Region.wanted o (yielded ops a.tmps) = true) ∨ (B s' ∧ ∀ o : Oper, o.guard = g → Region.wanted o (yielded ops a.tmps) = false)) := by
  unfold lguard at hl
  split at hl
  · exact ⟨s, h, .inl ⟨hl, fun o ho => by simp [Region.wanted, ho]⟩⟩
  · rename_i j want
    split at hl
    · rename_i dj hdj
      obtain ⟨hdef, β, Im, hx⟩ := h
      have hlook : (ops[j]?).bind (·.dst) = some dj := by
        rw [List.getD_eq_getElem?_getD, List.getElem?_map] at hdj
        cases hj : ops[j]? with
        | none => simp [hj] at hdj
        | some o => simpa [hj] using hdj
      split at hl
      · rename_i c hc
        have hlt : s.tmps[dj]? = some (.p (.bool c)) := by
          rw [List.getD_eq_getElem?_getD] at hc
          cases hs : s.tmps[dj]? with
          | none => rw [hs] at hc; simp at hc
          | some l => rw [hs] at hc; simp at hc; rw [hc]
        have hrep := hx.fit.tmps dj _ hlt
        have hsz : dj < a.tmps.size := by rw [hx.fit.size]; exact (List.getElem?_eq_some_iff.1 hlt).1
        have hv : a.tmps[dj]? = some (.bool c) := by
          have e1 : a.tmps.getD dj undef = a.tmps[dj] := by simp [Array.getD_eq_getD_getElem?, hsz]
          rw [e1] at hrep
          cases hvv : a.tmps[dj] with
          | bool b => rw [hvv] at hrep; cases hrep; simp [hsz, hvv]
          | _ => rw [hvv] at hrep; cases hrep
        have hy : yielded ops a.tmps j = some c := by simp [yielded, hlook, hv]
        have same : ∀ c', c = c' → RR Γ (s.put (some dj) (.p (.bool c'))) a w := by
          rintro c' rfl
          have e : s.put (some dj) (.p (.bool c)) = s := by
            simp only [St.put]
            congr 1
            obtain ⟨hl1, hl2⟩ := List.getElem?_eq_some_iff.1 hlt
            rw [← hl2]
            exact List.set_getElem_self hl1
          rw [e]
          exact ⟨hdef, β, Im, hx⟩
        by_cases hcw : c = want
        · exact ⟨_, same want hcw, .inl ⟨hl.1 hcw, fun o ho => by simp [Region.wanted, ho, hy, hcw]⟩⟩
        · have hcw' : c = !want := by cases c <;> cases want <;> simp_all
          exact ⟨_, same (!want) hcw', .inr ⟨hl.2 hcw', fun o ho => by simp [Region.wanted, ho, hy, hcw]⟩⟩
      · rename_i hc
        have hlt : s.tmps[dj]? = some (.tup []) := by
          rw [List.getD_eq_getElem?_getD] at hc
          cases hs : s.tmps[dj]? with
          | none => rw [hs] at hc; simp at hc
          | some l => rw [hs] at hc; simp at hc; rw [hc]
        have hrep := hx.fit.tmps dj _ hlt
        have hsz : dj < a.tmps.size := by rw [hx.fit.size]; exact (List.getElem?_eq_some_iff.1 hlt).1
        have e1 : a.tmps.getD dj undef = a.tmps[dj] := by simp [Array.getD_eq_getD_getElem?, hsz]
        rw [e1] at hrep
        obtain ⟨vs, hv, _⟩ := hrep
        have hy : yielded ops a.tmps j = none := by simp [yielded, hlook, hsz, hv]
        exact ⟨s, ⟨hdef, β, Im, hx⟩, .inr ⟨hl, fun o ho => by simp [Region.wanted, ho, hy]⟩⟩
      · exact hl.elim
    · exact hl.elim

theorem undef_rep {β : Env} {w : World} {Im : Nat → Prop} : LRep β w Im undef (.tup []) := ⟨[], rfl, rfl, fun i x p h => by simp at h⟩

theorem put_defers {a : Act} {dst : Option Tmp} {v : Value} (h : a.defers = []) : (a.put dst v).defers = [] := by cases dst <;> exact h

theorem lops_sound {ops : Array Oper} {K : St → Prop} {Q : Exit → Act → World → Prop} {n : Nat} (hG : Γ.G = X.G) (hQ : ∀ s a w, K s → RR Γ s a w → Q .normal a w) : ∀ (l : List Oper) (k : Nat), (∀ j, l[j]? = ops[k + j]?) → ∀ (s : St) (a : Act) (w : World), RR Γ s a w →
    lops X (ops.toList.map (·.dst)) l K s → wpOpsIn (F0 ro) n X.P ops Q (List.range' k l.length) a w
  | [], k, _, s, a, w, h, hl => by simpa [wpOpsIn] using hQ s a w hl h
  | o :: l, k, hk, s, a, w, h, hl => by
    have h0 : ops[k]? = some o := by simpa using (hk 0).symm
    have hk' : ∀ j, l[j]? = ops[k + 1 + j]? := fun j => by have := hk (j + 1); simpa [Nat.add_assoc, Nat.add_comm 1 j] using this
    simp only [List.length_cons, List.range'_succ, wpOpsIn, h0]
    simp only [lops] at hl
    obtain ⟨s', h', hc⟩ := lguard_sound h hl
    rcases hc with ⟨hA, hw⟩ | ⟨hB, hw⟩
    · rw [if_pos (hw o rfl)]
      exact Oper.wpIn_mono (fun a' w' ⟨s2, hs2, hr2⟩ => lops_sound hG hQ l (k + 1) hk' s2 a' w' hr2 hs2) (lop_sound hG h' hA)
    · rw [if_neg (by rw [hw o rfl]; simp)]
      obtain ⟨hdef, β, Im, hx⟩ := h'
      exact ⟨fun _ _ => trivial, lops_sound hG hQ l (k + 1) hk' _ _ w ⟨put_defers hdef, β, Im, hx.put o.dst undef_rep⟩ hB⟩

end
end Go.LX
