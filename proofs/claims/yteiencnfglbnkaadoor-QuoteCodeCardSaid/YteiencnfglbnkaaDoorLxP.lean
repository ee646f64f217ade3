/- Contracts of functions whose results lie in slots or in variables. -/
import Derived.Test.YteiencnfglbnkaaDoorLxR
import Derived.RangeFuncLeaves
import Derived.RangeFuncRecord
set_option linter.unusedSimpArgs false
set_option linter.unusedVariables false
set_option linter.unusedSectionVars false
set_option linter.unnecessarySimpa false
namespace Go.LX
open Go Go.RowKit Go.Proofs

def kpure (K : PV → Prop) (m : L) : Prop :=
  match m with
  | .p x => K x
  | _ => False
def resPV (P : Program) (s : St) : List ResultVar → (List PV → Prop) → Prop
  | [], K => K []
  | .tmp t :: l, K => kpure (fun x => resPV P s l fun xs => K (x :: xs)) (s.tmps.getD t .junk)
  | .cell t T :: l, K => lload P s.regs T (s.tmps.getD t .junk) (kpure fun x => resPV P s l fun xs => K (x :: xs))
def resOps : List ResultVar → List Operand
  | [] => []
  | .tmp t :: l => .tmp t :: resOps l
  | .cell _ _ :: l => resOps l
def asRes : List PV → L
  | [x] => .p x
  | xs => .tup xs
/-- The regions that a call leaves, in their order. -/
def normRegs : List Nat → Regs → Regs
  | [], _ => []
  | d :: ds, rs => match findReg d rs with
    | some r => (d, r) :: normRegs ds rs
    | none => normRegs ds rs
def kres (keys : List Nat) (Post : L → Regs → Prop) (rs : Regs) (xs : List PV) : Prop := Post (asRes xs) (normRegs (900 :: keys) rs)
def kresO (keys : List Nat) (Post : L → Regs → Prop) (rs : Regs) (l : L) : Prop := Post l (normRegs (900 :: keys) rs)
def lretF (P : Program) (rvs : List ResultVar) (keys : List Nat) (Post : L → Regs → Prop) (s : St) : Prop :=
  resPV P (s.freezeOps (resOps rvs)) rvs (kres keys Post (s.freezeOps (resOps rvs)).regs)
/-- The one result is handed on as it is. -/
def lretO (P : Program) (rvs : List ResultVar) (keys : List Nat) (Post : L → Regs → Prop) (s : St) : Prop :=
  match rvs with
  | [.tmp t] => kresO keys Post s.regs (s.tmps.getD t .junk)
  | [.cell t T] => lload P s.regs T (s.tmps.getD t .junk) (kresO keys Post s.regs)
  | _ => False
def renIf (d n : Nat) (s : St) : St :=
  match findKey d s.regs with
  | true => s.ren d n
  | false => s
def renAll : List (Nat × Nat) → St → St
  | [], s => s
  | (d, n) :: l, s => renAll l (renIf d n s)
def lret2 (P : Program) (own : Bool) (rvs : List ResultVar) (keys : List Nat) (Post : L → Regs → Prop) (s : St) : Prop :=
  match own with
  | false => lretF P rvs keys Post s
  | true => lretO P rvs keys Post s
def kret2 (P : Program) (own : Bool) (rn : List (Nat × Nat)) (rvs : List ResultVar) (keys : List Nat) (Post : L → Regs → Prop) : Ex → St → Prop
  | .normal, s => lret2 P own rvs keys Post (renAll rn s)
  | .ret, s => lret2 P own rvs keys Post (renAll rn s)
  | .exit _, _ => False

theorem mem_normRegs {d : Nat} {r : Reg} : ∀ {ds : List Nat} {rs : Regs}, (d, r) ∈ normRegs ds rs → d ∈ ds ∧ (d, r) ∈ rs
  | [], _, h => by cases h
  | e :: ds, rs, h => by
    simp only [normRegs] at h
    split at h
    · rename_i q hq
      rcases List.mem_cons.1 h with h | h
      · cases h; exact ⟨List.mem_cons_self, findReg_mem hq⟩
      · exact ⟨List.mem_cons_of_mem _ (mem_normRegs h).1, (mem_normRegs h).2⟩
    · exact ⟨List.mem_cons_of_mem _ (mem_normRegs h).1, (mem_normRegs h).2⟩
theorem keys_normRegs : ∀ (ds : List Nat) (rs : Regs), ((normRegs ds rs).map (·.1)).Sublist ds
  | [], _ => .slnil
  | e :: ds, rs => by
    simp only [normRegs]
    split
    · exact (keys_normRegs ds rs).cons_cons e
    · exact (keys_normRegs ds rs).cons e

theorem le_renAll : ∀ (l : List (Nat × Nat)) (s : St), (∀ x ∈ l, x.2 < 1000 ∨ 500000 ≤ x.2) → s.Le (renAll l s)
  | [], s, _ => St.Le.refl s
  | (d, n) :: l, s, h => by
    simp only [renAll]
    refine St.Le.trans ?_ (le_renAll l _ fun x hx => h x (List.mem_cons_of_mem _ hx))
    unfold renIf
    split
    · exact St.le_ren s (h _ List.mem_cons_self)
    · exact St.Le.refl s

theorem loadAt_addr {P : Program} {t : TypeId} {u v : Value} {w : World} (h : (Instr.loadAt t u).run P w = .ok v w) : (do loadVar t (← asAddr u) : Sem Value).run P w = .ok v w := by
  unfold Instr.loadAt Instr.sureAddr at h
  cases u <;> simp_all [asAddr]
  rename_i a
  cases a <;> simp_all

theorem run_results2 {P : Program} {β : Env} {w : World} {Im : Nat → Prop} {s : St} {a : Act} (hf : Fit β w Im s a.tmps) (g : ResultVar → Sem Value) (hg1 : ∀ t, g (.tmp t) = pure (a.tmps.getD t undef)) (hg2 : ∀ t T, g (.cell t T) = do loadVar T (← asAddr (a.tmps.getD t undef))) :
    ∀ (rvs : List ResultVar) (K : List PV → Prop), resPV P s rvs K → ∃ vs xs, (rvs.mapM g).run P w = .ok vs w ∧ K xs ∧ vs.length = xs.length ∧ ∀ (i : Nat) (v : Value) (x : PV), vs[i]? = some v → xs[i]? = some x → PRep w Im v x
  | [], K, h => ⟨[], [], by simp, h, rfl, fun i v x hv => by simp at hv⟩
  | .tmp t :: l, K, h => by
    simp only [resPV] at h
    unfold kpure at h
    split at h
    · rename_i x hx
      obtain ⟨vs, xs, h1, h2, h3, h4⟩ := run_results2 hf g hg1 hg2 l _ h
      refine ⟨a.tmps.getD t undef :: vs, x :: xs, ?_, h2, by simp [h3], fun i v y hv hy => ?_⟩
      · simp only [List.mapM_cons, hg1, Sem.run_bind, Sem.run_pure, Result.andThen_ok, h1]
      · cases i with
        | zero =>
          simp at hv hy; subst hv; subst hy
          have := get_rep hf (.tmp t)
          simp only [St.get, hx] at this
          simpa [LRep, Act.eval, Array.getD_eq_getD_getElem?] using this
        | succ i => simp at hv hy; exact h4 i v y hv hy
    · exact h.elim
  | .cell t T :: l, K, h => by
    simp only [resPV] at h
    have hr := get_rep hf (.tmp t)
    obtain ⟨v, m, hv, hm, hK⟩ := lload_sound hf hr h
    unfold kpure at hK
    split at hK
    · rename_i x
      obtain ⟨vs, xs, h1, h2, h3, h4⟩ := run_results2 hf g hg1 hg2 l _ hK
      refine ⟨v :: vs, x :: xs, ?_, h2, by simp [h3], fun i u y hu hy => ?_⟩
      · have := loadAt_addr hv
        have e : a.eval (.tmp t) = a.tmps.getD t undef := rfl
        rw [e] at this
        rw [List.mapM_cons]
        simp only [Sem.run_bind, hg2] at this ⊢
        rw [this]
        simp only [Result.andThen_ok, h1, Sem.run_pure]
      · cases i with
        | zero => simp at hu hy; subst hu; subst hy; exact hm
        | succ i => simp at hu hy; exact h4 i u y hu hy
    · exact hK.elim

def rvRun (tmps : Array Value) : ResultVar → Sem Value
  | .tmp t => pure (tmps.getD t undef)
  | .cell b T => do loadVar T (← asAddr (tmps.getD b undef))
theorem results_run {P : Program} {fn : Func} {tmps : Array Value} {w : World} {vs : List Value} (h : (fn.results.toList.mapM (rvRun tmps)).run P w = .ok vs w) :
    (results fn tmps).run P w = .ok (if h : vs.length = 1 then vs[0] else .tuple ⟨vs⟩) w := by
  have e : results fn tmps = (do
      let vs ← fn.results.mapM (rvRun tmps)
      pure (if h : vs.size = 1 then vs[0] else .tuple vs)) := by
    unfold results
    congr 1
  rw [e, Array.mapM_eq_mapM_toList]
  simp only [Sem.run_bind, Sem.run_map, h, Result.andThen_ok, Sem.run_pure]
  rfl

theorem RRx.shut {Γ : Base} {β : Env} {Im : Nat → Prop} {s : St} {tmps : Array Value} {w : World} {D : Nat} {ms : List Nat} (h : RRx (Γ.wm (D :: ms)) β Im s tmps w) : RRx (Γ.wm ms) β Im s tmps (w.putObj D (.deferred none)) := by
  obtain ⟨m1, m2, m3, m4⟩ := h.marks D List.mem_cons_self
  have hlt := (Array.getElem?_eq_some_iff.1 m1).1
  have hnd : D ∉ ms ∧ ms.Nodup := List.nodup_cons.1 h.mnod
  have hoth : ∀ k, k ≠ D → (w.putObj D (.deferred none)).heap[k]? = w.heap[k]? := fun k hk => World.putObj_heap_other hk
  have hk : Keeps w Im (w.putObj D (.deferred none)) Im := ⟨fun _ h => h, fun b hb => hoth b fun e => m2 (e ▸ hb)⟩
  refine { fit := { size := h.fit.size, tmps := fun i l hl => (h.fit.tmps i l hl).mono' hk, regs := fun d r hr => (h.fit.regs d r hr).mono hk rfl (fun _ _ => rfl) fun loc hl => hoth _ (m4 d r loc hr hl), nodup := h.fit.nodup, live := fun d r loc hr hl => by rw [World.putObj_size]; exact h.fit.live d r loc hr hl, apart := h.fit.apart, im := fun b hb => by rw [World.putObj_size]; exact h.fit.im b hb }
           os := h.os, tape := h.tape, output := h.output, size := by rw [World.putObj_size]; exact h.size, block := fun k hk' hm => ?_, imin := h.imin, imnew := h.imnew, regnew := h.regnew, fixed := h.fixed, glob := Γ.mono hk h.glob, mnod := hnd.2, marks := fun E hE => ?_ }
  · have m3' : Γ.W0.heap.size ≤ D := m3
    have hk2 : k < Γ.W0.heap.size := hk'
    rw [hoth k (by omega)]; exact h.block k hk' hm
  · obtain ⟨n1, n2, n3, n4⟩ := h.marks E (List.mem_cons_of_mem _ hE)
    exact ⟨(hoth E fun e => hnd.1 (e ▸ hE)).trans n1, n2, n3, n4⟩

theorem leaves_marks {F : Fence} {n : Nat} {P : Program} {fn : Func} {R : Ending → World → Prop} {Γ : Base} {β : Env} {Im : Nat → Prop} {s : St} {tmps : Array Value} : ∀ (ms : List Nat) (w : World), RRx (Γ.wm ms) β Im s tmps w →
    (∀ w', RRx (Γ.wm []) β Im s tmps w' → ∃ v, (results fn tmps).run P w' = .ok v w' ∧ R (.returned v) w') → LeavesInM F n P fn tmps R (ms.map mkMark) .returning w
  | [], w, h, hf => hf w h
  | D :: ms, w, h, hf => by
    obtain ⟨m1, _⟩ := h.marks D List.mem_cons_self
    exact ⟨by simp, .inl ⟨D, _, rfl, run_takeDeferred m1, leaves_marks ms _ h.shut hf⟩⟩

theorem LCalls.of_body2 {X : Cx} {f : FuncId} {fn : Func} {c : Code} {args : List L} {rs : Regs} {Post : L → Regs → Prop} (own : Bool) (rn : List (Nat × Nat)) (hrn : ∀ x ∈ rn, x.2 < 1000 ∨ 500000 ≤ x.2) (hf : X.P.funcs[f]? = some fn) (hname : (fn.name == "runtime.NumGoroutine") = false) (hb : fn.body = some c)
    (h900 : 900 ∉ rs.map (·.1)) (h : SWP X none c (kret2 X.P own rn fn.results.toList (rs.map (·.1)) Post) ⟨args ++ List.replicate (fn.ntmps - args.length) .junk, rs⟩) : LCalls X f args rs Post := by
  refine ⟨enters_of hf hname hb, fun β Im w vs hglob hfit => ?_⟩
  have hvl : vs.length = args.length := by simpa using hfit.size
  refine callsIn_wide.1 (callsIn_of_wp_marks (n := 1) (F := Fence.wide) hf hb trivial ?_)
  let Γ : Base := ⟨w, β, Im, fun k => ∃ d r loc, (d, r) ∈ rs ∧ β d = some loc ∧ loc.blk = k, [], X.G, X.mono⟩
  have hr0 : RR Γ ⟨args ++ List.replicate (fn.ntmps - args.length) .junk, rs⟩ { tmps := (⟨vs⟩ : Array Value) ++ Array.replicate (fn.ntmps - (⟨vs⟩ : Array Value).size) undef, defers := [] } w := by
    refine ⟨[], rfl, β, Im, { fit := { size := ?_, tmps := fun i l hl => ?_, regs := hfit.regs, nodup := hfit.nodup, live := hfit.live, apart := hfit.apart, im := hfit.im }, os := rfl, tape := rfl, output := rfl, size := Nat.le_refl _, block := fun _ _ _ => rfl, imin := fun _ h => h, imnew := fun _ h => .inl h, regnew := fun d r loc hd hl => .inr ⟨d, r, loc, hd, hl, rfl⟩, fixed := fun _ _ _ => rfl, glob := hglob, mnod := .nil, marks := fun D hD => (by cases hD) }⟩
    · simp [hvl]
    · by_cases hi : i < args.length
      · simp only at hl
        rw [List.getElem?_append_left hi] at hl
        have := hfit.tmps i l hl
        have e : ((⟨vs⟩ : Array Value) ++ Array.replicate (fn.ntmps - (⟨vs⟩ : Array Value).size) undef).getD i undef = (⟨vs⟩ : Array Value).getD i undef := by
          simp only [Array.getD_eq_getD_getElem?]
          rw [Array.getElem?_append_left (by simp; omega)]
        rw [e]; exact this
      · simp only at hl
        rw [List.getElem?_append_right (by omega), List.getElem?_replicate] at hl
        split at hl
        · cases hl; trivial
        · cases hl
  have hw := h Γ _ w rfl hr0
  refine wpIn_mono (show c.wpIn Fence.wide 1 X.P _ _ _ from hw) fun e a w' hq => ?_
  have step : ∀ {β' : Env} {Im' : Nat → Prop} {s : St} {tmps : Array Value} {w' : World}, RRx (Γ.wm []) β' Im' s tmps w' → CallStep β w Im rs β' w' Im' (normRegs (900 :: rs.map (·.1)) s.regs) := by
    intro β' Im' s tmps w' hx
    refine { os := hx.os, tape := hx.tape, output := hx.output, size := hx.size, block := fun k hk' hne => hx.block k hk' (fun ⟨d, r, loc, h1, h2, h3⟩ => hne d r loc h1 h2 h3), imin := hx.imin, imnew := hx.imnew, env := hx.fixed, keys := fun d r hd => ?_, regnew := fun d r loc hd hl => hx.regnew d r loc (mem_normRegs hd).2 hl, fit := ?_ }
    · rcases List.mem_cons.1 (mem_normRegs hd).1 with h | h
      · exact .inl h
      · obtain ⟨⟨d', r'⟩, h1, rfl⟩ := List.mem_map.1 h
        exact .inr ⟨r', h1⟩
    · exact { size := rfl, tmps := fun i l h => by simp at h, regs := fun d r hd => hx.fit.regs d r (mem_normRegs hd).2, nodup := (keys_normRegs _ _).nodup (List.nodup_cons.2 ⟨h900, hfit.nodup⟩), live := fun d r loc hd hl => hx.fit.live d r loc (mem_normRegs hd).2 hl, apart := fun d r d' r' l1 l2 hd hd' hne h1 h2 => hx.fit.apart d r d' r' l1 l2 (mem_normRegs hd).2 (mem_normRegs hd').2 hne h1 h2, im := hx.fit.im }
  have fin : ∀ s, lret2 X.P own fn.results.toList (rs.map (·.1)) Post (renAll rn s) → RR Γ s a w' → LeavesInM Fence.wide 1 X.P fn a.tmps (fun e w' => ∃ v l rs' β' Im', e = .returned v ∧ Post l rs' ∧ LRep β' w' Im' v l ∧ CallStep β w Im rs β' w' Im' rs') a.defers .returning w' := by
    intro s hl hr
    obtain ⟨ms, hdef, β', Im0, hx0⟩ := le_renAll rn s hrn Γ a w' hr
    generalize renAll rn s = s at hl hx0
    rw [hdef]
    unfold lret2 at hl
    split at hl
    · obtain ⟨Im', hx⟩ := RRx.freezeOps (resOps fn.results.toList) hx0
      unfold lretF at hl
      refine leaves_marks ms _ hx fun w2 hx2 => ?_
      obtain ⟨vs, xs, h1, hP, h3, h4⟩ := run_results2 (P := X.P) hx2.fit (a := { tmps := a.tmps, defers := [] }) (rvRun a.tmps) (fun _ => rfl) (fun _ _ => rfl) _ _ hl
      have hrun := results_run (P := X.P) (fn := fn) h1
      refine ⟨_, hrun, _, asRes xs, _, β', Im', rfl, hP, ?_, step hx2⟩
      split
      · rename_i h
        match vs, xs, h, h3, h4 with
        | [v], [x], _, _, h4 => exact h4 0 v x rfl rfl
      · rename_i h
        have : asRes xs = .tup xs := by
          match xs with
          | [] => rfl
          | [x] => exact absurd h3 h
          | _ :: _ :: _ => rfl
        rw [this]
        exact ⟨vs, rfl, h3, h4⟩
    · refine leaves_marks ms _ hx0 fun w2 hx2 => ?_
      unfold lretO at hl
      split at hl
      · rename_i t hres
        have h1 : (fn.results.toList.mapM (rvRun a.tmps)).run X.P w2 = .ok [a.tmps.getD t undef] w2 := by rw [hres]; simp [rvRun]
        have hrun := results_run (P := X.P) (fn := fn) h1
        have hrep := get_rep (a := { tmps := a.tmps, defers := [] }) hx2.fit (.tmp t)
        exact ⟨_, hrun, _, _, _, β', Im0, rfl, hl, hrep, step hx2⟩
      · rename_i t T hres
        have hrep := get_rep (a := { tmps := a.tmps, defers := [] }) hx2.fit (.tmp t)
        obtain ⟨v, m, hv, hm, hK⟩ := lload_sound (P := X.P) (a := { tmps := a.tmps, defers := [] }) hx2.fit hrep hl
        have h1 : (fn.results.toList.mapM (rvRun a.tmps)).run X.P w2 = .ok [v] w2 := by
          rw [hres]
          have := loadAt_addr hv
          simp only [List.mapM_cons, List.mapM_nil, rvRun, Sem.run_bind] at this ⊢
          have e : ({ tmps := a.tmps, defers := [] } : Act).eval (.tmp t) = a.tmps.getD t undef := rfl
          rw [e] at this
          rw [this]
          simp
        have hrun := results_run (P := X.P) (fn := fn) h1
        exact ⟨_, hrun, _, m, _, β', Im0, rfl, hK, hm, step hx2⟩
      · exact hl.elim
  cases e with
  | normal => obtain ⟨s, h1, h2⟩ := hq; exact fin s h1 h2
  | ret => obtain ⟨s, h1, h2⟩ := hq; exact fin s h1 h2
  | exit id => obtain ⟨s, h1, h2⟩ := hq; exact h1.elim
  | goto l => exact hq.elim
  | panic c => exact hq.elim
  | outgrown => exact hq.elim

section
variable {P : Program} {rvs : List ResultVar} {keys : List Nat} {Post : L → Regs → Prop} {t : List L} {r : Regs} {own : Bool} {rn : List (Nat × Nat)}
theorem k_ret_normal : kret2 P own rn rvs keys Post .normal ⟨t, r⟩ = lret2 P own rvs keys Post (renAll rn ⟨t, r⟩) := (rfl)
theorem k_ret_ret : kret2 P own rn rvs keys Post .ret ⟨t, r⟩ = lret2 P own rvs keys Post (renAll rn ⟨t, r⟩) := (rfl)
theorem k_ret_exit {id : Nat} : kret2 P own rn rvs keys Post (.exit id) ⟨t, r⟩ = False := (rfl)
end
end Go.LX
