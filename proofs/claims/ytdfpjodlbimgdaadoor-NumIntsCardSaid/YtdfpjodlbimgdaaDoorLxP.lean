/- Contracts of functions whose results lie in slots or in variables. -/
import Derived.Test.YtdfpjodlbimgdaaDoorLxR
set_option linter.unusedSimpArgs false
set_option linter.unusedVariables false
set_option linter.unusedSectionVars false
set_option linter.unnecessarySimpa false
namespace Go.LX
open Go Go.RowKit Go.Proofs

def kpure (K : PV → Prop) (m : L) : Prop :=
  match m with
  | .p x => K x
  | _ => False
def resPV (P : Program) (s : St) : List ResultVar → (List PV → Prop) → Prop
  | [], K => K []
  | .tmp t :: l, K => kpure (fun x => resPV P s l fun xs => K (x :: xs)) (s.tmps.getD t .junk)
  | .cell t T :: l, K => lload P s.regs T (s.tmps.getD t .junk) (kpure fun x => resPV P s l fun xs => K (x :: xs))
def resOps : List ResultVar → List Operand
  | [] => []
  | .tmp t :: l => .tmp t :: resOps l
  | .cell _ _ :: l => resOps l
def asRes : List PV → L
  | [x] => .p x
  | xs => .tup xs
def kres (keys : List Nat) (Post : L → Regs → Prop) (rs : Regs) (xs : List PV) : Prop := rs.map (·.1) = keys ∧ Post (asRes xs) rs
def lret2 (P : Program) (rvs : List ResultVar) (keys : List Nat) (Post : L → Regs → Prop) (s : St) : Prop :=
  resPV P (s.freezeOps (resOps rvs)) rvs (kres keys Post (keepRegs (s.freezeOps (resOps rvs)).regs))
def kret2 (P : Program) (rvs : List ResultVar) (keys : List Nat) (Post : L → Regs → Prop) : Ex → St → Prop
  | .normal, s => lret2 P rvs keys Post s
  | .ret, s => lret2 P rvs keys Post s
  | .exit _, _ => False

theorem loadAt_addr {P : Program} {t : TypeId} {u v : Value} {w : World} (h : (Instr.loadAt t u).run P w = .ok v w) : (do loadVar t (← asAddr u) : Sem Value).run P w = .ok v w := by
  unfold Instr.loadAt Instr.sureAddr at h
  cases u <;> simp_all [asAddr]
  rename_i a
  cases a <;> simp_all

theorem run_results2 {P : Program} {β : Env} {w : World} {Im : Nat → Prop} {s : St} {a : Act} (hf : Fit β w Im s a.tmps) (g : ResultVar → Sem Value) (hg1 : ∀ t, g (.tmp t) = pure (a.tmps.getD t undef)) (hg2 : ∀ t T, g (.cell t T) = do loadVar T (← asAddr (a.tmps.getD t undef))) :
    ∀ (rvs : List ResultVar) (K : List PV → Prop), resPV P s rvs K → ∃ vs xs, (rvs.mapM g).run P w = .ok vs w ∧ K xs ∧ vs.length = xs.length ∧ ∀ (i : Nat) (v : Value) (x : PV), vs[i]? = some v → xs[i]? = some x → PRep w Im v x
  | [], K, h => ⟨[], [], by simp, h, rfl, fun i v x hv => by simp at hv⟩
  | .tmp t :: l, K, h => by
    simp only [resPV] at h
    unfold kpure at h
    split at h
    · rename_i x hx
      obtain ⟨vs, xs, h1, h2, h3, h4⟩ := run_results2 hf g hg1 hg2 l _ h
      refine ⟨a.tmps.getD t undef :: vs, x :: xs, ?_, h2, by simp [h3], fun i v y hv hy => ?_⟩
      · simp only [List.mapM_cons, hg1, Sem.run_bind, Sem.run_pure, Result.andThen_ok, h1]
      · cases i with
        | zero =>
          simp at hv hy; subst hv; subst hy
          have := get_rep hf (.tmp t)
          simp only [St.get, hx] at this
          simpa [LRep, Act.eval, Array.getD_eq_getD_getElem?] using this
        | succ i => simp at hv hy; exact h4 i v y hv hy
    · exact h.elim
  | .cell t T :: l, K, h => by
    simp only [resPV] at h
    have hr := get_rep hf (.tmp t)
    obtain ⟨v, m, hv, hm, hK⟩ := lload_sound hf hr h
    unfold kpure at hK
    split at hK
    · rename_i x
      obtain ⟨vs, xs, h1, h2, h3, h4⟩ := run_results2 hf g hg1 hg2 l _ hK
      refine ⟨v :: vs, x :: xs, ?_, h2, by simp [h3], fun i u y hu hy => ?_⟩
      · have := loadAt_addr hv
        have e : a.eval (.tmp t) = a.tmps.getD t undef := rfl
        rw [e] at this
        rw [List.mapM_cons]
        simp only [Sem.run_bind, hg2] at this ⊢
        rw [this]
        simp only [Result.andThen_ok, h1, Sem.run_pure]
      · cases i with
        | zero => simp at hu hy; subst hu; subst hy; exact hm
        | succ i => simp at hu hy; exact h4 i u y hu hy
    · exact hK.elim

def rvRun (tmps : Array Value) : ResultVar → Sem Value
  | .tmp t => pure (tmps.getD t undef)
  | .cell b T => do loadVar T (← asAddr (tmps.getD b undef))
theorem results_run {P : Program} {fn : Func} {tmps : Array Value} {w : World} {vs : List Value} (h : (fn.results.toList.mapM (rvRun tmps)).run P w = .ok vs w) :
    (results fn tmps).run P w = .ok (if h : vs.length = 1 then vs[0] else .tuple ⟨vs⟩) w := by
  have e : results fn tmps = (do
      let vs ← fn.results.mapM (rvRun tmps)
      pure (if h : vs.size = 1 then vs[0] else .tuple vs)) := by
    unfold results
    congr 1
  rw [e, Array.mapM_eq_mapM_toList]
  simp only [Sem.run_bind, Sem.run_map, h, Result.andThen_ok, Sem.run_pure]
  rfl

theorem LCalls.of_body2 {X : Cx} {f : FuncId} {fn : Func} {c : Code} {args : List L} {rs : Regs} {Post : L → Regs → Prop} (hf : X.P.funcs[f]? = some fn) (hname : (fn.name == "runtime.NumGoroutine") = false) (hb : fn.body = some c)
    (hk : ∀ d ∈ rs.map (·.1), 1000 ≤ d) (h : SWP X none c (kret2 X.P fn.results.toList (rs.map (·.1)) Post) ⟨args ++ List.replicate (fn.ntmps - args.length) .junk, rs⟩) : LCalls X f args rs Post := by
  refine ⟨enters_of hf hname hb, fun β Im w vs hglob hfit => ?_⟩
  have hvl : vs.length = args.length := by simpa using hfit.size
  refine callsIn_wide.1 (callsIn_of_wp (n := 1) (F := Fence.wide) hf hb trivial ?_)
  let Γ : Base := ⟨w, β, Im, fun k => ∃ d r loc, (d, r) ∈ rs ∧ β d = some loc ∧ loc.blk = k, X.G, X.mono⟩
  have hr0 : RR Γ ⟨args ++ List.replicate (fn.ntmps - args.length) .junk, rs⟩ { tmps := (⟨vs⟩ : Array Value) ++ Array.replicate (fn.ntmps - (⟨vs⟩ : Array Value).size) undef, defers := [] } w := by
    refine ⟨rfl, β, Im, { fit := { size := ?_, tmps := fun i l hl => ?_, regs := hfit.regs, nodup := hfit.nodup, live := hfit.live, apart := hfit.apart, im := hfit.im }, os := rfl, tape := rfl, output := rfl, size := Nat.le_refl _, block := fun _ _ _ => rfl, imin := fun _ h => h, imnew := fun _ h => .inl h, regnew := fun d r loc hd hl => .inr ⟨hk d (List.mem_map.2 ⟨_, hd, rfl⟩), d, r, loc, hd, hl, rfl⟩, fixed := fun _ _ => rfl, glob := hglob }⟩
    · simp [hvl]
    · by_cases hi : i < args.length
      · simp only at hl
        rw [List.getElem?_append_left hi] at hl
        have := hfit.tmps i l hl
        have e : ((⟨vs⟩ : Array Value) ++ Array.replicate (fn.ntmps - (⟨vs⟩ : Array Value).size) undef).getD i undef = (⟨vs⟩ : Array Value).getD i undef := by
          simp only [Array.getD_eq_getD_getElem?]
          rw [Array.getElem?_append_left (by simp; omega)]
        rw [e]; exact this
      · simp only at hl
        rw [List.getElem?_append_right (by omega), List.getElem?_replicate] at hl
        split at hl
        · cases hl; trivial
        · cases hl
  have hw := h Γ _ w rfl hr0
  refine wpIn_mono (show c.wpIn Fence.wide 1 X.P _ _ _ from hw) fun e a w' hq => ?_
  have fin : ∀ s, lret2 X.P fn.results.toList (rs.map (·.1)) Post s → RR Γ s a w' → a.defers = [] ∧ ∃ v, (results fn a.tmps).run X.P w' = .ok v w' ∧
      ∃ v_1 l rs' β' Im', Ending.returned v = Ending.returned v_1 ∧ Post l rs' ∧ LRep β' w' Im' v_1 l ∧ l.retOK = true ∧ CallStep β w Im rs β' w' Im' rs' := by
    rintro s hl ⟨hdef, β', Im0, hx0⟩
    obtain ⟨Im', hx⟩ := RRx.freezeOps (resOps fn.results.toList) hx0
    unfold lret2 at hl
    obtain ⟨vs, xs, h1, ⟨hkeys, hP⟩, h3, h4⟩ := run_results2 (P := X.P) hx.fit (rvRun a.tmps) (fun _ => rfl) (fun _ _ => rfl) _ _ hl
    have hrun := results_run (P := X.P) (fn := fn) h1
    refine ⟨hdef, _, hrun, _, asRes xs, _, β', Im', rfl, hP, ?_, ?_, ?_⟩
    · split
      · rename_i h
        match vs, xs, h, h3, h4 with
        | [v], [x], _, _, h4 => exact h4 0 v x rfl rfl
      · rename_i h
        have : asRes xs = .tup xs := by
          match xs with
          | [] => rfl
          | [x] => exact absurd h3 h
          | _ :: _ :: _ => rfl
        rw [this]
        exact ⟨vs, rfl, h3, h4⟩
    · match xs with
      | [] => rfl
      | [x] => rfl
      | _ :: _ :: _ => rfl
    · refine { os := hx.os, tape := hx.tape, output := hx.output, size := hx.size, block := fun k hk' hne => hx.block k hk' (fun ⟨d, r, loc, h1, h2, h3⟩ => hne d r loc h1 h2 h3), imin := hx.imin, imnew := hx.imnew, env := hx.fixed, keys := hkeys, fit := ?_ }
      refine { size := rfl, tmps := fun i l h => by simp at h, regs := fun d r hd => hx.fit.regs d r (mem_keepRegs hd).2, nodup := (keys_keepRegs _).nodup hx.fit.nodup, live := fun d r loc hd hl => hx.fit.live d r loc (mem_keepRegs hd).2 hl, apart := fun d r d' r' l1 l2 hd hd' hne h1 h2 => hx.fit.apart d r d' r' l1 l2 (mem_keepRegs hd).2 (mem_keepRegs hd').2 hne h1 h2, im := hx.fit.im }
  cases e with
  | normal => obtain ⟨s, h1, h2⟩ := hq; exact fin s h1 h2
  | ret => obtain ⟨s, h1, h2⟩ := hq; exact fin s h1 h2
  | exit id => obtain ⟨s, h1, h2⟩ := hq; exact h1.elim
  | goto l => exact hq.elim
  | panic c => exact hq.elim
  | outgrown => exact hq.elim

section
variable {P : Program} {rvs : List ResultVar} {keys : List Nat} {Post : L → Regs → Prop} {t : List L} {r : Regs}
theorem k_ret_normal : kret2 P rvs keys Post .normal ⟨t, r⟩ = lret2 P rvs keys Post ⟨t, r⟩ := (rfl)
theorem k_ret_ret : kret2 P rvs keys Post .ret ⟨t, r⟩ = lret2 P rvs keys Post ⟨t, r⟩ := (rfl)
end

end Go.LX
