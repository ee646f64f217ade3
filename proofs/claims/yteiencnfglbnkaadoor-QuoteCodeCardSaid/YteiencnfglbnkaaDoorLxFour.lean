/- Contracts of the library's, lifted. -/
import Derived.Test.YteiencnfglbnkaaDoorLxV
import Derived.Below
import Derived.Lib.LaidTab
import Derived.Test.YteiencnfglbnkaaDoorLxU
import Derived.OpenShut
import Derived.WideKeyArgs
import Derived.ProofKit
import Derived.WalkKit
import Derived.ChangeSame
set_option linter.unusedSimpArgs false
set_option linter.unusedVariables false
set_option linter.unusedSectionVars false
set_option linter.unnecessarySimpa false
namespace Go.LX
open Go Go.RowKit Go.Proofs

theorem CallStep.of_below {β : Env} {w w' : World} {Im : Nat → Prop} {args : List L} {rs : Regs} {tmps : Array Value} (hf : Fit β w Im ⟨args, rs⟩ tmps) (h : Below w.heap.size w w') : CallStep β w Im rs β w' Im rs :=
  { os := h.os, tape := h.tape, output := h.output, size := h.size, block := fun k hk _ => h.block k hk, imin := fun _ h => h, imnew := fun _ h => .inl h, env := fun _ _ _ => rfl, keys := fun d r hd => .inr ⟨r, hd⟩, regnew := fun d r loc hd hl => .inr ⟨d, r, loc, hd, hl, rfl⟩
    fit := by
      have g : Grow w Im w' Im := ⟨h.os, h.tape, h.output, h.size, h.block, fun _ h => h, fun _ h => .inl h, fun b hb => Nat.lt_of_lt_of_le (hf.im b hb) h.size⟩
      have := hf.grow g
      exact { size := rfl, tmps := fun i l h => by simp at h, regs := this.regs, nodup := this.nodup, live := this.live, apart := this.apart, im := this.im } }

theorem Det.of_below {X : Cx} {f : FuncId} {args : List L} {rs : Regs} {l : L} {v : Value} (hent : Enters X.P f) (_ : l.retOK = true) (hv : ∀ β w Im, LRep β w Im v l)
    (h : ∀ (β : Env) (Im : Nat → Prop) (w : World) (vs : List Value), X.G w Im → Fit β w Im ⟨args, rs⟩ ⟨vs⟩ → Calls X.P f ⟨vs⟩ w fun e w' => e = .returned v ∧ Below w.heap.size w w') : Det X f args rs l rs :=
  ⟨hent, fun β Im w vs hg hf => (h β Im w vs hg hf).mono fun _ w' ⟨he, hb⟩ => ⟨v, l, rs, β, Im, he, ⟨rfl, rfl⟩, hv _ _ _, CallStep.of_below hf hb⟩⟩

/-- The same, of a result that is told only as far as the contract tells it. -/
theorem Det.of_belowE {X : Cx} {f : FuncId} {args : List L} {rs : Regs} {l : L} (hent : Enters X.P f)
    (h : ∀ (β : Env) (Im : Nat → Prop) (w : World) (vs : List Value), X.G w Im → Fit β w Im ⟨args, rs⟩ ⟨vs⟩ → Calls X.P f ⟨vs⟩ w fun e w' => (∃ v, e = .returned v ∧ ∀ β w Im, LRep β w Im v l) ∧ Below w.heap.size w w') : Det X f args rs l rs :=
  ⟨hent, fun β Im w vs hg hf => (h β Im w vs hg hf).mono fun _ w' ⟨⟨v, he, hv⟩, hb⟩ => ⟨v, l, rs, β, Im, he, ⟨rfl, rfl⟩, hv _ _ _, CallStep.of_below hf hb⟩⟩
theorem rep_ifi {β : Env} {w : World} {Im : Nat → Prop} {v : Value} {t : TypeId} {k : IntKind} {n : Int} (h : LRep β w Im v (.p (.ifi t k n))) : v = .iface t (.int k n) := by cases h; rfl
theorem fit1 {β : Env} {w : World} {Im : Nat → Prop} {a : L} {rs : Regs} {vs : List Value} (h : Fit β w Im ⟨[a], rs⟩ ⟨vs⟩) : ∃ v, vs = [v] ∧ LRep β w Im v a := by
  have hs := h.size
  match vs, hs with
  | [v], _ => exact ⟨v, rfl, h.tmps 0 a rfl⟩
theorem fit2 {β : Env} {w : World} {Im : Nat → Prop} {a b : L} {rs : Regs} {vs : List Value} (h : Fit β w Im ⟨[a, b], rs⟩ ⟨vs⟩) : ∃ v u, vs = [v, u] ∧ LRep β w Im v a ∧ LRep β w Im u b := by
  have hs := h.size
  match vs, hs with
  | [v, u], _ => exact ⟨v, u, rfl, h.tmps 0 a rfl, h.tmps 1 b rfl⟩
theorem fit3 {β : Env} {w : World} {Im : Nat → Prop} {a b c : L} {rs : Regs} {vs : List Value} (h : Fit β w Im ⟨[a, b, c], rs⟩ ⟨vs⟩) : ∃ v u x, vs = [v, u, x] ∧ LRep β w Im v a ∧ LRep β w Im u b ∧ LRep β w Im x c := by
  have hs := h.size
  match vs, hs with
  | [v, u, x], _ => exact ⟨v, u, x, rfl, h.tmps 0 a rfl, h.tmps 1 b rfl, h.tmps 2 c rfl⟩
theorem rep_str {β : Env} {w : World} {Im : Nat → Prop} {v : Value} {s : List UInt8} (h : LRep β w Im v (.p (.str s))) : v = .string ⟨⟨s⟩⟩ := by cases h; rfl
theorem rep_int {β : Env} {w : World} {Im : Nat → Prop} {v : Value} {k : IntKind} {n : Int} (h : LRep β w Im v (.p (.int k n))) : v = .int k n := by cases h; rfl
theorem rep_bool {β : Env} {w : World} {Im : Nat → Prop} {v : Value} {b : Bool} (h : LRep β w Im v (.p (.bool b))) : v = .bool b := by cases h; rfl
theorem rep_fn0 {β : Env} {w : World} {Im : Nat → Prop} {v : Value} {f : FuncId} (h : LRep β w Im v (.fn f [])) : v = .func (.func f) #[] #[] := by
  obtain ⟨vs, hv, hl, _⟩ := h
  cases vs with
  | nil => exact hv
  | cons a l => simp at hl

/-- A contract on scalars, as the library's contracts ask for a callback: with a world of its own. -/
theorem Det.calls_below {X : Cx} {f : FuncId} {args : List L} {l : L} (h : Det X f args [] l []) {w : World} {Im : Nat → Prop} (hg : X.G w Im) (hi : ∀ b, Im b → b < w.heap.size) {vs : List Value} (hl : vs.length = args.length)
    (ha : ∀ (i : Nat) (v : Value) (a : L), vs[i]? = some v → args[i]? = some a → LRep (fun _ => none) w Im v a) {v : Value} (hu : ∀ β w' Im' u, LRep β w' Im' u l → u = v) : Calls X.P f ⟨vs⟩ w fun e w' => e = .returned v ∧ Below w.heap.size w w' := by
  refine (h.2 (fun _ => none) Im w vs hg ?_).mono fun e w' ⟨u, m, rs', β', Im', he, ⟨hm, _⟩, hr, hc⟩ => ?_
  · exact { size := by simpa using hl, tmps := fun i a ha' => by
              obtain ⟨u, hu'⟩ := getElem?_of_length hl ha'
              have e : (⟨vs⟩ : Array Value).getD i undef = u := by simp [Array.getD_eq_getD_getElem?, hu']
              rw [e]; exact ha i u a hu' ha'
            regs := fun d r h => (by cases h), nodup := .nil, live := fun d r loc h => (by cases h), apart := fun d r d' r' l1 l2 h => (by cases h), im := hi }
  · subst hm
    have := hu _ _ _ _ hr
    subst this
    exact ⟨he, ⟨hc.os, hc.tape, hc.output, hc.size, fun k hk => hc.block k hk fun d r loc h => (by cases h)⟩⟩

end Go.LX
/- A region that draws its order, with little behind it: each order is gone through to the end. -/
namespace Go.LX
open Go Go.RowKit Go.Proofs
theorem draw_all {X : Cx} {ro : Option Nat} {id : Nat} {ops : Array Oper} {Q : Ex → St → Prop} {s : St} (T : Ord) (hm : X.P.follows .mixedOrders = true) (hT : ordOf ops ops.size (Array.replicate ops.size false) = T)
    (h : lOrd X (ops.toList.map (·.dst)) ops.toList (Q .normal) T s) : SWP X ro (.region id ops true) Q s := fun Γ a w hG hr => by
  have h' : RR Γ s a { w with drawn := w.drawn + 1 } := by
    obtain ⟨ms, hdef, β, Im, hx⟩ := hr
    exact ⟨ms, hdef, β, Im, hx.grow (Grow.drew hx.fit.im)⟩
  subst hT
  exact wpIn_region_any hm (wpAny_of_ord hG (K := Q .normal) (fun s a w h1 h2 => ⟨s, h1, h2⟩) _ _ s a _ h' h)
end Go.LX
/- A region that draws its order, whose last operations come after all others: these may write. -/
namespace Go.LX
open Go Go.RowKit Go.Proofs

section
variable {X : Cx} {ro : Option Nat} {md : Region.Mode} {ops : Array Oper}

/-- Operation i comes ahead of operation j. -/
def ancB (md : Region.Mode) (ops : Array Oper) : Nat → Nat → Nat → Bool
  | 0, _, _ => false
  | f + 1, i, j => match ops[j]? with
    | some o => o.after.toList.any (fun e => Region.binds md e && e.on == i) || o.after.toList.any (fun e => Region.binds md e && ancB md ops f i e.on)
    | none => false
/-- From place k on each operation comes behind all ahead of it. -/
def tailB (md : Region.Mode) (ops : Array Oper) (k : Nat) : Bool :=
  (List.range ops.size).all fun j => decide (j < k) || (List.range j).all fun i => ancB md ops ops.size i j

def Down (md : Region.Mode) (ops : Array Oper) (listed : Array Bool) : Prop :=
  ∀ i o, ops[i]? = some o → listed.getD i false = true → ∀ e ∈ o.after, Region.binds md e = true → listed.getD e.on false = true

theorem anc_listed {listed : Array Bool} (hd : Down md ops listed) : ∀ (f i j : Nat) (o : Oper), ops[j]? = some o → (∀ e ∈ o.after, Region.binds md e = true → listed.getD e.on false = true) → ancB md ops f i j = true → listed.getD i false = true
  | 0, _, _, _, _, _, h => by cases h
  | f + 1, i, j, o, ho, hall, h => by
    simp only [ancB, ho, Bool.or_eq_true, List.any_eq_true, Bool.and_eq_true, beq_iff_eq] at h
    rcases h with ⟨e, he, hb, rfl⟩ | ⟨e, he, hb, ha⟩
    · exact hall e (by simpa using he) hb
    · have hl := hall e (by simpa using he) hb
      cases hoe : ops[e.on]? with
      | none =>
        cases f with
        | zero => cases ha
        | succ f => simp [ancB, hoe] at ha
      | some oe => exact anc_listed hd f i e.on oe hoe (fun e' he' hb' => hd e.on oe hoe hl e' he' hb') ha

theorem getD_true_iff {listed : Array Bool} {j : Nat} : listed.getD j true = false ↔ j < listed.size ∧ listed.getD j false = false := by
  simp only [Array.getD_eq_getD_getElem?]
  by_cases h : j < listed.size
  · simp [h]
  · simp [h]

theorem Down.set {listed : Array Bool} (hd : Down md ops listed) {i : Nat} (hi : i ∈ Region.ready md ops listed) : Down md ops (listed.setIfInBounds i true) := by
  obtain ⟨h0, oi, hoi, hall⟩ := mem_ready.1 hi
  intro j o ho hl e he hb
  by_cases hji : j = i
  · subst hji
    rw [hoi] at ho; cases ho
    exact getD_set_true (hall e he hb)
  · have : listed.getD j false = true := by
      rw [← hl]
      simp [Array.getD_eq_getD_getElem?, Array.getElem?_setIfInBounds_ne (Ne.symm hji)]
    exact getD_set_true (hd j o ho this e he hb)

theorem tail_ready {k : Nat} (hT : tailB md ops k = true) {listed : Array Bool} (hd : Down md ops listed) {j : Nat} (hj : j ∈ Region.ready md ops listed) (hk : k ≤ j) : ∀ i, i < j → listed.getD i false = true := by
  obtain ⟨_, o, ho, hall⟩ := mem_ready.1 hj
  intro i hi
  simp only [tailB, List.all_eq_true, List.mem_range, Bool.or_eq_true, decide_eq_true_eq] at hT
  have h1 := hT j (Array.getElem?_eq_some_iff.1 ho).1
  rcases h1 with h1 | h1
  · omega
  · exact anc_listed hd _ i j o ho hall (h1 i hi)

/-- Whatever order is picked: ahead of place k what only reads, behind it anything. -/
def lAnyT (X : Cx) (md : Region.Mode) (ops : Array Oper) (k : Nat) (K : St → Prop) : Nat → Array Bool → St → Prop
  | 0, listed, s => Region.ready md ops listed = [] ∧ K s
  | fuel + 1, listed, s => (Region.ready md ops listed = [] → K s) ∧
    ∀ i ∈ Region.ready md ops listed, ∀ o, ops[i]? = some o →
      (i < k → YS X (ops.toList.map (·.dst)) s o fun l => lAnyT X md ops k K fuel (listed.setIfInBounds i true) (s.put o.dst l)) ∧
      (k ≤ i → ∃ C : St → Prop, lAt X (ops.toList.map (·.dst)) ops.toList i C s ∧ ∀ s', C s' → lAnyT X md ops k K fuel (listed.setIfInBounds i true) s')

theorem wpAny_of_lAnyT {Γ : Base} {k : Nat} {K : St → Prop} {Q : Exit → Act → World → Prop} {n : Nat} (hG : Γ.G = X.G) (hQ : ∀ s a w, K s → RR Γ s a w → Q .normal a w) : ∀ (fuel : Nat) (listed : Array Bool) (s : St) (a : Act) (w : World), RR Γ s a w →
    lAnyT X md ops k K fuel listed s → wpAnyIn (F0 ro) n X.P md ops Q fuel listed a w
  | 0, _, s, a, w, h, hl => ⟨hl.1, hQ s a w hl.2 h⟩
  | fuel + 1, _, s, a, w, h, hl => ⟨fun h0 => hQ s a w (hl.1 h0) h, fun i hi => by
      obtain ⟨_, o, ho, _⟩ := mem_ready.1 hi
      by_cases hk : i < k
      · exact YS_sound ho hG h ((hl.2 i hi o ho).1 hk) fun l a' w' h1 h2 => wpAny_of_lAnyT hG hQ fuel _ _ a' w' h2 h1
      · obtain ⟨C, hA, hC⟩ := (hl.2 i hi o ho).2 (by omega)
        exact wpOpIn_mono (fun a' w' ⟨s', hs, hr'⟩ => wpAny_of_lAnyT hG hQ fuel _ s' a' w' hr' (hC s' hs)) (lAt_sound hG h hA)⟩

theorem lAnyT_first {k : Nat} (hT : tailB md ops k = true) {K : St → Prop} {i : Nat} {oi : Oper} {v : L} (hi : ops[i]? = some oi) (hik : i < k) : ∀ (fuel : Nat) (listed : Array Bool) (s : St), Down md ops listed →
      (∀ j oj, ops[j]? = some oj → j ≠ i → listed.getD j true = false → (∀ e ∈ oj.after, Region.binds md e = true → e.on ≠ i) → oi.apart ops oj = true) →
      i ∈ Region.ready md ops listed → YS X (ops.toList.map (·.dst)) s oi (fun m => m = v) →
      lAnyT X md ops k K fuel (listed.setIfInBounds i true) (s.put oi.dst v) → lAnyT X md ops k K (fuel + 1) listed s := by
  intro fuel
  induction fuel with
  | zero =>
    intro listed s hd _ hr hy H
    have only : ∀ j ∈ Region.ready md ops listed, j = i := by
      intro j hj
      by_cases hji : j = i
      · exact hji
      · have := ready_mono hj hji
        rw [H.1] at this
        cases this
    refine ⟨fun h => (by rw [h] at hr; cases hr), fun j hj oj hoj => ?_⟩
    have := only j hj
    subst this
    rw [hi] at hoj; cases hoj
    exact ⟨fun _ => YS_mono (fun l hl => by rw [hl]; exact H) hy, fun h => by omega⟩
  | succ fuel ih =>
    intro listed s hd hfree hr hy H
    refine ⟨fun h => (by rw [h] at hr; cases hr), fun j hj oj hoj => ?_⟩
    by_cases hji : j = i
    · subst hji; rw [hi] at hoj; cases hoj
      exact ⟨fun _ => YS_mono (fun l hl => by rw [hl]; exact H) hy, fun h => by omega⟩
    · have hjk : j < k := by
        rcases Nat.lt_or_ge j k with h | h
        · exact h
        · exfalso
          have h1 := tail_ready hT hd hj h i (by omega)
          have h2 := (getD_true_iff.1 (mem_ready.1 hr).1).2
          rw [h1] at h2; cases h2
      refine ⟨fun _ => ?_, fun h => by omega⟩
      have h1 := (H.2 j (ready_mono hj hji) oj hoj).1 hjk
      obtain ⟨hjun, oj', hoj', hall⟩ := mem_ready.1 hj
      rw [hoj] at hoj'; cases hoj'
      have hnot : ∀ e ∈ oj.after, Region.binds md e = true → e.on ≠ i := fun e he hb heq => by
        have h1 := hall e he hb
        have h0 := (getD_true_iff.1 (mem_ready.1 hr).1).2
        rw [heq] at h1
        rw [h1] at h0; cases h0
      obtain ⟨a1, a2, a3⟩ := Oper.apart_spec (hfree j oj hoj hji hjun hnot)
      have hfree' : ∀ q ok, ops[q]? = some ok → q ≠ i → (listed.setIfInBounds j true).getD q true = false →
          (∀ e ∈ ok.after, Region.binds md e = true → e.on ≠ i) → oi.apart ops ok = true := fun q ok hk hki hun hno => by
        refine hfree q ok hk hki ?_ hno
        by_cases hjk : j = q
        · subst hjk; exact hjun
        · rw [getD_set_ne true hjk] at hun; exact hun
      refine YS_mono (fun l hl => ?_) (YS_unput a1 h1)
      refine ih (listed.setIfInBounds j true) (s.put oj.dst l) (hd.set hj) hfree' (ready_mono hr (Ne.symm hji)) (YS_put a3 hy) ?_
      rw [Array.setIfInBounds_comm _ _ hji]
      rw [← St.put_comm s v l a2]
      exact hl

/-- The operations in order: the first ones only read. -/
def lopsT (X : Cx) (ds : List (Option Tmp)) (all : List Oper) (K : St → Prop) : Nat → Nat → List Oper → St → Prop
  | _, _, [], s => K s
  | 0, i, _ :: rest, s => lAt X ds all i (lopsT X ds all K 0 (i + 1) rest) s
  | k + 1, i, o :: rest, s => YS X ds s o fun l => lopsT X ds all K k (i + 1) rest (s.put o.dst l)

/-- Just the first p are listed. -/
def Upto (p : Nat) (listed : Array Bool) : Prop := ∀ i, i < listed.size → listed.getD i false = decide (i < p)

theorem lAnyT_lex {k : Nat} (hT : tailB md ops k = true) {K : St → Prop} : ∀ (l : List Oper) (p q : Nat) (listed : Array Bool) (s : St), k - p = q → (∀ j, l[j]? = ops[p + j]?) → listed.size = ops.size → Down md ops listed → Upto p listed →
    Region.lexFrom md ops l.length p listed = true → lopsT X (ops.toList.map (·.dst)) ops.toList K q p l s → lAnyT X md ops k K l.length listed s
  | [], _, _, _, _, _, _, _, _, _, hB, h => ⟨by simpa [Region.lexFrom] using hB, by simpa [lopsT] using h⟩
  | o :: l, p, q, listed, s, hq, hl, hsz, hd, hup, hB, h => by
    have h0 : ops[p]? = some o := by simpa using (hl 0).symm
    have hp : p < ops.size := (Array.getElem?_eq_some_iff.1 h0).1
    simp only [List.length_cons, Region.lexFrom, Bool.and_eq_true] at hB
    obtain ⟨⟨hr, hf⟩, hB'⟩ := hB
    have hr' : p ∈ Region.ready md ops listed := by simpa using hr
    have hl' : ∀ j, l[j]? = ops[p + 1 + j]? := fun j => by have := hl (j + 1); simpa [Nat.add_assoc, Nat.add_comm 1 j] using this
    have hup' : Upto (p + 1) (listed.setIfInBounds p true) := by
      intro i hi
      simp only [Array.size_setIfInBounds] at hi
      by_cases hip : i = p
      · subst hip
        simp [Array.getD_eq_getD_getElem?, hi]
      · have := hup i hi
        rw [show (listed.setIfInBounds p true).getD i false = listed.getD i false by simp [Array.getD_eq_getD_getElem?, Array.getElem?_setIfInBounds_ne (Ne.symm hip)], this]
        congr 1
        exact propext ⟨fun h => by omega, fun h => by omega⟩
    cases q with
    | succ q =>
      simp only [lopsT] at h
      obtain ⟨v, hy, hK⟩ := YS_split (X := X) h
      exact lAnyT_first hT h0 (by omega) l.length listed s hd (Region.free_spec h0 hf) hr' hy
        (lAnyT_lex hT l (p + 1) q _ _ (by omega) hl' (by simpa using hsz) (hd.set hr') hup' hB' hK)
    | zero =>
      simp only [lopsT] at h
      have only : ∀ j ∈ Region.ready md ops listed, j = p := by
        intro j hj
        obtain ⟨hun, oj, hoj, _⟩ := mem_ready.1 hj
        obtain ⟨hjs, hjf⟩ := getD_true_iff.1 hun
        have h1 := hup j hjs
        rw [hjf] at h1
        have hjp : ¬ j < p := by simpa using h1.symm
        rcases Nat.lt_or_ge p j with hlt | hge
        · exfalso
          have h2 := tail_ready hT hd hj (by omega) p hlt
          have h3 := hup p (by omega)
          rw [h2] at h3; simp at h3
        · omega
      refine ⟨fun h' => (by rw [h'] at hr'; cases hr'), fun j hj oj hoj => ?_⟩
      have := only j hj
      subst this
      refine ⟨fun hlt => by omega, fun _ => ?_⟩
      rw [h0] at hoj; cases hoj
      exact ⟨_, h, fun s' hs' => lAnyT_lex hT l (j + 1) 0 _ s' (by omega) hl' (by simpa using hsz) (hd.set hr') hup' hB' hs'⟩

/-- A region that draws its order: the first k operations only read; those behind them come after all ahead of them. -/
theorem draw_tail {id : Nat} {Q : Ex → St → Prop} {s : St} (k : Nat) (hm : X.P.follows .mixedOrders = true) (hB : Region.lexB .any ops = true) (hT : tailB .any ops k = true)
    (h : lopsT X (ops.toList.map (·.dst)) ops.toList (Q .normal) k 0 ops.toList s) : SWP X ro (.region id ops true) Q s := fun Γ a w hG hr => by
  simp only [Region.lexB, Bool.and_eq_true] at hB
  have h' : RR Γ s a { w with drawn := w.drawn + 1 } := by
    obtain ⟨ms, hdef, β, Im, hx⟩ := hr
    exact ⟨ms, hdef, β, Im, hx.grow (Grow.drew hx.fit.im)⟩
  refine wpIn_region_any hm (wpAny_of_lAnyT (k := k) (K := Q .normal) hG (fun s _ _ h1 h2 => ⟨s, h1, h2⟩) _ _ s a _ h' ?_)
  have := lAnyT_lex (X := X) (K := Q .normal) (md := .any) hT ops.toList 0 k (Array.replicate ops.size false) s (by omega) (by simp) (by simp) ?_ ?_ (by simpa using hB.2) h
  · simpa using this
  · intro i o ho hl
    exfalso
    have hi := (Array.getElem?_eq_some_iff.1 ho).1
    simp [Array.getD_eq_getD_getElem?, hi] at hl
  · intro i hi
    simp only [Array.size_replicate] at hi
    simp [Array.getD_eq_getD_getElem?, hi]

end
end Go.LX
/- The steps of a region whose last operations come after all others. -/
namespace Go.LX
open Go Go.RowKit Go.Proofs
section
variable {X : Cx} {ro : Option Nat} {K : St → Prop} {t : List L} {r : Regs} {ds : List (Option Tmp)} {all rest : List Oper} {dst : Option Tmp} {op : Op} {ty : TypeId} {ps : String} {af : Array Edge} {i k : Nat}
def ktail (X : Cx) (ds : List (Option Tmp)) (all : List Oper) (K : St → Prop) (k i : Nat) (rest : List Oper) : St → Prop := lopsT X ds all K k i rest
theorem t_start {k i : Nat} {l : List Oper} : lopsT X ds all K k i l ⟨t, r⟩ = ktail X ds all K k i l ⟨t, r⟩ := (rfl)
theorem t_nil : ktail X ds all K k i [] ⟨t, r⟩ = K ⟨t, r⟩ := by cases k <;> rfl
theorem t_cons0 {o : Oper} : ktail X ds all K 0 i (o :: rest) ⟨t, r⟩ = lAt X ds all i (ktail X ds all K 0 (i + 1) rest) ⟨t, r⟩ := (rfl)
theorem t_consS {o : Oper} : ktail X ds all K (k + 1) i (o :: rest) ⟨t, r⟩ = YS X ds ⟨t, r⟩ o (kput o.dst (ktail X ds all K k (i + 1) rest) ⟨t, r⟩) := (rfl)
theorem y_none {C : L → Prop} : YS X ds ⟨t, r⟩ ⟨dst, op, ty, ps, af, none⟩ C = lqc X ⟨t, r⟩ ⟨dst, op, ty, ps, af, none⟩ C := (rfl)
def ysel (X : Cx) (dj : Option Tmp) (want : Bool) (s : St) (o : Oper) (C : L → Prop) : Prop :=
  match dj with
  | some dj => match s.tmps.getD dj .junk with
    | .p (.bool c) => if c = want then lqc X s o C else C (.tup [])
    | .tup [] => C (.tup [])
    | _ => False
  | none => False
def yval (X : Cx) (l : L) (want : Bool) (s : St) (o : Oper) (C : L → Prop) : Prop :=
  match l with
  | .p (.bool c) => if c = want then lqc X s o C else C (.tup [])
  | .tup [] => C (.tup [])
  | _ => False
theorem y_guard {C : L → Prop} {j : Nat} {want : Bool} : YS X ds ⟨t, r⟩ ⟨dst, op, ty, ps, af, some (j, want)⟩ C = ysel X (ds.getD j none) want ⟨t, r⟩ ⟨dst, op, ty, ps, af, some (j, want)⟩ C := (rfl)
theorem y_sel {C : L → Prop} {dj : Tmp} {want : Bool} {o : Oper} : ysel X (some dj) want ⟨t, r⟩ o C = yval X (t.getD dj .junk) want ⟨t, r⟩ o C := (rfl)
theorem y_val {C : L → Prop} {c want : Bool} {o : Oper} : yval X (.p (.bool c)) want ⟨t, r⟩ o C = if c = want then lqc X ⟨t, r⟩ o C else C (.tup []) := (rfl)
theorem y_tup {C : L → Prop} {want : Bool} {o : Oper} : yval X (.tup []) want ⟨t, r⟩ o C = C (.tup []) := (rfl)
end
theorem SWP.roundI {X : Cx} {ro : Option Nat} {c : Code} {Q : Ex → St → Prop} {s : St} {n : Nat} (hm : X.P.follows .mixedOrders = true) (h : lwp X ro c (kun (LX.rounds X ro c Q n) Q) s) : LX.rounds X ro c Q (n + 1) s := lwp_sound hm _ _ _ h
end Go.LX
/- From a contract on a law's function to what its row asks. -/
namespace Go.LX
open Go Go.Proofs Go.RowKit Go.ChangeShapes Go.WideShapes Go.ChangeAt

section
variable {H : Type} {enc : TypeId × Value → H} {P : Program}

/-- What was read is read again, where nothing that was met has turned. -/
theorem trodAll_again (hl : laidOutB P = true) {W W' : World} {sp : Nat → Bool} : ∀ (ts : List TypeId) (vs : List Value) (ds : List (DataW H)) (ps : List MemPlace), (∀ t ∈ ts, P.readableRec t = true ∧ t < P.types.size) →
    DataW.TrodAll enc P W 0 (fun _ => true) true ts vs ds ps → (∀ p ∈ ps, W.sameAt W' p) → (∀ p ∈ ps, sp p.block = true) → DataW.TrodAll enc P W' 0 sp true ts vs ds ps
  | [], vs, ds, ps, _, h, _, _ => by
    obtain ⟨rfl, rfl, rfl⟩ := trodAll_nil h
    exact trodAll_mk0
  | t :: ts, vs, ds, ps, hr, h, hs, hb => by
    obtain ⟨v, vs', d, ds', p, q, rfl, rfl, rfl, h0, h1⟩ := trodAll_cons h
    have ht := hr t List.mem_cons_self
    exact trodAll_cons_mk (WideElems.Trod_stays hl ht.1 ht.2 h0 (fun x hx => hs x (List.mem_append_left _ hx)) fun x hx => hb x (List.mem_append_left _ hx))
      (trodAll_again hl ts vs' ds' q (fun u hu => hr u (List.mem_cons_of_mem _ hu)) h1 (fun x hx => hs x (List.mem_append_right _ hx)) fun x hx => hb x (List.mem_append_right _ hx))

theorem law_post (hl : laidOutB P = true) {f : Func} {s : ChangeSpec} {b : TypeId} {W W' : World} {args : Array Value} {ds gs : List (DataW H)} {before : List MemPlace} (hv : s.vars = [])
    (hrd : ∀ t ∈ f.params.toList, P.readableRec t = true ∧ t < P.types.size) (hrt : f.resultTypes = #[b]) (hb : P.underlying b = some .bool)
    (hW : DataW.Whole enc P f.params.toList s.vars false W args.toList ds gs before) (hfn : s.fn H ds = { results := [.lit (.bool true)], args := ds }) (hbel : Below W.heap.size W W') :
    s.post enc P f false true false false W args (.bool true) W' := by
  have hW' := hW
  have hlt : ∀ p ∈ before, p.block < W.heap.size := fun p hp => hW'.lt p hp
  obtain ⟨p, q, hA, hV, rfl, hfz, hnd⟩ := hW
  rw [hv] at hV
  obtain ⟨rfl, rfl⟩ := trodVars_none hV
  simp only [List.append_nil] at hlt
  refine ⟨ds, [], p ++ [], [], p, [], hW', ?_, ?_, ?_, hbel.frame _, fun h => by cases h⟩
  · rw [List.append_nil, hfn, hrt]
    exact trodAll_mk1 (shut_bool hb _)
  · rw [List.append_nil, hfn]
    exact trodAll_again hl _ _ _ _ hrd hA (fun x hx => hbel.same (hlt x hx)) fun x hx => by simpa using hlt x hx
  · rw [List.append_nil, hfn, hv]
    rfl
end
end Go.LX
