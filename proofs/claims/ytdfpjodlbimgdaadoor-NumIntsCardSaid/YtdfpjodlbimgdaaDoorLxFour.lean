/- Contracts of the library's, lifted. -/
import Derived.Test.YtdfpjodlbimgdaaDoorLxV
import Derived.Below
import Derived.Lib.LaidTab
import Derived.OpenShut
import Derived.WideKeyArgs
import Derived.ProofKit
import Derived.WalkKit
import Derived.ChangeSame
set_option linter.unusedSimpArgs false
set_option linter.unusedVariables false
set_option linter.unusedSectionVars false
set_option linter.unnecessarySimpa false
namespace Go.LX
open Go Go.RowKit Go.Proofs

theorem CallStep.of_below {β : Env} {w w' : World} {Im : Nat → Prop} {args : List L} {rs : Regs} {tmps : Array Value} (hf : Fit β w Im ⟨args, rs⟩ tmps) (h : Below w.heap.size w w') : CallStep β w Im rs β w' Im rs :=
  { os := h.os, tape := h.tape, output := h.output, size := h.size, block := fun k hk _ => h.block k hk, imin := fun _ h => h, imnew := fun _ h => .inl h, env := fun _ _ => rfl, keys := rfl
    fit := by
      have g : Grow w Im w' Im := ⟨h.os, h.tape, h.output, h.size, h.block, fun _ h => h, fun _ h => .inl h, fun b hb => Nat.lt_of_lt_of_le (hf.im b hb) h.size⟩
      have := hf.grow g
      exact { size := rfl, tmps := fun i l h => by simp at h, regs := this.regs, nodup := this.nodup, live := this.live, apart := this.apart, im := this.im } }

theorem Det.of_below {X : Cx} {f : FuncId} {args : List L} {rs : Regs} {l : L} {v : Value} (hent : Enters X.P f) (hl : l.retOK = true) (hv : ∀ β w Im, LRep β w Im v l)
    (h : ∀ (β : Env) (Im : Nat → Prop) (w : World) (vs : List Value), X.G w Im → Fit β w Im ⟨args, rs⟩ ⟨vs⟩ → Calls X.P f ⟨vs⟩ w fun e w' => e = .returned v ∧ Below w.heap.size w w') : Det X f args rs l rs :=
  ⟨hent, fun β Im w vs hg hf => (h β Im w vs hg hf).mono fun _ w' ⟨he, hb⟩ => ⟨v, l, rs, β, Im, he, ⟨rfl, rfl⟩, hv _ _ _, hl, CallStep.of_below hf hb⟩⟩

theorem fit1 {β : Env} {w : World} {Im : Nat → Prop} {a : L} {rs : Regs} {vs : List Value} (h : Fit β w Im ⟨[a], rs⟩ ⟨vs⟩) : ∃ v, vs = [v] ∧ LRep β w Im v a := by
  have hs := h.size
  match vs, hs with
  | [v], _ => exact ⟨v, rfl, h.tmps 0 a rfl⟩
theorem fit2 {β : Env} {w : World} {Im : Nat → Prop} {a b : L} {rs : Regs} {vs : List Value} (h : Fit β w Im ⟨[a, b], rs⟩ ⟨vs⟩) : ∃ v u, vs = [v, u] ∧ LRep β w Im v a ∧ LRep β w Im u b := by
  have hs := h.size
  match vs, hs with
  | [v, u], _ => exact ⟨v, u, rfl, h.tmps 0 a rfl, h.tmps 1 b rfl⟩
theorem fit3 {β : Env} {w : World} {Im : Nat → Prop} {a b c : L} {rs : Regs} {vs : List Value} (h : Fit β w Im ⟨[a, b, c], rs⟩ ⟨vs⟩) : ∃ v u x, vs = [v, u, x] ∧ LRep β w Im v a ∧ LRep β w Im u b ∧ LRep β w Im x c := by
  have hs := h.size
  match vs, hs with
  | [v, u, x], _ => exact ⟨v, u, x, rfl, h.tmps 0 a rfl, h.tmps 1 b rfl, h.tmps 2 c rfl⟩
theorem rep_str {β : Env} {w : World} {Im : Nat → Prop} {v : Value} {s : List UInt8} (h : LRep β w Im v (.p (.str s))) : v = .string ⟨⟨s⟩⟩ := by cases h; rfl
theorem rep_int {β : Env} {w : World} {Im : Nat → Prop} {v : Value} {k : IntKind} {n : Int} (h : LRep β w Im v (.p (.int k n))) : v = .int k n := by cases h; rfl
theorem rep_bool {β : Env} {w : World} {Im : Nat → Prop} {v : Value} {b : Bool} (h : LRep β w Im v (.p (.bool b))) : v = .bool b := by cases h; rfl
theorem rep_fn0 {β : Env} {w : World} {Im : Nat → Prop} {v : Value} {f : FuncId} (h : LRep β w Im v (.fn f [])) : v = .func (.func f) #[] #[] := by
  obtain ⟨vs, hv, hl, _⟩ := h
  cases vs with
  | nil => exact hv
  | cons a l => simp at hl

/-- A contract on scalars, as the library's contracts ask for a callback: with a world of its own. -/
theorem Det.calls_below {X : Cx} {f : FuncId} {args : List L} {l : L} (h : Det X f args [] l []) {w : World} {Im : Nat → Prop} (hg : X.G w Im) (hi : ∀ b, Im b → b < w.heap.size) {vs : List Value} (hl : vs.length = args.length)
    (ha : ∀ (i : Nat) (v : Value) (a : L), vs[i]? = some v → args[i]? = some a → LRep (fun _ => none) w Im v a) {v : Value} (hu : ∀ β w' Im' u, LRep β w' Im' u l → u = v) : Calls X.P f ⟨vs⟩ w fun e w' => e = .returned v ∧ Below w.heap.size w w' := by
  refine (h.2 (fun _ => none) Im w vs hg ?_).mono fun e w' ⟨u, m, rs', β', Im', he, ⟨hm, _⟩, hr, _, hc⟩ => ?_
  · exact { size := by simpa using hl, tmps := fun i a ha' => by
              obtain ⟨u, hu'⟩ := getElem?_of_length hl ha'
              have e : (⟨vs⟩ : Array Value).getD i undef = u := by simp [Array.getD_eq_getD_getElem?, hu']
              rw [e]; exact ha i u a hu' ha'
            regs := fun d r h => (by cases h), nodup := .nil, live := fun d r loc h => (by cases h), apart := fun d r d' r' l1 l2 h => (by cases h), im := hi }
  · subst hm
    have := hu _ _ _ _ hr
    subst this
    exact ⟨he, ⟨hc.os, hc.tape, hc.output, hc.size, fun k hk => hc.block k hk fun d r loc h => (by cases h)⟩⟩

end Go.LX
/- A region that draws its order, with little behind it: each order is gone through to the end. -/
namespace Go.LX
open Go Go.RowKit Go.Proofs
theorem draw_all {X : Cx} {ro : Option Nat} {id : Nat} {ops : Array Oper} {Q : Ex → St → Prop} {s : St} (T : Ord) (hm : X.P.follows .mixedOrders = true) (hT : ordOf ops ops.size (Array.replicate ops.size false) = T)
    (h : lOrd X (ops.toList.map (·.dst)) ops.toList (Q .normal) T s) : SWP X ro (.region id ops true) Q s := fun Γ a w hG hr => by
  have h' : RR Γ s a { w with drawn := w.drawn + 1 } := by
    obtain ⟨hdef, β, Im, hx⟩ := hr
    exact ⟨hdef, β, Im, hx.grow (Grow.drew hx.fit.im)⟩
  subst hT
  exact wpIn_region_any hm (wpAny_of_ord hG (K := Q .normal) (fun s a w h1 h2 => ⟨s, h1, h2⟩) _ _ s a _ h' h)
end Go.LX
/- From a contract on a law's function to what its row asks. -/
namespace Go.LX
open Go Go.Proofs Go.RowKit Go.ChangeShapes Go.WideShapes Go.ChangeAt

section
variable {H : Type} {enc : TypeId × Value → H} {P : Program}

/-- What was read is read again, where nothing that was met has turned. -/
theorem trodAll_again (hl : laidOutB P = true) {W W' : World} {sp : Nat → Bool} : ∀ (ts : List TypeId) (vs : List Value) (ds : List (DataW H)) (ps : List MemPlace), (∀ t ∈ ts, P.readableRec t = true ∧ t < P.types.size) →
    DataW.TrodAll enc P W 0 (fun _ => true) true ts vs ds ps → (∀ p ∈ ps, W.sameAt W' p) → (∀ p ∈ ps, sp p.block = true) → DataW.TrodAll enc P W' 0 sp true ts vs ds ps
  | [], vs, ds, ps, _, h, _, _ => by
    obtain ⟨rfl, rfl, rfl⟩ := trodAll_nil h
    exact trodAll_mk0
  | t :: ts, vs, ds, ps, hr, h, hs, hb => by
    obtain ⟨v, vs', d, ds', p, q, rfl, rfl, rfl, h0, h1⟩ := trodAll_cons h
    have ht := hr t List.mem_cons_self
    exact trodAll_cons_mk (WideElems.Trod_stays hl ht.1 ht.2 h0 (fun x hx => hs x (List.mem_append_left _ hx)) fun x hx => hb x (List.mem_append_left _ hx))
      (trodAll_again hl ts vs' ds' q (fun u hu => hr u (List.mem_cons_of_mem _ hu)) h1 (fun x hx => hs x (List.mem_append_right _ hx)) fun x hx => hb x (List.mem_append_right _ hx))

theorem law_post (hl : laidOutB P = true) {f : Func} {s : ChangeSpec} {b : TypeId} {W W' : World} {args : Array Value} {ds gs : List (DataW H)} {before : List MemPlace} (hv : s.vars = [])
    (hrd : ∀ t ∈ f.params.toList, P.readableRec t = true ∧ t < P.types.size) (hrt : f.resultTypes = #[b]) (hb : P.underlying b = some .bool)
    (hW : DataW.Whole enc P f.params.toList s.vars false W args.toList ds gs before) (hfn : s.fn H ds = { results := [.lit (.bool true)], args := ds }) (hbel : Below W.heap.size W W') :
    s.post enc P f false true false false W args (.bool true) W' := by
  have hW' := hW
  have hlt : ∀ p ∈ before, p.block < W.heap.size := fun p hp => hW'.lt p hp
  obtain ⟨p, q, hA, hV, rfl, hfz, hnd⟩ := hW
  rw [hv] at hV
  obtain ⟨rfl, rfl⟩ := trodVars_none hV
  simp only [List.append_nil] at hlt
  refine ⟨ds, [], p ++ [], [], p, [], hW', ?_, ?_, ?_, hbel.frame _, fun h => by cases h⟩
  · rw [List.append_nil, hfn, hrt]
    exact trodAll_mk1 (shut_bool hb _)
  · rw [List.append_nil, hfn]
    exact trodAll_again hl _ _ _ _ hrd hA (fun x hx => hbel.same (hlt x hx)) fun x hx => by simpa using hlt x hx
  · rw [List.append_nil, hfn, hv]
    rfl
end
end Go.LX
