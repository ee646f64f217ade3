/- Loops with one state behind them; small lemmas for the steps. -/
import Derived.Test.YteiencnfglbnkaaDoorLxU
set_option linter.unusedSimpArgs false
set_option linter.unusedVariables false
set_option linter.unusedSectionVars false
set_option linter.unnecessarySimpa false
namespace Go.LX
open Go Go.RowKit Go.Proofs

theorem iteI {c : Prop} [Decidable c] {A B : Prop} (h1 : c → A) (h2 : ¬ c → B) : if c then A else B := by
  by_cases h : c
  · rw [if_pos h]; exact h1 h
  · rw [if_neg h]; exact h2 h
theorem nil_len {l : List UInt8} : (l = []) = (l.length = 0) := by simp
theorem toNat_pred {n : Nat} : ((n : Int) - 1).toNat = n - 1 := by omega
theorem toNat_sub2 {a b : Nat} : ((a : Int) - b).toNat = a - b := by omega
theorem toNat_add1 {n : Nat} : ((n : Int) + 1).toNat = n + 1 := by omega
theorem toNat_add2 {a b : Nat} : ((a : Int) + b).toNat = a + b := by omega
theorem ex_get {α : Type} {l : List α} {i : Nat} {Q : α → Prop} (h : i < l.length) (hq : ∀ a, l[i]? = some a → Q a) : ∃ a, l[i]? = some a ∧ Q a := ⟨l[i], List.getElem?_eq_getElem h, hq _ (List.getElem?_eq_getElem h)⟩

def kl2 {ι κ : Type} (I : ι → St) (Pre : ι → Prop) (μ : ι → Nat) (x : ι) (id : Nat) (J : κ → St) (PE : κ → Prop) (Q : Ex → St → Prop) : Ex → St → Prop
  | .normal, s => ∃ y, Pre y ∧ μ y < μ x ∧ s.Le (I y)
  | .exit id', s => if id' = id then ∃ y, PE y ∧ s.Le (J y) else Q (.exit id') s
  | .ret, s => Q .ret s

theorem SWP.of_ex {X : Cx} {ro : Option Nat} {c : Code} {Q Q' : Ex → St → Prop} {s : St} (h : SWP X ro c Q s) (hq : ∀ Γ e a w, Γ.G = X.G → QQ Γ Q e a w → QQ Γ Q' e a w) : SWP X ro c Q' s := fun Γ a w hG hr =>
  wpIn_mono (h Γ a w hG hr) fun e a w hq' => hq Γ e a w hG hq'

theorem SWP.loop2 {X : Cx} {ro : Option Nat} {ι κ : Type} (I : ι → St) (Pre : ι → Prop) (μ : ι → Nat) (x0 : ι) (id : Nat) (J : κ → St) (PE : κ → Prop) {c : Code} {Q : Ex → St → Prop} {s : St} (hs : s.Le (I x0)) (h0 : Pre x0)
    (round : ∀ x, Pre x → SWP X ro c (kl2 I Pre μ x id J PE Q) (I x)) (after : ∀ y, PE y → Q (.exit id) (J y)) : SWP X ro (.loop c) Q s := by
  have h1 : SWP X ro (.loop c) (fun e s => match e with | .exit id' => if id' = id then ∃ y, PE y ∧ s.Le (J y) else Q (.exit id') s | .ret => Q .ret s | .normal => False) s := by
    refine SWP.loop I Pre μ x0 hs h0 fun x hx => (round x hx).mono fun e s he => ?_
    cases e with
    | normal => exact he
    | exit id' => exact he
    | ret => exact he
  refine h1.of_ex fun Γ e a w hG hq => ?_
  cases e with
  | normal => obtain ⟨s, h, _⟩ := hq; exact h.elim
  | exit id' =>
    obtain ⟨s, h, hr⟩ := hq
    simp only at h
    split at h
    · rename_i he
      subst he
      obtain ⟨y, hy, hle⟩ := h
      exact ⟨J y, after y hy, hle Γ a w hr⟩
    · exact ⟨s, h, hr⟩
  | ret => exact hq
  | goto l => exact hq.elim
  | panic c => exact hq.elim
  | outgrown => exact hq.elim

/-! ### A loop of a few rounds, round by round -/
def kun (A : St → Prop) (Q : Ex → St → Prop) : Ex → St → Prop
  | .normal, s => A s
  | .exit id, s => Q (.exit id) s
  | .ret, s => Q .ret s
def rounds (X : Cx) (ro : Option Nat) (c : Code) (Q : Ex → St → Prop) : Nat → St → Prop
  | 0, _ => False
  | n + 1, s => SWP X ro c (kun (rounds X ro c Q n) Q) s
theorem kun_n {A : St → Prop} {Q : Ex → St → Prop} {t : List L} {r : Regs} : kun A Q .normal ⟨t, r⟩ = A ⟨t, r⟩ := (rfl)
theorem kun_e {A : St → Prop} {Q : Ex → St → Prop} {t : List L} {r : Regs} {id : Nat} : kun A Q (.exit id) ⟨t, r⟩ = Q (.exit id) ⟨t, r⟩ := (rfl)
theorem kun_r {A : St → Prop} {Q : Ex → St → Prop} {t : List L} {r : Regs} : kun A Q .ret ⟨t, r⟩ = Q .ret ⟨t, r⟩ := (rfl)
theorem SWP.rounds {X : Cx} {ro : Option Nat} {c : Code} {Q : Ex → St → Prop} {s : St} (n : Nat) (h : rounds X ro c Q n s) : SWP X ro (.loop c) Q s := by
  intro Γ a w hG hr
  have key : ∀ n s, LX.rounds X ro c Q n s → ∀ a w, RR Γ s a w → ∀ (b : Frame) (k : List Item) (cs : List Frame), b.roundOf = (F0 ro).round → (F0 ro).fn b.fn → (F0 ro).room (cs.length + 1 + 1) →
      ∃ e a' w', QQ Γ Q e a' w' ∧ ArrivesIn (Machine.fenced X.P (F0 ro)) X.P (lone (b.atR a (.code c :: .inLoop c :: k)) cs w) b k cs e a' w' := by
    intro n
    induction n with
    | zero => intro s h; exact h.elim
    | succ n ih =>
      intro s hs a w hr b k cs hro hb hroom
      obtain ⟨e, a₁, w₁, hq, harr⟩ := hs Γ a w hG hr b (.inLoop c :: k) cs hro hb hroom
      cases e with
      | normal =>
        obtain ⟨s', h1, h2⟩ := hq
        obtain ⟨e₂, a₂, w₂, hq₂, harr₂⟩ := ih s' h1 a₁ w₁ h2 b k cs hro hb hroom
        exact ⟨e₂, a₂, w₂, hq₂, .of_steps (StepsIn.trans harr (.one (fenced_calm hb hroom rfl) stepR_inLoop)) harr₂⟩
      | exit id =>
        obtain ⟨s', h1, h2⟩ := hq
        exact ⟨.exit id, a₁, w₁, ⟨s', h1, h2⟩, .pass (x := .inLoop c) rfl (fun _ _ => .inl (by simp)) harr⟩
      | ret =>
        obtain ⟨s', h1, h2⟩ := hq
        exact ⟨.ret, a₁, w₁, ⟨s', h1, h2⟩, .pass (x := .inLoop c) rfl (fun _ _ => .inl (by simp)) harr⟩
      | goto l => exact hq.elim
      | panic ch => exact hq.elim
      | outgrown => exact hq.elim
  intro b k cs hro hb hroom
  obtain ⟨e, a', w', hq, harr⟩ := key n s h a w hr b k cs hro hb hroom
  exact ⟨e, a', w', hq, .of_steps (.one (fenced_calm hb hroom rfl) stepR_loop) harr⟩

end Go.LX
