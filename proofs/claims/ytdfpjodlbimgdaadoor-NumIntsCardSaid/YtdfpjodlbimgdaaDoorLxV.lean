/- Loops with one state behind them; small lemmas for the steps. -/
import Derived.Test.YtdfpjodlbimgdaaDoorLxU
set_option linter.unusedSimpArgs false
set_option linter.unusedVariables false
set_option linter.unusedSectionVars false
set_option linter.unnecessarySimpa false
namespace Go.LX
open Go Go.RowKit Go.Proofs

theorem iteI {c : Prop} [Decidable c] {A B : Prop} (h1 : c → A) (h2 : ¬ c → B) : if c then A else B := by
  by_cases h : c
  · rw [if_pos h]; exact h1 h
  · rw [if_neg h]; exact h2 h
theorem nil_len {l : List UInt8} : (l = []) = (l.length = 0) := by simp
theorem toNat_pred {n : Nat} : ((n : Int) - 1).toNat = n - 1 := by omega
theorem toNat_sub2 {a b : Nat} : ((a : Int) - b).toNat = a - b := by omega
theorem toNat_add1 {n : Nat} : ((n : Int) + 1).toNat = n + 1 := by omega
theorem toNat_add2 {a b : Nat} : ((a : Int) + b).toNat = a + b := by omega
theorem ex_get {α : Type} {l : List α} {i : Nat} {Q : α → Prop} (h : i < l.length) (hq : ∀ a, l[i]? = some a → Q a) : ∃ a, l[i]? = some a ∧ Q a := ⟨l[i], List.getElem?_eq_getElem h, hq _ (List.getElem?_eq_getElem h)⟩

def kl2 {ι κ : Type} (I : ι → St) (Pre : ι → Prop) (μ : ι → Nat) (x : ι) (id : Nat) (J : κ → St) (PE : κ → Prop) (Q : Ex → St → Prop) : Ex → St → Prop
  | .normal, s => ∃ y, Pre y ∧ μ y < μ x ∧ s.Le (I y)
  | .exit id', s => if id' = id then ∃ y, PE y ∧ s.Le (J y) else Q (.exit id') s
  | .ret, s => Q .ret s

theorem SWP.of_ex {X : Cx} {ro : Option Nat} {c : Code} {Q Q' : Ex → St → Prop} {s : St} (h : SWP X ro c Q s) (hq : ∀ Γ e a w, Γ.G = X.G → QQ Γ Q e a w → QQ Γ Q' e a w) : SWP X ro c Q' s := fun Γ a w hG hr =>
  wpIn_mono (h Γ a w hG hr) fun e a w hq' => hq Γ e a w hG hq'

theorem SWP.loop2 {X : Cx} {ro : Option Nat} {ι κ : Type} (I : ι → St) (Pre : ι → Prop) (μ : ι → Nat) (x0 : ι) (id : Nat) (J : κ → St) (PE : κ → Prop) {c : Code} {Q : Ex → St → Prop} {s : St} (hs : s.Le (I x0)) (h0 : Pre x0)
    (round : ∀ x, Pre x → SWP X ro c (kl2 I Pre μ x id J PE Q) (I x)) (after : ∀ y, PE y → Q (.exit id) (J y)) : SWP X ro (.loop c) Q s := by
  have h1 : SWP X ro (.loop c) (fun e s => match e with | .exit id' => if id' = id then ∃ y, PE y ∧ s.Le (J y) else Q (.exit id') s | .ret => Q .ret s | .normal => False) s := by
    refine SWP.loop I Pre μ x0 hs h0 fun x hx => (round x hx).mono fun e s he => ?_
    cases e with
    | normal => exact he
    | exit id' => exact he
    | ret => exact he
  refine h1.of_ex fun Γ e a w hG hq => ?_
  cases e with
  | normal => obtain ⟨s, h, _⟩ := hq; exact h.elim
  | exit id' =>
    obtain ⟨s, h, hr⟩ := hq
    simp only at h
    split at h
    · rename_i he
      subst he
      obtain ⟨y, hy, hle⟩ := h
      exact ⟨J y, after y hy, hle Γ a w hr⟩
    · exact ⟨s, h, hr⟩
  | ret => exact hq
  | goto l => exact hq.elim
  | panic c => exact hq.elim
  | outgrown => exact hq.elim

end Go.LX
