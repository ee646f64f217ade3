/- The program of the seat, for the laws on strings that are written; its tables. -/
import Derived.Test.YteiencnfglbnkaaDoorLxFacts
import Derived.Test.YteiencnfglbnkaaDoorLxFour
import Derived.Lib.Builder
import Derived.Test.YteiencnfglbnkaaDoorLxShelf
import Derived.Shelf.Spec.TrailingZeros
set_option linter.unusedSimpArgs false
set_option linter.unusedVariables false
set_option linter.unusedSectionVars false
set_option linter.unnecessarySimpa false
set_option linter.unusedSimpArgs false
set_option maxRecDepth 100000
namespace Go.LX
open Go Go.RowKit Go.Proofs

/-- A variable that holds an error. -/
def ErrAt (g : Nat) (w : World) : Prop := ∃ te pe, w.cell? ⟨g, 0, none⟩ = some (.iface te pe)
structure QuoteG (w : World) (Im : Nat → Prop) : Prop where
  tabs : Lib.Utf8Tabs 0 1 w
  syn : ErrAt 3 w
  rng : ErrAt 4 w
  tz : TabAt 6 Lib.deBruijn64tab w
  i1 : Im 0
  i2 : Im 1
  i3 : Im 3
  i4 : Im 4
  i5 : Im 6
theorem QuoteG.mono {w w' : World} {Im Im' : Nat → Prop} (hk : Keeps w Im w' Im') (h : QuoteG w Im) : QuoteG w' Im' where
  tabs := by
    refine ⟨fun c hc => (hk.cell (a := ⟨_, c, none⟩) h.i1).trans (h.tabs.1 c hc), fun i hi => ⟨(hk.cell (a := ⟨_, _, none⟩) h.i2).trans (h.tabs.2 i hi).1, (hk.cell (a := ⟨_, _, none⟩) h.i2).trans (h.tabs.2 i hi).2⟩⟩
  syn := by obtain ⟨te, pe, e⟩ := h.syn; exact ⟨te, pe, (hk.cell (a := ⟨_, 0, none⟩) h.i3).trans e⟩
  rng := by obtain ⟨te, pe, e⟩ := h.rng; exact ⟨te, pe, (hk.cell (a := ⟨_, 0, none⟩) h.i4).trans e⟩
  tz := fun j hj => (hk.cell (a := ⟨_, j, none⟩) h.i5).trans (h.tz j hj)
  i1 := hk.im _ h.i1
  i2 := hk.im _ h.i2
  i3 := hk.im _ h.i3
  i4 := hk.im _ h.i4
  i5 := hk.im _ h.i5
def kindOf (f : Nat) : Nat := if f = 70 then 1 else if f = 84 then 1 else if f = 83 then 2 else 0
noncomputable def cx : Cx := ⟨Tryd.prog, QuoteG, QuoteG.mono, kindOf⟩
theorem cx_P : cx.P = Tryd.prog := (rfl)
theorem cx_kind {f : Nat} : cx.kind f = if f = 70 then 1 else if f = 84 then 1 else if f = 83 then 2 else 0 := (rfl)
theorem cx_G {w : World} {Im : Nat → Prop} (h : cx.G w Im) : QuoteG w Im := h
end Go.LX
