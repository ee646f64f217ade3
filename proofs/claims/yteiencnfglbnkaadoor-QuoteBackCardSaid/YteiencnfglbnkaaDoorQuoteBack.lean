/- The law QuoteBack holds of the given program, for every input: no condition of its own. What the row lists of package-level variables is tied to the program's text by the given tie. -/
import Derived.Test.YteiencnfglbnkaaDoorLxRow
import Derived.Test.YteiencnfglbnkaaDoorLxQBack
import Derived.Test.YteiencnfglbnkaaDoorCards
import Derived.Test.YteiencnfglbnkaaDoorTie
set_option linter.unusedSimpArgs false
set_option linter.unusedVariables false
set_option linter.unusedSectionVars false
set_option linter.unnecessarySimpa false
set_option linter.unusedSimpArgs false
set_option maxRecDepth 100000
namespace Go.LX
open Go Go.Proofs Go.RowKit Go.ChangeShapes Go.WideShapes Go.ChangeAt Go.Lib
open Go.Proofs.YteiencnfglbnkaaDoor

/-! ### QuoteBack -/
theorem quoteBack_reads (os : Os) {H : Type} (enc : TypeId × Value → H) : ∃ places, DataW.whole enc Tryd.prog ((laidWorld os).forCall (fun _ _ => 0) ⟨#[], #[.string ⟨#[]⟩, .string ⟨#[]⟩, .int .u8 0], []⟩).memory Tryd.f10.params.toList Rows.quoteBackSpec.vars false #[Value.string ⟨#[]⟩, .string ⟨#[]⟩, .int .u8 0].toList 8 = some ([.lit (.string []), .lit (.string []), .lit (.int .u8 0)], [], places) :=
  ⟨[], by kernel_rfl⟩
theorem quoteBack_lifted (os : Os) (started : os.Started) (H : Type) (enc : TypeId × Value → H) (F : Stop.Interp) :
    ReturnsInHanded {} Tryd.checked os 10 .any ((OpenSpec.ofChange Rows.quoteBackSpec).preRow enc Tryd.prog Tryd.f10 Rows.quoteBackRow.domain false Rows.quoteBackRow.laid) (((OpenSpec.ofChange Rows.quoteBackSpec).at F).post enc Tryd.prog Tryd.f10 false true false false) := by
  obtain ⟨places, hx⟩ := quoteBack_reads os enc
  refine returnsInHanded_of_row (C := Tryd.checked) (s := OpenSpec.ofChange Rows.quoteBackSpec) gOwn started (by kernel_rfl) Tryd.func10
    (witness_row_atRef (enc := enc) (C := Tryd.checked) false (laidWorld os) #[.string ⟨#[]⟩, .string ⟨#[]⟩, .int .u8 0] rfl (by kernel_rfl) (by kernel_rfl) (by kernel_rfl)
      (OpenSpec.preRow_of_cond 8 hx (by kernel_rfl) (fun k hk => by cases hk) (by kernel_rfl) (laid_met os _))) ?_
  intro W base args ds gs before hval0 hW _ _ hz hL _ _
  have hval : ∀ (j : Nat) t v, Tryd.f10.params[j]? = some t → args[j]? = some v → Value.okWide Tryd.prog W .any base t v := hval0
  have hW' := hW
  obtain ⟨p, q, hA0, hV0, rfl, _, _⟩ := hW
  try clear hL0
  have hA : DataW.TrodAll enc Tryd.prog W 0 (fun _ => true) true Tryd.f10.params.toList args.toList ds p := hA0
  rw [Tryd.params10] at hA hval
  obtain ⟨v0, vs0, d0, ds0, p0, q0, e0, rfl, rfl, h0, r0⟩ := trodAll_cons hA
  obtain ⟨v1, vs1, d1, ds1, p1, q1, e1, rfl, rfl, h1, r1⟩ := trodAll_cons r0
  obtain ⟨v2, vs2, d2, ds2, p2, q2, e2, rfl, rfl, h2, r2⟩ := trodAll_cons r1
  obtain ⟨rfl, rfl, rfl⟩ := trodAll_nil r2
  have hargs : args = #[v0, v1, v2] := by
    have : args.toList = [v0, v1, v2] := by rw [e0, e1, e2]
    rw [← Array.toList_inj]; exact this
  subst hargs
  obtain ⟨s0, rfl, b0⟩ := argStr (hval 0 _ v0 rfl rfl)
  obtain ⟨s1, rfl, b1⟩ := argStr (hval 1 _ v1 rfl rfl)
  obtain ⟨k2, rfl, b2⟩ := argU8 (hval 2 _ v2 rfl rfl)
  have hcall := (d_QuoteBack s0 s1 k2 b0 b1 b2).calls_below (w := W) (Im := Im0) (quoteG hL) (Im0_lt hL) (vs := [.string ⟨⟨s0⟩⟩, .string ⟨⟨s1⟩⟩, .int .u8 k2]) rfl (fun i v a hv ha => by
      match i, hv, ha with
      | 0, hv, ha => simp at hv ha; subst hv; subst ha; exact PRep.str _
      | 1, hv, ha => simp at hv ha; subst hv; subst ha; exact PRep.str _
      | 2, hv, ha => simp at hv ha; subst hv; subst ha; exact PRep.int _ _
      | i + 3, hv, ha => simp at hv) (fun β w' Im' u hu => rep_bool hu)
  exact hcall.mono fun e W' ⟨he, hb⟩ => ⟨_, he, law_post gLaidOut (s := Rows.quoteBackSpec) rfl (by
    rw [Tryd.params10]
    intro t ht
    simp only [List.mem_cons, List.not_mem_nil, or_false] at ht
    rcases ht with rfl | rfl | rfl
    all_goals exact ⟨by kernel_rfl, of_decide_eq_true (by kernel_rfl)⟩) (by kernel_rfl) Tryd.underlying4 hW' rfl hb⟩
theorem quoteBack_said : Rows.QuoteBackSaid :=
  OpenClaim.holds_of_cond 10 Tryd.f10 rfl rfl rfl rfl rfl rfl rfl ⟨rfl, rfl, rfl, rfl, rfl⟩ rfl rfl rfl rfl rfl (by kernel_rfl) Tryd.func10 (by kernel_rfl)
    (of_decide_eq_true (by kernel_rfl)) (by unfold Func.isWrapper; first | (rw [if_pos (by decide +kernel)]; kernel_rfl) | (rw [if_neg (by decide +kernel)]; exact ⟨rfl, rfl⟩))
    (fun os started H enc _ F => by rw [OpenClaim.pre_eq_preRow]; exact quoteBack_lifted os started H enc F)
theorem quoteBack_plain (f : FuncId) (fn : Func) (hf : Tryd.pinned.checked.prog.funcNamed "loupe/loupelaw03.QuoteBack" = some f) (hfn : Tryd.pinned.checked.prog.funcs[f]? = some fn) :
    true = Tryd.pinned.checked.prog.looks [] ∧ ∀ (j : Nat) t, fn.params[j]? = some t → Tryd.pinned.checked.prog.wantsStandIn t = false := by
  obtain rfl : f = 10 := Option.some.inj ((show Tryd.prog.funcNamed "loupe/loupelaw03.QuoteBack" = some 10 by kernel_rfl).symm.trans hf) |>.symm
  obtain rfl : fn = Tryd.f10 := (Option.some.inj (Tryd.func10.symm.trans hfn)).symm
  refine ⟨by kernel_rfl, fun j t ht => ?_⟩
  rw [Tryd.params10] at ht
  have hm := Array.mem_of_getElem? ht
  simp only [List.mem_toArray, List.mem_cons, List.not_mem_nil, or_false] at hm
  rcases hm with rfl | rfl | rfl
  all_goals exact (show Tryd.prog.wantsStandIn _ = false by kernel_rfl)
end Go.LX
namespace Go.Proofs.YteiencnfglbnkaaDoor
/-- THE CARD: QuoteBack. -/
theorem quoteBack_holds : Rows.QuoteBackCardSaid :=
  Claim7.holds_tied_plain_at .later [] _ _ _ _ Go.LX.quoteBack_said (fun _ h => by cases h) (by kernel_rfl) (fun _ h => by cases h) quoteBack_row_tie rfl ⟨rfl, rfl⟩ (by kernel_rfl) rfl Go.LX.quoteBack_plain (by kernel_rfl)
end Go.Proofs.YteiencnfglbnkaaDoor
