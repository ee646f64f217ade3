/- The law QuoteCode holds of the given program, for every input: no condition of its own. What the row lists of package-level variables is tied to the program's text by the given tie. -/
import Derived.Test.YteiencnfglbnkaaDoorLxRow
import Derived.Test.YteiencnfglbnkaaDoorLxQCode
import Derived.Test.YteiencnfglbnkaaDoorCards
import Derived.Test.YteiencnfglbnkaaDoorTie
set_option linter.unusedSimpArgs false
set_option linter.unusedVariables false
set_option linter.unusedSectionVars false
set_option linter.unnecessarySimpa false
set_option linter.unusedSimpArgs false
set_option maxRecDepth 100000
namespace Go.LX
open Go Go.Proofs Go.RowKit Go.ChangeShapes Go.WideShapes Go.ChangeAt Go.Lib
open Go.Proofs.YteiencnfglbnkaaDoor

/-! ### QuoteCode -/
theorem quoteCode_reads (os : Os) {H : Type} (enc : TypeId × Value → H) : ∃ places, DataW.whole enc Tryd.prog ((laidWorld os).forCall (fun _ _ => 0) ⟨#[], #[.int .u32 0, .bool false], []⟩).memory Tryd.f13.params.toList Rows.quoteCodeSpec.vars false #[Value.int .u32 0, .bool false].toList 8 = some ([.lit (.int .u32 0), .lit (.bool false)], [], places) :=
  ⟨[], by kernel_rfl⟩
theorem quoteCode_lifted (os : Os) (started : os.Started) (H : Type) (enc : TypeId × Value → H) (F : Stop.Interp) :
    ReturnsInHanded {} Tryd.checked os 13 .any ((OpenSpec.ofChange Rows.quoteCodeSpec).preRow enc Tryd.prog Tryd.f13 Rows.quoteCodeRow.domain false Rows.quoteCodeRow.laid) (((OpenSpec.ofChange Rows.quoteCodeSpec).at F).post enc Tryd.prog Tryd.f13 false true false false) := by
  obtain ⟨places, hx⟩ := quoteCode_reads os enc
  refine returnsInHanded_of_row (C := Tryd.checked) (s := OpenSpec.ofChange Rows.quoteCodeSpec) gOwn started (by kernel_rfl) Tryd.func13
    (witness_row_atRef (enc := enc) (C := Tryd.checked) false (laidWorld os) #[.int .u32 0, .bool false] rfl (by kernel_rfl) (by kernel_rfl) (by kernel_rfl)
      (OpenSpec.preRow_of_cond 8 hx (by kernel_rfl) (fun k hk => by cases hk) (by kernel_rfl) (laid_met os _))) ?_
  intro W base args ds gs before hval0 hW _ _ hz hL _ _
  have hval : ∀ (j : Nat) t v, Tryd.f13.params[j]? = some t → args[j]? = some v → Value.okWide Tryd.prog W .any base t v := hval0
  have hW' := hW
  obtain ⟨p, q, hA0, hV0, rfl, _, _⟩ := hW
  try clear hL0
  have hA : DataW.TrodAll enc Tryd.prog W 0 (fun _ => true) true Tryd.f13.params.toList args.toList ds p := hA0
  rw [Tryd.params13] at hA hval
  obtain ⟨v0, vs0, d0, ds0, p0, q0, e0, rfl, rfl, h0, r0⟩ := trodAll_cons hA
  obtain ⟨v1, vs1, d1, ds1, p1, q1, e1, rfl, rfl, h1, r1⟩ := trodAll_cons r0
  obtain ⟨rfl, rfl, rfl⟩ := trodAll_nil r1
  have hargs : args = #[v0, v1] := by
    have : args.toList = [v0, v1] := by rw [e0, e1]
    rw [← Array.toList_inj]; exact this
  subst hargs
  obtain ⟨k0, rfl, b0⟩ := argU32 (hval 0 _ v0 rfl rfl)
  obtain ⟨x1, rfl, b1⟩ := argBool (hval 1 _ v1 rfl rfl)
  have hcall := (d_QuoteCode k0 x1 b0).calls_below (w := W) (Im := Im0) (quoteG hL) (Im0_lt hL) (vs := [.int .u32 k0, .bool x1]) rfl (fun i v a hv ha => by
      match i, hv, ha with
      | 0, hv, ha => simp at hv ha; subst hv; subst ha; exact PRep.int _ _
      | 1, hv, ha => simp at hv ha; subst hv; subst ha; exact PRep.bool _
      | i + 2, hv, ha => simp at hv) (fun β w' Im' u hu => rep_bool hu)
  exact hcall.mono fun e W' ⟨he, hb⟩ => ⟨_, he, law_post gLaidOut (s := Rows.quoteCodeSpec) rfl (by
    rw [Tryd.params13]
    intro t ht
    simp only [List.mem_cons, List.not_mem_nil, or_false] at ht
    rcases ht with rfl | rfl
    all_goals exact ⟨by kernel_rfl, of_decide_eq_true (by kernel_rfl)⟩) (by kernel_rfl) Tryd.underlying4 hW' rfl hb⟩
theorem quoteCode_said : Rows.QuoteCodeSaid :=
  OpenClaim.holds_of_cond 13 Tryd.f13 rfl rfl rfl rfl rfl rfl rfl ⟨rfl, rfl, rfl, rfl, rfl⟩ rfl rfl rfl rfl rfl (by kernel_rfl) Tryd.func13 (by kernel_rfl)
    (of_decide_eq_true (by kernel_rfl)) (by unfold Func.isWrapper; first | (rw [if_pos (by decide +kernel)]; kernel_rfl) | (rw [if_neg (by decide +kernel)]; exact ⟨rfl, rfl⟩))
    (fun os started H enc _ F => by rw [OpenClaim.pre_eq_preRow]; exact quoteCode_lifted os started H enc F)
theorem quoteCode_plain (f : FuncId) (fn : Func) (hf : Tryd.pinned.checked.prog.funcNamed "loupe/loupelaw03.QuoteCode" = some f) (hfn : Tryd.pinned.checked.prog.funcs[f]? = some fn) :
    true = Tryd.pinned.checked.prog.looks [] ∧ ∀ (j : Nat) t, fn.params[j]? = some t → Tryd.pinned.checked.prog.wantsStandIn t = false := by
  obtain rfl : f = 13 := Option.some.inj ((show Tryd.prog.funcNamed "loupe/loupelaw03.QuoteCode" = some 13 by kernel_rfl).symm.trans hf) |>.symm
  obtain rfl : fn = Tryd.f13 := (Option.some.inj (Tryd.func13.symm.trans hfn)).symm
  refine ⟨by kernel_rfl, fun j t ht => ?_⟩
  rw [Tryd.params13] at ht
  have hm := Array.mem_of_getElem? ht
  simp only [List.mem_toArray, List.mem_cons, List.not_mem_nil, or_false] at hm
  rcases hm with rfl | rfl
  all_goals exact (show Tryd.prog.wantsStandIn _ = false by kernel_rfl)
end Go.LX
namespace Go.Proofs.YteiencnfglbnkaaDoor
/-- THE CARD: QuoteCode. -/
theorem quoteCode_holds : Rows.QuoteCodeCardSaid :=
  Claim7.holds_tied_plain_at .later [] _ _ _ _ Go.LX.quoteCode_said (fun _ h => by cases h) (by kernel_rfl) (fun _ h => by cases h) quoteCode_row_tie rfl ⟨rfl, rfl⟩ (by kernel_rfl) rfl Go.LX.quoteCode_plain (by kernel_rfl)
end Go.Proofs.YteiencnfglbnkaaDoor
