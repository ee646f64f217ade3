/- Numbers: from the laws' contracts to the rows. -/
import Derived.Test.YtdfpjodlbimgdaaDoorLxMake
import Derived.Test.YtdfpjodlbimgdaaDoorLxFour
import Derived.Test.YtdfpjodlbimgdaaDoorCards
import Derived.Test.YtdfpjodlbimgdaaDoorTie
import Derived.Deep.DeepHandedRow
import Derived.Deep.DeepWitnessRowRef
import Derived.Lib.LaidIn
import Derived.Lib.LaidU8T
import Derived.Lib.LaidTab
set_option linter.unusedSimpArgs false
set_option linter.unusedVariables false
set_option linter.unusedSectionVars false
set_option linter.unnecessarySimpa false
set_option linter.unusedSimpArgs false
set_option maxRecDepth 100000
namespace Go.LX
open Go Go.Proofs Go.RowKit Go.ChangeShapes Go.WideShapes Go.ChangeAt Go.Lib
open Go.Proofs.YtdfpjodlbimgdaaDoor

theorem laidMet_tail {P : Program} {w : World} {x : String × DataW Unit} {l : List (String × DataW Unit)} (h : laidMet P (x :: l) w) : laidMet P l w := by
  obtain ⟨ps, h1, h2, h3⟩ := h
  obtain ⟨n, d⟩ := x
  obtain ⟨g, t, cs, fuel, p, q, _, _, _, _, h5, rfl⟩ := h1
  exact ⟨q, h5, (List.nodup_append.1 h2).2.1, fun b off hb => h3 b off (List.mem_append_right _ hb)⟩

theorem gOwn : ownKnob Tryd.prog.godebug = none := by kernel_rfl
theorem gLaidOut : laidOutB Tryd.prog = true := by kernel_rfl
theorem gFirst : Go.Pinned.utf8First = firstData := by kernel_rfl
theorem u8T : U8Types Tryd.prog Tryd.lays237_ren := ⟨by kernel_rfl, by kernel_rfl, by kernel_rfl, by kernel_rfl⟩
theorem u8X : U8Extra Tryd.prog Tryd.lays237_ren := ⟨by kernel_rfl, by kernel_rfl, by kernel_rfl, by kernel_rfl, by kernel_rfl, by kernel_rfl, by kernel_rfl⟩
def Im0 (b : Nat) : Prop := b = 3 ∨ b = 4 ∨ b = 5
/-- What the row's list gives. -/
theorem numG {W : World} (h : laidMetH Tryd.prog Rows.numMakesRow.laid W) : NumG W Im0 := by
  have h0 : laidMet Tryd.prog Rows.numMakesRow.laid W := h
  have h1 := laidMet_tail (laidMet_tail h0)
  refine ⟨?_, ?_, .inl rfl, .inr (.inl rfl), .inr (.inr rfl)⟩
  · have f1 : VarReads Tryd.prog W "unicode/utf8.first" firstData := by
      rw [← gFirst]
      exact laidMet.reads h0 (by simp [Rows.numMakesRow, Rows.laid_unicode_utf8_first])
    have f2 : VarReads Tryd.prog W "unicode/utf8.acceptRanges" acceptData := laidMet.reads h0 (by
      rw [show (acceptData : DataW Unit) = Rows.laid_unicode_utf8_acceptRanges by kernel_rfl]
      simp [Rows.numMakesRow])
    exact utf8Tabs_of_readsT u8T u8X f1 f2
  · exact tabIs_of_head (g := 5) (t := 125) (e := 93) (n := 20) (by kernel_rfl) (by kernel_rfl) (by kernel_rfl) (by kernel_rfl) (by kernel_rfl) (by kernel_rfl) (k := .u64) (zs := pow10Tab) h1
theorem Im0_lt {W : World} (h : laidMetH Tryd.prog Rows.numMakesRow.laid W) : ∀ b, Im0 b → b < W.heap.size := by
  have h0 : laidMet Tryd.prog Rows.numMakesRow.laid W := h
  have key : ∀ {n : String} {d : DataW Unit} {g : Nat}, VarReads Tryd.prog W n d → Tryd.prog.globalNamed n = some g → g < W.heap.size := by
    rintro n d g ⟨g', t, cs, fuel, p, h1, _, h3, _⟩ hg
    obtain rfl := Option.some.inj (hg.symm.trans h1)
    unfold World.var? at h3
    rw [hg] at h3
    simp only [Option.bind_some] at h3
    rcases Nat.lt_or_ge g W.heap.size with h | h
    · exact h
    · rw [Array.getElem?_eq_none h] at h3; cases h3
  rintro b (rfl | rfl | rfl)
  · exact key (laidMet.reads h0 (n := "unicode/utf8.first") (d := Rows.laid_unicode_utf8_first) (by simp [Rows.numMakesRow])) (by kernel_rfl)
  · exact key (laidMet.reads h0 (n := "unicode/utf8.acceptRanges") (d := Rows.laid_unicode_utf8_acceptRanges) (by simp [Rows.numMakesRow])) (by kernel_rfl)
  · exact key (laidMet.reads h0 (n := "internal/strconv.uint64pow10") (d := Rows.laid_internal_strconv_uint64pow10) (by simp [Rows.numMakesRow])) (by kernel_rfl)

/-! ### A start that fits -/
def tabOf (d : DataW Unit) : List Value := match d with
  | .agg l => l.flatMap fun x => match x with
    | .lit (.int k n) => [Value.int k n]
    | .agg l' => l'.flatMap fun y => match y with
      | .lit (.int k n) => [Value.int k n]
      | _ => []
    | _ => []
  | _ => []
noncomputable def laidWorld (os : Os) : World :=
  let N := (World.settled Tryd.prog os).heap.size
  let w0 := World.holding Tryd.prog os ⟨#[
    .cells #[.string ⟨#[118, 97, 108, 117, 101, 32, 111, 117, 116, 32, 111, 102, 32, 114, 97, 110, 103, 101]⟩] 123, .cells #[.string ⟨#[105, 110, 118, 97, 108, 105, 100, 32, 115, 121, 110, 116, 97, 120]⟩] 123], #[], []⟩
  let put (h : Array Obj) (g : Nat) (cs : Array Value) : Array Obj := h.modify g fun
    | .cells _ t frozen => .cells cs t frozen
    | o => o
  let h1 := put w0.heap 6 (tabOf Rows.laid_math_bits_deBruijn32tab).toArray
  let h2 := put h1 7 (tabOf Rows.laid_math_bits_deBruijn64tab).toArray
  let h3 := put h2 5 (tabOf Rows.laid_internal_strconv_uint64pow10).toArray
  let h4 := put h3 4 (tabOf Rows.laid_unicode_utf8_acceptRanges).toArray
  let h5 := put h4 2 #[.iface 121 (.pointer (some ⟨N, 0, none⟩))]
  let h6 := put h5 1 #[.iface 121 (.pointer (some ⟨N + 1, 0, none⟩))]
  let h7 := put h6 3 (tabOf Rows.laid_unicode_utf8_first).toArray
  { w0 with heap := h7 }
theorem laid_met (os : Os) (args : Array Value) : laidMet Tryd.prog Rows.numMakesRow.laid ((laidWorld os).forCall (fun _ _ => 0) ⟨#[], args, []⟩).memory :=
  laidMet_of_run' 8 (by kernel_rfl) (by kernel_rfl)

/-! ### Arguments -/
def Node.vals (n : Node) : List Value := [.int .i64 n.kind, .int .i64 n.many, .string ⟨⟨n.name⟩⟩, .string ⟨⟨n.s⟩⟩, .bool n.neg, .int .i64 n.e]
theorem arg_int {P : Program} {W : World} {r : Reach} {b : Nat} {t : TypeId} {k : IntKind} {v : Value} (ht : P.underlying t = some (.int k)) (h : Cell.okWide P W r b t v) : ∃ n, v = .int k n ∧ k.has n := by
  simp only [Cell.okWide, Cell.ok, ht] at h
  cases v <;> simp_all
theorem arg_str {P : Program} {W : World} {r : Reach} {b : Nat} {t : TypeId} {v : Value} (ht : P.underlying t = some .string) (h : Cell.okWide P W r b t v) : ∃ s : List UInt8, v = .string ⟨⟨s⟩⟩ ∧ s.length ≤ 9223372036854775807 := by
  simp only [Cell.okWide, Cell.ok, ht] at h
  cases v with
  | string s =>
    refine ⟨s.data.toList, by rw [str_eta], ?_⟩
    have h' : (s.size : Int) ≤ IntKind.i64.max := h
    have e : IntKind.i64.max = 9223372036854775807 := rfl
    have e2 : s.data.toList.length = s.size := size_list s
    omega
  | _ => simp at h
theorem arg_bool {P : Program} {W : World} {r : Reach} {b : Nat} {t : TypeId} {v : Value} (ht : P.underlying t = some .bool) (h : Cell.okWide P W r b t v) : ∃ x, v = .bool x := by
  simp only [Cell.okWide, Cell.ok, ht] at h
  cases v <;> simp_all
theorem argStr {W : World} {b : Nat} {v : Value} (h : Value.okWide Tryd.prog W .any b 9 v) : ∃ s : List UInt8, v = .string ⟨⟨s⟩⟩ ∧ s.length ≤ 9223372036854775807 := by
  simp only [Value.okWide, Tryd.underlying9] at h
  exact arg_str Tryd.underlying9 h
theorem argInt {W : World} {b : Nat} {v : Value} (h : Value.okWide Tryd.prog W .any b 3 v) : ∃ n : Int, v = .int .i64 n ∧ IntKind.i64.has n := by
  simp only [Value.okWide, Tryd.underlying3] at h
  exact arg_int Tryd.underlying3 h
theorem nodeTypes : Tryd.prog.cellTypes Tryd.prog.depth 23 = some [3, 3, 9, 9, 4, 3] := by kernel_rfl
theorem nodeCells : Tryd.prog.cellsOf 23 = 6 := by kernel_rfl
theorem argNode {W : World} {b : Nat} {v : Value} (h : Value.okWide Tryd.prog W .any b 23 v) : ∃ n : Node, v = .agg ⟨n.vals⟩ ∧ n.s.length ≤ 9223372036854775807 := by
  simp only [Value.okWide, Tryd.underlying23] at h
  obtain ⟨cs, rfl, hs, ts, hts, _, hc⟩ := h
  rw [nodeCells] at hs
  rw [nodeTypes] at hts
  cases hts
  obtain ⟨l⟩ := cs
  match l, hs, hc with
  | [a0, a1, a2, a3, a4, a5], _, hc =>
    obtain ⟨u0, g0, k0⟩ := hc 0 a0 rfl
    obtain ⟨u1, g1, k1⟩ := hc 1 a1 rfl
    obtain ⟨u2, g2, k2⟩ := hc 2 a2 rfl
    obtain ⟨u3, g3, k3⟩ := hc 3 a3 rfl
    obtain ⟨u4, g4, k4⟩ := hc 4 a4 rfl
    obtain ⟨u5, g5, k5⟩ := hc 5 a5 rfl
    cases g0; cases g1; cases g2; cases g3; cases g4; cases g5
    obtain ⟨x0, rfl, _⟩ := arg_int Tryd.underlying3 k0
    obtain ⟨x1, rfl, _⟩ := arg_int Tryd.underlying3 k1
    obtain ⟨x2, rfl, _⟩ := arg_str Tryd.underlying9 k2
    obtain ⟨x3, rfl, hx3⟩ := arg_str Tryd.underlying9 k3
    obtain ⟨x4, rfl⟩ := arg_bool Tryd.underlying4 k4
    obtain ⟨x5, rfl, _⟩ := arg_int Tryd.underlying3 k5
    exact ⟨⟨x0, x1, x2, x3, x4, x5⟩, rfl, hx3⟩
theorem argNode_rep {β : Env} {w : World} {Im : Nat → Prop} (n : Node) : LRep β w Im (.agg ⟨n.vals⟩) (.p (.agg n.pv)) := by
  refine PRep.agg _ _ rfl (by simp [Node.pv, PV.scalar]) fun i v p hv hp => ?_
  match i, hv, hp with
  | 0, hv, hp => cases hv; cases hp; exact PRep.int _ _
  | 1, hv, hp => cases hv; cases hp; exact PRep.int _ _
  | 2, hv, hp => cases hv; cases hp; exact PRep.str _
  | 3, hv, hp => cases hv; cases hp; exact PRep.str _
  | 4, hv, hp => cases hv; cases hp; exact PRep.bool _
  | 5, hv, hp => cases hv; cases hp; exact PRep.int _ _
  | i + 6, hv, hp => simp [Node.vals] at hv
theorem argI32 {W : World} {b : Nat} {v : Value} (h : Value.okWide Tryd.prog W .any b 21 v) : ∃ n : Int, v = .int .i32 n ∧ (-2147483648 ≤ n ∧ n ≤ 2147483647) := by
  simp only [Value.okWide, Tryd.underlying21] at h
  obtain ⟨n, rfl, hn⟩ := arg_int Tryd.underlying21 h
  refine ⟨n, rfl, ?_⟩
  have e1 : IntKind.i32.min = -2147483648 := by decide
  have e2 : IntKind.i32.max = 2147483647 := by decide
  unfold IntKind.has at hn
  omega
theorem b2Types : Tryd.prog.cellTypes Tryd.prog.depth 38 = some [5, 5] := by kernel_rfl
theorem b2Cells : Tryd.prog.cellsOf 38 = 2 := by kernel_rfl
theorem u8_nat {n : Int} (h : IntKind.u8.has n) : ∃ k : Nat, n = k ∧ k < 256 := by
  have e1 : IntKind.u8.min = 0 := by decide
  have e2 : IntKind.u8.max = 255 := by decide
  unfold IntKind.has at h
  exact ⟨n.toNat, by omega, by omega⟩
theorem argB2 {W : World} {b : Nat} {v : Value} (h : Value.okWide Tryd.prog W .any b 38 v) : ∃ x y : Nat, v = .agg ⟨[.int .u8 x, .int .u8 y]⟩ ∧ (x < 256 ∧ y < 256) := by
  simp only [Value.okWide, Tryd.underlying38] at h
  obtain ⟨cs, rfl, hs, ts, hts, _, hc⟩ := h
  rw [b2Cells] at hs
  rw [b2Types] at hts
  cases hts
  obtain ⟨l⟩ := cs
  match l, hs, hc with
  | [a0, a1], _, hc =>
    obtain ⟨u0, g0, k0⟩ := hc 0 a0 rfl
    obtain ⟨u1, g1, k1⟩ := hc 1 a1 rfl
    cases g0; cases g1
    obtain ⟨x0, rfl, h0⟩ := arg_int Tryd.underlying5 k0
    obtain ⟨x1, rfl, h1⟩ := arg_int Tryd.underlying5 k1
    obtain ⟨n0, rfl, l0⟩ := u8_nat h0
    obtain ⟨n1, rfl, l1⟩ := u8_nat h1
    exact ⟨n0, n1, rfl, l0, l1⟩
theorem argB2_rep {β : Env} {w : World} {Im : Nat → Prop} (x y : Nat) : LRep β w Im (.agg ⟨[.int .u8 x, .int .u8 y]⟩) (.p (.agg [.int .u8 x, .int .u8 y])) := by
  refine PRep.agg _ _ rfl (by simp [PV.scalar]) fun i v p hv hp => ?_
  match i, hv, hp with
  | 0, hv, hp => cases hv; cases hp; exact PRep.int _ _
  | 1, hv, hp => cases hv; cases hp; exact PRep.int _ _
  | i + 2, hv, hp => simp at hv

end Go.LX
