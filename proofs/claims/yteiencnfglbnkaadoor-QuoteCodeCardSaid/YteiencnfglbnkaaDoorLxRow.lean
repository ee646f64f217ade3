/- Strings that are written: from the laws' contracts to the rows. -/
import Derived.Test.YteiencnfglbnkaaDoorLxQBase
import Derived.Test.YteiencnfglbnkaaDoorLxFour
import Derived.Test.YteiencnfglbnkaaDoorCards
import Derived.Test.YteiencnfglbnkaaDoorTie
import Derived.Deep.DeepHandedRow
import Derived.Deep.DeepWitnessRowRef
import Derived.Lib.LaidIn
import Derived.Lib.LaidU8T
import Derived.Lib.LaidTab
import Derived.SizedLaws
set_option linter.unusedSimpArgs false
set_option linter.unusedVariables false
set_option linter.unusedSectionVars false
set_option linter.unnecessarySimpa false
set_option linter.unusedSimpArgs false
set_option maxRecDepth 100000
namespace Go.LX
open Go Go.Proofs Go.RowKit Go.ChangeShapes Go.WideShapes Go.ChangeAt Go.Lib
open Go.Proofs.YteiencnfglbnkaaDoor

theorem laidMet_tail {P : Program} {w : World} {x : String × DataW Unit} {l : List (String × DataW Unit)} (h : laidMet P (x :: l) w) : laidMet P l w := by
  obtain ⟨ps, h1, h2, h3⟩ := h
  obtain ⟨n, d⟩ := x
  obtain ⟨g, t, cs, fuel, p, q, _, _, _, _, h5, rfl⟩ := h1
  exact ⟨q, h5, (List.nodup_append.1 h2).2.1, fun b off hb => h3 b off (List.mem_append_right _ hb)⟩
theorem str_eta (x : ByteArray) : (⟨⟨x.data.toList⟩⟩ : ByteArray) = x := by rcases x with ⟨⟨l⟩⟩; rfl
theorem size_list (s : ByteArray) : s.data.toList.length = s.size := by simp
theorem trod_iface {P : Program} {w : World} {sp : Nat → Bool} {t : TypeId} {cs : List Value} {nm : String} {d : DataW Unit} {p : List MemPlace} {u : TypeDesc} (ht : P.underlying t = some u) (hu : ∃ m, u = .interface m) :
    ∀ {fuel : Nat}, DataW.trod (fun _ => ()) P w 0 sp false fuel t cs = some (.iface nm d, p) → ∃ te pe, cs = [.iface te pe]
  | 0, h => by simp [DataW.trod] at h
  | fuel + 1, h => by
    obtain ⟨m, rfl⟩ := hu
    rcases cs with _ | ⟨c, _ | ⟨c2, cs⟩⟩
    · simp [DataW.trod, ht] at h
    · cases c <;> first | exact ⟨_, _, rfl⟩ | (simp [DataW.trod, ht] at h; done)
    · simp [DataW.trod, ht] at h
theorem errAt_of {w : World} {n : String} {nm : String} {d : DataW Unit} {g : Nat} {t : TypeId} {u : TypeDesc} (h : VarReads Tryd.prog w n (.iface nm d)) (hg : Tryd.prog.globalNamed n = some g) (ht : (Tryd.prog.globals[g]?).map (·.type) = some t) (hu : Tryd.prog.underlying t = some u) (hi : ∃ m, u = .interface m) : ErrAt g w := by
  obtain ⟨g', t', cs, fuel, p, h1, h2, h3, h4⟩ := h
  obtain rfl := Option.some.inj (hg.symm.trans h1)
  obtain rfl := Option.some.inj (ht.symm.trans h2)
  obtain ⟨te, pe, e⟩ := trod_iface hu hi h4
  refine ⟨te, pe, ?_⟩
  rw [World.var?_cell hg h3 0, ← Array.getElem?_toList, e]
  rfl

theorem gOwn : ownKnob Tryd.prog.godebug = none := by kernel_rfl
theorem gLaidOut : laidOutB Tryd.prog = true := by kernel_rfl
theorem gFirst : Go.Pinned.utf8First = firstData := by kernel_rfl
theorem u8T : U8Types Tryd.prog Tryd.lays197_ren := ⟨by kernel_rfl, by kernel_rfl, by kernel_rfl, by kernel_rfl⟩
theorem u8X : U8Extra Tryd.prog Tryd.lays197_ren := ⟨by kernel_rfl, by kernel_rfl, by kernel_rfl, by kernel_rfl, by kernel_rfl, by kernel_rfl, by kernel_rfl⟩
def Im0 (b : Nat) : Prop := b = 0 ∨ b = 1 ∨ b = 3 ∨ b = 4 ∨ b = 6
def tz64 : List Int := Lib.deBruijn64tab.map fun n : Nat => (n : Int)
/-- What the row's list gives. -/
theorem quoteG {W : World} (h : laidMetH Tryd.prog Rows.quoteTellsRow.laid W) : QuoteG W Im0 := by
  have h0 : laidMet Tryd.prog Rows.quoteTellsRow.laid W := h
  have h1 := laidMet_tail h0
  refine ⟨?_, ?_, ?_, ?_, .inl rfl, .inr (.inl rfl), .inr (.inr (.inl rfl)), .inr (.inr (.inr (.inl rfl))), .inr (.inr (.inr (.inr rfl)))⟩
  · have f1 : VarReads Tryd.prog W "unicode/utf8.first" firstData := by
      rw [← gFirst]
      exact laidMet.reads h0 (by simp [Rows.quoteTellsRow, Rows.laid_unicode_utf8_first])
    have f2 : VarReads Tryd.prog W "unicode/utf8.acceptRanges" acceptData := laidMet.reads h0 (by
      rw [show (acceptData : DataW Unit) = Rows.laid_unicode_utf8_acceptRanges by kernel_rfl]
      simp [Rows.quoteTellsRow])
    exact utf8Tabs_of_readsT u8T u8X f1 f2
  · exact errAt_of (laidMet.reads h0 (n := "strconv.ErrSyntax") (d := Rows.laid_strconv_ErrSyntax) (by simp [Rows.quoteTellsRow])) (by kernel_rfl) (by kernel_rfl) Tryd.underlying73 ⟨_, rfl⟩
  · exact errAt_of (laidMet.reads h0 (n := "strconv.ErrRange") (d := Rows.laid_strconv_ErrRange) (by simp [Rows.quoteTellsRow])) (by kernel_rfl) (by kernel_rfl) Tryd.underlying73 ⟨_, rfl⟩
  · have ht : TabIs Tryd.prog W "math/bits.deBruijn64tab" .u8 tz64 := tabIs_of_head (g := 6) (t := 156) (e := 5) (n := 64) (by kernel_rfl) (by kernel_rfl) (by kernel_rfl) (by kernel_rfl) (by kernel_rfl) (by kernel_rfl) (k := .u8) (zs := tz64) h1
    intro j hj
    have := ht.cell (g := 6) (by kernel_rfl) j (by simpa [tz64] using hj)
    rw [this]
    simp [tz64, List.getD_eq_getElem?_getD, hj]
theorem Im0_lt {W : World} (h : laidMetH Tryd.prog Rows.quoteTellsRow.laid W) : ∀ b, Im0 b → b < W.heap.size := by
  have h0 : laidMet Tryd.prog Rows.quoteTellsRow.laid W := h
  have key : ∀ {n : String} {d : DataW Unit} {g : Nat}, VarReads Tryd.prog W n d → Tryd.prog.globalNamed n = some g → g < W.heap.size := by
    rintro n d g ⟨g', t, cs, fuel, p, h1, _, h3, _⟩ hg
    obtain rfl := Option.some.inj (hg.symm.trans h1)
    unfold World.var? at h3
    rw [hg] at h3
    simp only [Option.bind_some] at h3
    rcases Nat.lt_or_ge g W.heap.size with h | h
    · exact h
    · rw [Array.getElem?_eq_none h] at h3; cases h3
  rintro b (rfl | rfl | rfl | rfl | rfl)
  · exact key (laidMet.reads h0 (n := "unicode/utf8.first") (d := Rows.laid_unicode_utf8_first) (by simp [Rows.quoteTellsRow])) (by kernel_rfl)
  · exact key (laidMet.reads h0 (n := "unicode/utf8.acceptRanges") (d := Rows.laid_unicode_utf8_acceptRanges) (by simp [Rows.quoteTellsRow])) (by kernel_rfl)
  · exact key (laidMet.reads h0 (n := "strconv.ErrSyntax") (d := Rows.laid_strconv_ErrSyntax) (by simp [Rows.quoteTellsRow])) (by kernel_rfl)
  · exact key (laidMet.reads h0 (n := "strconv.ErrRange") (d := Rows.laid_strconv_ErrRange) (by simp [Rows.quoteTellsRow])) (by kernel_rfl)
  · exact key (laidMet.reads h0 (n := "math/bits.deBruijn64tab") (d := Rows.laid_math_bits_deBruijn64tab) (by simp [Rows.quoteTellsRow])) (by kernel_rfl)

/-! ### A start that fits -/
def tabOf (d : DataW Unit) : List Value := match d with
  | .agg l => l.flatMap fun x => match x with
    | .lit (.int k n) => [Value.int k n]
    | .agg l' => l'.flatMap fun y => match y with
      | .lit (.int k n) => [Value.int k n]
      | _ => []
    | _ => []
  | _ => []
noncomputable def laidWorld (os : Os) : World :=
  let N := (World.settled Tryd.prog os).heap.size
  let w0 := World.holding Tryd.prog os ⟨#[
    .cells #[.string ⟨#[118, 97, 108, 117, 101, 32, 111, 117, 116, 32, 111, 102, 32, 114, 97, 110, 103, 101]⟩] 160, .cells #[.string ⟨#[105, 110, 118, 97, 108, 105, 100, 32, 115, 121, 110, 116, 97, 120]⟩] 160], #[], []⟩
  let put (h : Array Obj) (g : Nat) (cs : Array Value) : Array Obj := h.modify g fun
    | .cells _ t frozen => .cells cs t frozen
    | o => o
  let h1 := put w0.heap 5 (tabOf Rows.laid_math_bits_deBruijn32tab).toArray
  let h2 := put h1 6 (tabOf Rows.laid_math_bits_deBruijn64tab).toArray
  let h3 := put h2 2 (tabOf Rows.laid_internal_strconv_uint64pow10).toArray
  let h4 := put h3 1 (tabOf Rows.laid_unicode_utf8_acceptRanges).toArray
  let h5 := put h4 4 #[.iface 158 (.pointer (some ⟨N, 0, none⟩))]
  let h6 := put h5 3 #[.iface 158 (.pointer (some ⟨N + 1, 0, none⟩))]
  let h7 := put h6 0 (tabOf Rows.laid_unicode_utf8_first).toArray
  { w0 with heap := h7 }
theorem laid_met (os : Os) (args : Array Value) : laidMet Tryd.prog Rows.quoteTellsRow.laid ((laidWorld os).forCall (fun _ _ => 0) ⟨#[], args, []⟩).memory :=
  laidMet_of_run' 8 (by kernel_rfl) (by kernel_rfl)

/-! ### Arguments -/
theorem arg_int {P : Program} {W : World} {r : Reach} {b : Nat} {t : TypeId} {k : IntKind} {v : Value} (ht : P.underlying t = some (.int k)) (h : Cell.okWide P W r b t v) : ∃ n, v = .int k n ∧ k.has n := by
  simp only [Cell.okWide, Cell.ok, ht] at h
  cases v <;> simp_all
theorem arg_str {P : Program} {W : World} {r : Reach} {b : Nat} {t : TypeId} {v : Value} (ht : P.underlying t = some .string) (h : Cell.okWide P W r b t v) : ∃ s : List UInt8, v = .string ⟨⟨s⟩⟩ ∧ s.length ≤ 9223372036854775807 := by
  simp only [Cell.okWide, Cell.ok, ht] at h
  cases v with
  | string s =>
    refine ⟨s.data.toList, by rw [str_eta], ?_⟩
    have h' : (s.size : Int) ≤ IntKind.i64.max := h
    have e : IntKind.i64.max = 9223372036854775807 := rfl
    have e2 : s.data.toList.length = s.size := size_list s
    omega
  | _ => simp at h
theorem arg_bool {P : Program} {W : World} {r : Reach} {b : Nat} {t : TypeId} {v : Value} (ht : P.underlying t = some .bool) (h : Cell.okWide P W r b t v) : ∃ x, v = .bool x := by
  simp only [Cell.okWide, Cell.ok, ht] at h
  cases v <;> simp_all
theorem argStr {W : World} {b : Nat} {v : Value} (h : Value.okWide Tryd.prog W .any b 9 v) : ∃ s : List UInt8, v = .string ⟨⟨s⟩⟩ ∧ s.length ≤ 9223372036854775807 := by
  simp only [Value.okWide, Tryd.underlying9] at h
  exact arg_str Tryd.underlying9 h
theorem trod_string {H : Type} {enc : TypeId × Value → H} {P : Program} {w : World} {base : Nat} {sp : Nat → Bool} {held : Bool} {t : TypeId} {s : List UInt8} {d : DataW H} {p : List MemPlace} (ht : P.underlying t = some .string) (h : DataW.Trod enc P w base sp held t (.string ⟨⟨s⟩⟩) d p) : d = .lit (.string s) := by
  obtain ⟨fuel, h⟩ := h
  cases fuel with
  | zero => simp [DataW.trod] at h
  | succ f =>
    simp only [DataW.trod, ht, Value.cells] at h
    split at h
    · simp at h; exact h.1.symm
    · cases h
/-- What came in is not longer than what can be reached. -/
theorem strSized {H : Type} {enc : TypeId × Value → H} {w : World} {base : Nat} {sp : Nat → Bool} {held : Bool} {s : List UInt8} {d : DataW H} {p : List MemPlace} {ts : List TypeId} {ds : List (DataW H)} (h : DataW.Trod enc Tryd.prog w base sp held 9 (.string ⟨⟨s⟩⟩) d p)
    (hz : (DataW.weightsEach Tryd.prog ts ds).all (· ≤ reachBytes) = true) {j : Nat} (h1 : ts[j]? = some 9) (h2 : ds[j]? = some d) : s.length ≤ 140737488351232 := by
  have e := trod_string Tryd.underlying9 h
  subst e
  exact sized_string hz h1 h2
theorem nat_of {k : IntKind} {n m : Int} (h : k.has n) (h0 : k.min = 0) (h1 : k.max = m) : ∃ i : Nat, n = i ∧ (i : Int) ≤ m := by
  unfold IntKind.has at h
  exact ⟨n.toNat, by omega, by omega⟩
theorem argU8 {W : World} {b : Nat} {v : Value} (h : Value.okWide Tryd.prog W .any b 5 v) : ∃ n : Nat, v = .int .u8 n ∧ n ≤ 255 := by
  simp only [Value.okWide, Tryd.underlying5] at h
  obtain ⟨n, rfl, hn⟩ := arg_int Tryd.underlying5 h
  obtain ⟨i, rfl, hi⟩ := nat_of hn (by decide) (m := 255) (by decide)
  exact ⟨i, rfl, by omega⟩
theorem argU32 {W : World} {b : Nat} {v : Value} (h : Value.okWide Tryd.prog W .any b 52 v) : ∃ n : Nat, v = .int .u32 n ∧ n ≤ 4294967295 := by
  simp only [Value.okWide, Tryd.underlying52] at h
  obtain ⟨n, rfl, hn⟩ := arg_int Tryd.underlying52 h
  obtain ⟨i, rfl, hi⟩ := nat_of hn (by decide) (m := 4294967295) (by decide)
  exact ⟨i, rfl, by omega⟩
theorem argBool {W : World} {b : Nat} {v : Value} (h : Value.okWide Tryd.prog W .any b 4 v) : ∃ x : Bool, v = .bool x ∧ True := by
  simp only [Value.okWide, Tryd.underlying4] at h
  obtain ⟨x, rfl⟩ := arg_bool Tryd.underlying4 h
  exact ⟨x, rfl, trivial⟩

end Go.LX
