/- Contracts in use; small facts that the steps meet. -/
import Derived.Test.YteiencnfglbnkaaDoorLxS
set_option linter.unusedSimpArgs false
set_option linter.unusedVariables false
set_option linter.unusedSectionVars false
set_option linter.unnecessarySimpa false
namespace Go.LX
open Go Go.RowKit Go.Proofs

/-- A contract with one outcome. -/
def Det (X : Cx) (f : FuncId) (args : List L) (rs : Regs) (l : L) (rs' : Regs) : Prop := LCalls X f args rs fun m q => m = l ∧ q = rs'

theorem Det.use {X : Cx} {f : FuncId} {args : List L} {rs : Regs} {l : L} {rs' : Regs} {Post : L → Regs → Prop} (h : Det X f args rs l rs') (hp : Post l rs') : LCalls X f args rs Post :=
  h.mono fun m q ⟨h1, h2⟩ => by subst h1; subst h2; exact hp
theorem Det.useQ {X : Cx} {f : FuncId} {args : List L} {l : L} {C : L → Prop} (h : Det X f args [] l []) (hp : C l) (hr : l.retOK = true := by rfl) : lqcall X f args C := ⟨l, ⟨h.mono fun _ _ h => h.1, hr⟩, hp⟩
theorem XCalls.use {X : Cx} {g : FuncId} {args : List L} {l : L} {s : St} {dst : Option Tmp} {K : St → Prop} (h : XCalls X g args l) (hK : K (s.put dst l)) : lext X g args s dst K := ⟨l, h, hK⟩

theorem LCalls.args_le {X : Cx} {f : FuncId} {args args' : List L} {rs : Regs} {Post : L → Regs → Prop} (hle : tmpsLe args args') (h : LCalls X f args' rs Post) : LCalls X f args rs Post := by
  refine ⟨h.1, fun β Im w vs hg hf => h.2 β Im w vs hg ?_⟩
  obtain ⟨h1, h2⟩ := tmpsLe_spec hle
  exact { hf with size := by rw [hf.size]; exact h1, tmps := fun i l hl => by obtain ⟨l0, hl0, hle⟩ := h2 i l hl; exact hle.rep (hf.tmps i l0 hl0) }

theorem lqcall_le {X : Cx} {f : FuncId} {args args' : List L} {C : L → Prop} (hle : tmpsLe args args') (h : lqcall X f args' C) : lqcall X f args C := by
  obtain ⟨l, ⟨h1, h0⟩, h2⟩ := h
  exact ⟨l, ⟨h1.args_le hle, h0⟩, h2⟩

/-! ### Integers in their bounds -/
def i64ok (n : Int) : Prop := -9223372036854775808 ≤ n ∧ n ≤ 9223372036854775807
theorem wrap_i64 {n : Int} (h1 : -9223372036854775808 ≤ n) (h2 : n ≤ 9223372036854775807) : IntKind.i64.wrap n = n := by
  have e : IntKind.i64.wrap n = if n % 18446744073709551616 ≥ 9223372036854775808 then n % 18446744073709551616 - 18446744073709551616 else n % 18446744073709551616 := by
    simp [IntKind.wrap, IntKind.signed, IntKind.bits]
  rw [e]; split <;> omega
theorem wrap_i32 {n : Int} (h1 : -2147483648 ≤ n) (h2 : n ≤ 2147483647) : IntKind.i32.wrap n = n := by
  have e : IntKind.i32.wrap n = if n % 4294967296 ≥ 2147483648 then n % 4294967296 - 4294967296 else n % 4294967296 := by
    simp [IntKind.wrap, IntKind.signed, IntKind.bits]
  rw [e]; split <;> omega
theorem wrap_u8' (n : Int) : IntKind.u8.wrap n = n % 256 := by simp [IntKind.wrap, IntKind.signed, IntKind.bits]
theorem wrap_u32' (n : Int) : IntKind.u32.wrap n = n % 4294967296 := by simp [IntKind.wrap, IntKind.signed, IntKind.bits]
theorem wrap_u64' (n : Int) : IntKind.u64.wrap n = n % 18446744073709551616 := by simp [IntKind.wrap, IntKind.signed, IntKind.bits]
theorem wrap_u8 {n : Int} (h1 : 0 ≤ n) (h2 : n ≤ 255) : IntKind.u8.wrap n = n := by rw [wrap_u8']; omega
theorem wrap_u32 {n : Int} (h1 : 0 ≤ n) (h2 : n ≤ 4294967295) : IntKind.u32.wrap n = n := by rw [wrap_u32']; omega
theorem wrap_u64 {n : Int} (h1 : 0 ≤ n) (h2 : n ≤ 18446744073709551615) : IntKind.u64.wrap n = n := by rw [wrap_u64']; omega

/-! ### Rows -/
theorem ex_map {α γ : Type} {l : List α} {f : α → γ} {i : Nat} {Q : γ → Prop} : (∃ e, (l.map f)[i]? = some e ∧ Q e) = ∃ a, l[i]? = some a ∧ Q (f a) := by
  rw [List.getElem?_map]
  apply propext
  constructor
  · rintro ⟨e, he, hq⟩
    obtain ⟨a, ha, rfl⟩ := Option.map_eq_some_iff.1 he
    exact ⟨a, ha, hq⟩
  · rintro ⟨a, ha, hq⟩
    exact ⟨f a, by rw [ha]; rfl, hq⟩
theorem ex_some {α : Type} {x : α} {Q : α → Prop} : (∃ e, some x = some e ∧ Q e) = Q x := by
  apply propext
  constructor
  · rintro ⟨e, he, hq⟩; cases he; exact hq
  · exact fun h => ⟨x, rfl, h⟩
theorem get_some {α : Type} {l : List α} {i : Nat} (h : i < l.length) : ∃ x, l[i]? = some x := ⟨l[i], List.getElem?_eq_getElem h⟩
theorem imp_tt {A : Prop} : (true = true → A) = A := by simp
theorem imp_tf {A : Prop} : (true = false → A) = True := by simp
theorem imp_ft {A : Prop} : (false = true → A) = True := by simp
theorem imp_ff {A : Prop} : (false = false → A) = A := by simp

end Go.LX
