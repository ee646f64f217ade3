/- The operations on values that are written out: each by lemmas of its own; what comes behind is named, never a lambda. -/
import Derived.Test.YtdfpjodlbimgdaaDoorLxQ
set_option linter.unusedSimpArgs false
set_option linter.unusedVariables false
set_option linter.unusedSectionVars false
set_option linter.unnecessarySimpa false
namespace Go.LX
open Go Go.RowKit Go.Proofs

theorem pe {A B : Prop} (h : A ↔ B) : A = B := propext h

def whenS {α : Type} (o : Option α) (C : α → Prop) : Prop := ∃ a, o = some a ∧ C a
theorem whenS_some {α : Type} {a : α} {C : α → Prop} : whenS (some a) C = C a := pe ⟨fun ⟨_, h, hc⟩ => by cases h; exact hc, fun h => ⟨a, rfl, h⟩⟩
/-- an element of a row, that is told by the row. -/
def getE {α : Type} (o : Option α) (C : α → Prop) : Prop := ∃ a, o = some a ∧ C a
theorem getE_some {α : Type} {a : α} {C : α → Prop} : getE (some a) C = C a := pe ⟨fun ⟨_, h, hc⟩ => by cases h; exact hc, fun h => ⟨a, rfl, h⟩⟩
theorem getE_get {α : Type} [Inhabited α] {l : List α} {i : Nat} {C : α → Prop} : getE (l[i]?) C = (i < l.length ∧ C (l.getD i default)) := by
  apply pe
  constructor
  · rintro ⟨a, h, hc⟩
    obtain ⟨h1, rfl⟩ := List.getElem?_eq_some_iff.1 h
    exact ⟨h1, by simpa [List.getD_eq_getElem?_getD, h1] using hc⟩
  · rintro ⟨h1, hc⟩
    exact ⟨l[i], List.getElem?_eq_getElem h1, by simpa [List.getD_eq_getElem?_getD, h1] using hc⟩
theorem getE_map {α γ : Type} [Inhabited α] {l : List α} {f : α → γ} {i : Nat} {C : γ → Prop} : getE ((l.map f)[i]?) C = (i < l.length ∧ C (f (l.getD i default))) := by
  apply pe
  rw [show getE ((l.map f)[i]?) C ↔ getE (l[i]?) (fun a => C (f a)) from Iff.of_eq ex_map, getE_get]
/-- a byte of a string. -/
def at_ (s : List UInt8) (i : Nat) : Nat := (s.getD i 0).toNat
theorem at_lt (s : List UInt8) (i : Nat) : at_ s i ≤ 255 := by
  have := (s.getD i 0).toNat_lt
  simp only [at_]; omega
theorem at_of {s : List UInt8} {i : Nat} {b : UInt8} (h : s[i]? = some b) : at_ s i = b.toNat := by simp [at_, List.getD_eq_getElem?_getD, h]
theorem at_get {s : List UInt8} {i : Nat} (h : i < s.length) : at_ s i = s[i].toNat := by simp [at_, List.getD_eq_getElem?_getD, h]

section
variable {X : Cx} {P : Program} {ro : Option Nat} {K : L → Prop} {J : St → Prop} {t : List L} {r : Regs} {ds : List (Option Tmp)}

theorem u_draw {id : Nat} {ops : Array Oper} {Q : Ex → St → Prop} : lwp X ro (.region id ops true) Q ⟨t, r⟩ = SWP X ro (.region id ops true) Q ⟨t, r⟩ := (rfl)
theorem w_leaf {ops : List Oper} {C : St → Prop} : lOrd X ds ops C .leaf ⟨t, r⟩ = C ⟨t, r⟩ := (rfl)
theorem w_nil {ops : List Oper} {C : St → Prop} : lOrd X ds ops C .nil ⟨t, r⟩ = True := (rfl)
theorem w_node {ops : List Oper} {C : St → Prop} {i : Nat} {sub next : Ord} : lOrd X ds ops C (.node i sub next) ⟨t, r⟩ = (lAt X ds ops i (lOrd X ds ops C sub) ⟨t, r⟩ ∧ lOrd X ds ops C next ⟨t, r⟩) := (rfl)
theorem w_at0 {o : Oper} {ops : List Oper} {C : St → Prop} : lAt X ds (o :: ops) 0 C ⟨t, r⟩ = lguard ds o.guard (lop X o C) (kunit o.dst C) ⟨t, r⟩ := (rfl)
theorem w_atS {o : Oper} {ops : List Oper} {C : St → Prop} {i : Nat} : lAt X ds (o :: ops) (i + 1) C ⟨t, r⟩ = lAt X ds ops i C ⟨t, r⟩ := (rfl)
theorem w_guard0 {A B : St → Prop} : lguard ds none A B ⟨t, r⟩ = A ⟨t, r⟩ := (rfl)
/-! ### Guards, conditions -/
theorem u_cond {b : Bool} {A B : St → Prop} : lcond (.p (.bool b)) A B ⟨t, r⟩ = if b = true then A ⟨t, r⟩ else B ⟨t, r⟩ := by
  cases b <;> simp [lcond]
def gsel (o : Option Tmp) (want : Bool) (A B : St → Prop) (s : St) : Prop :=
  match o with
  | some dj => match s.tmps.getD dj .junk with
    | .p (.bool c) => (c = want → A (s.put (some dj) (.p (.bool want)))) ∧ (c = (!want) → B (s.put (some dj) (.p (.bool (!want)))))
    | .tup [] => B s
    | _ => False
  | none => False
def gval (l : L) (dj : Tmp) (want : Bool) (A B : St → Prop) (s : St) : Prop :=
  match l with
  | .p (.bool c) => (c = want → A (s.put (some dj) (.p (.bool want)))) ∧ (c = (!want) → B (s.put (some dj) (.p (.bool (!want)))))
  | .tup [] => B s
  | _ => False
theorem u_guard {j : Nat} {want : Bool} {A B : St → Prop} : lguard ds (some (j, want)) A B ⟨t, r⟩ = gsel (ds.getD j none) want A B ⟨t, r⟩ := (rfl)
theorem u_gsel {dj : Tmp} {want : Bool} {A B : St → Prop} : gsel (some dj) want A B ⟨t, r⟩ = gval (t.getD dj .junk) dj want A B ⟨t, r⟩ := (rfl)
theorem u_gval_t {dj : Tmp} {c : Bool} {A B : St → Prop} : gval (.p (.bool c)) dj true A B ⟨t, r⟩ = if c = true then A ⟨t.set dj (.p (.bool true)), r⟩ else B ⟨t.set dj (.p (.bool false)), r⟩ := by
  cases c <;> simp [gval, St.put]
theorem u_gval_f {dj : Tmp} {c : Bool} {A B : St → Prop} : gval (.p (.bool c)) dj false A B ⟨t, r⟩ = if c = true then B ⟨t.set dj (.p (.bool true)), r⟩ else A ⟨t.set dj (.p (.bool false)), r⟩ := by
  cases c <;> simp [gval, St.put]
theorem u_gval_tup {dj : Tmp} {want : Bool} {A B : St → Prop} : gval (.tup []) dj want A B ⟨t, r⟩ = B ⟨t, r⟩ := (rfl)
theorem u_pick {c : Bool} {a b : L} : lpick (.p (.bool c)) a b K = if c = true then K a else K b := by cases c <;> simp [lpick]

/-! ### Two values -/
theorem u_bin_int {op : BinOp} {ty : TypeId} {k k' : IntKind} {a b : Int} : lbin P op ty (.p (.int k a)) (.p (.int k' b)) K = lint op k a k' b K := (rfl)
theorem u_bin_str {op : BinOp} {ty : TypeId} {a b : List UInt8} : lbin P op ty (.p (.str a)) (.p (.str b)) K = lstr op a b K := (rfl)
theorem u_bin_beq {ty : TypeId} {a b : Bool} : lbin P .eql ty (.p (.bool a)) (.p (.bool b)) K = (P.underlying ty = some .bool ∧ K (.p (.bool (a == b)))) := (rfl)
theorem u_bin_bne {ty : TypeId} {a b : Bool} : lbin P .neq ty (.p (.bool a)) (.p (.bool b)) K = (P.underlying ty = some .bool ∧ K (.p (.bool (a != b)))) := (rfl)
def kb (K : L → Prop) (b : Bool) : Prop := K (.p (.bool b))
def knb (K : L → Prop) (b : Bool) : Prop := K (.p (.bool (!b)))
def aggEq (o : Option (List Tag)) (a b : List PV) (C : Bool → Prop) : Prop := ∃ ts, o = some ts ∧ whenS (eqTags ts a b) C
theorem u_aggEq {ts : List Tag} {a b : List PV} {C : Bool → Prop} : aggEq (some ts) a b C = whenS (eqTags ts a b) C := pe ⟨fun ⟨_, h, hc⟩ => by cases h; exact hc, fun h => ⟨ts, rfl, h⟩⟩
theorem u_bin_aeq {ty : TypeId} {a b : List PV} : lbin P .eql ty (.p (.agg a)) (.p (.agg b)) K = aggEq (tagsOf P ty) a b (kb K) := (rfl)
theorem u_bin_ane {ty : TypeId} {a b : List PV} : lbin P .neq ty (.p (.agg a)) (.p (.agg b)) K = aggEq (tagsOf P ty) a b (knb K) := (rfl)
theorem u_kb {b : Bool} : kb K b = K (.p (.bool b)) := (rfl)
theorem u_knb {b : Bool} : knb K b = K (.p (.bool (!b))) := (rfl)
def bopt (b : Bool) : Option Bool → Option Bool
  | some x => some (b && x)
  | none => none
theorem bopt_some {a b : Bool} : bopt a (some b) = some (a && b) := (rfl)
theorem u_eqTags_nil : eqTags [] [] [] = some true := (rfl)
theorem u_eqTags_bool {ts : List Tag} {a b : Bool} {x y : List PV} : eqTags (.bool :: ts) (.bool a :: x) (.bool b :: y) = bopt (a == b) (eqTags ts x y) := by
  simp only [eqTags, bopt]
  cases eqTags ts x y <;> rfl
theorem u_eqTags_int {ts : List Tag} {k : IntKind} {a b : Int} {x y : List PV} : eqTags (.int :: ts) (.int k a :: x) (.int k b :: y) = bopt (a == b) (eqTags ts x y) := by
  simp only [eqTags, bopt, if_true]
  cases eqTags ts x y <;> rfl
theorem u_eqTags_str {ts : List Tag} {a b : List UInt8} {x y : List PV} : eqTags (.str :: ts) (.str a :: x) (.str b :: y) = bopt (a == b) (eqTags ts x y) := by
  simp only [eqTags, bopt]
  cases eqTags ts x y <;> rfl

variable {k k' : IntKind} {a b : Int}
theorem u_shl : lint .shl k a k' b K = (0 ≤ b ∧ K (.p (.int k (k.wrap (a * 2 ^ min b.toNat k.bits))))) := (rfl)
theorem u_shr : lint .shr k a k' b K = (0 ≤ b ∧ K (.p (.int k (a.fdiv (2 ^ min b.toNat k.bits))))) := (rfl)
theorem u_add : lint .add k a k b K = K (.p (.int k (k.wrap (a + b)))) := by simp [lint]
theorem u_sub : lint .sub k a k b K = K (.p (.int k (k.wrap (a - b)))) := by simp [lint]
theorem u_mul : lint .mul k a k b K = K (.p (.int k (k.wrap (a * b)))) := by simp [lint]
theorem u_quo : lint .quo k a k b K = (b ≠ 0 ∧ K (.p (.int k (k.wrap (a.tdiv b))))) := by simp [lint]
theorem u_rem : lint .rem k a k b K = (b ≠ 0 ∧ K (.p (.int k (a.tmod b)))) := by simp [lint]
theorem u_and : lint .and k a k b K = K (.p (.int k (k.wrap (BitVec.ofInt k.bits a &&& BitVec.ofInt k.bits b).toNat))) := by simp [lint]
theorem u_or : lint .or k a k b K = K (.p (.int k (k.wrap (BitVec.ofInt k.bits a ||| BitVec.ofInt k.bits b).toNat))) := by simp [lint]
theorem u_xor : lint .xor k a k b K = K (.p (.int k (k.wrap (BitVec.ofInt k.bits a ^^^ BitVec.ofInt k.bits b).toNat))) := by simp [lint]
theorem u_eql : lint .eql k a k b K = K (.p (.bool (a == b))) := by simp [lint]
theorem u_neq : lint .neq k a k b K = K (.p (.bool (a != b))) := by simp [lint]
theorem u_lss : lint .lss k a k b K = K (.p (.bool (decide (a < b)))) := by simp [lint]
theorem u_leq : lint .leq k a k b K = K (.p (.bool (decide (a ≤ b)))) := by simp [lint]
theorem u_gtr : lint .gtr k a k b K = K (.p (.bool (decide (b < a)))) := by simp [lint]
theorem u_geq : lint .geq k a k b K = K (.p (.bool (decide (b ≤ a)))) := by simp [lint]
variable {x y : List UInt8}
theorem u_sadd : lstr .add x y K = (x.length + y.length ≤ 9223372036854775807 ∧ K (.p (.str (x ++ y)))) := (rfl)
theorem u_seql : lstr .eql x y K = K (.p (.bool (x == y))) := (rfl)
theorem u_sneq : lstr .neq x y K = K (.p (.bool (!(x == y)))) := (rfl)
theorem u_slss : lstr .lss x y K = K (.p (.bool (Op.bytesLess x y))) := (rfl)
theorem u_sleq : lstr .leq x y K = K (.p (.bool (Op.bytesLess x y || x == y))) := (rfl)
theorem u_sgtr : lstr .gtr x y K = K (.p (.bool (!(Op.bytesLess x y || x == y)))) := (rfl)
theorem u_sgeq : lstr .geq x y K = K (.p (.bool (!(Op.bytesLess x y)))) := (rfl)
theorem u_neg : lun .neg (.p (.int k a)) K = K (.p (.int k (k.wrap (0 - a)))) := (rfl)
theorem u_not {c : Bool} : lun .not (.p (.bool c)) K = K (.p (.bool (!c))) := (rfl)
theorem u_max : lminmax true [.p (.int k a), .p (.int k' b)] K = K (.p (.int k (max a b))) := (rfl)
theorem u_min : lminmax false [.p (.int k a), .p (.int k' b)] K = K (.p (.int k (min a b))) := (rfl)

/-! ### One value -/
def kstr (K : L → Prop) (bs : List UInt8) : Prop := K (.p (.str bs))
theorem u_kstr {bs : List UInt8} : kstr K bs = K (.p (.str bs)) := (rfl)
theorem u_cvF {sa sb : TypeId} {o : Operand} {dst : Option Tmp} : cvF P sa sb o dst J ⟨t, r⟩ = lconv P sa sb ((St.mk t r).get o) (kput dst J ⟨t, r⟩) := (rfl)
def convT (P : Program) (src dst : Option TypeDesc) (x : L) (K : L → Prop) : Prop :=
  match dst, x with
  | some (.int k), .p (.int _ n) => src.isSome = true ∧ K (.p (.int k (k.wrap n)))
  | some .string, .p (.str s) => src.isSome = true ∧ (∀ e, src ≠ some (.slice e)) ∧ K (.p (.str s))
  | some .string, .p (.int _ n) => src.isSome = true ∧ (∀ e, src ≠ some (.slice e)) ∧ K (.p (.str (Utf8.encode n).data.toList))
  | some .string, .p (.sl es) => (∃ e, src = some (.slice e) ∧ P.underlying e = some (.int .u8)) ∧ whenS (bytesPV es) (kstr K)
  | _, _ => False
theorem u_conv {s d : TypeId} {x : L} : lconv P s d x K = convT P (P.underlying s) (P.underlying d) x K := (rfl)
theorem u_conv_int {d : TypeDesc} : convT P (some d) (some (.int k')) (.p (.int k a)) K = K (.p (.int k' (k'.wrap a))) := by simp [convT]
theorem u_conv_str : convT P (some .string) (some .string) (.p (.str x)) K = K (.p (.str x)) := by simp [convT]
theorem u_conv_rune : convT P (some (.int k')) (some .string) (.p (.int k a)) K = K (.p (.str (Utf8.encode a).data.toList)) := by simp [convT]
theorem u_conv_bytes {e : TypeId} {es : List (List PV)} : convT P (some (.slice e)) (some .string) (.p (.sl es)) K = (P.underlying e = some (.int .u8) ∧ whenS (bytesPV es) (kstr K)) := by
  simp [convT]
def byteC (n : Int) : Option (List UInt8) → Option (List UInt8)
  | some bs => if 0 ≤ n ∧ n < 256 then some (UInt8.ofNat n.toNat :: bs) else none
  | none => none
theorem u_bytes_nil : bytesPV [] = some [] := (rfl)
theorem u_bytes_cons {n : Int} {l : List (List PV)} : bytesPV ([.int .u8 n] :: l) = byteC n (bytesPV l) := by
  simp only [bytesPV, byteC]
  cases bytesPV l <;> simp
def u8of (n : Int) : UInt8 := UInt8.ofNat (n % 256).toNat
theorem u_byteC_wrap {n : Int} {bs : List UInt8} : byteC (IntKind.u8.wrap n) (some bs) = some (u8of n :: bs) := by
  simp only [byteC, wrap_u8', u8of]
  rw [if_pos (by omega)]
theorem u_byteC_at {s : List UInt8} {i : Nat} {bs : List UInt8} : byteC (at_ s i) (some bs) = some (s.getD i 0 :: bs) := by
  simp only [byteC]
  rw [if_pos ⟨by omega, by have := at_lt s i; omega⟩]
  simp [at_]
def lenT (d : Option TypeDesc) (x : L) (K : L → Prop) : Prop :=
  match d, x with
  | some .string, .p (.str s) => K (.p (.int .i64 s.length))
  | some (.slice _), .p (.sl es) => K (.p (.int .i64 es.length))
  | some (.slice _), .p .snil => K (.p (.int .i64 0))
  | some (.slice _), .own _ _ len => K (.p (.int .i64 len))
  | _, _ => False
variable {es : List (List PV)} {e sz : Nat}
theorem u_len {ty : TypeId} {x : L} : llen P ty x K = lenT (P.underlying ty) x K := (rfl)
theorem u_len_str : lenT (some .string) (.p (.str x)) K = K (.p (.int .i64 x.length)) := (rfl)
theorem u_len_sl : lenT (some (.slice e)) (.p (.sl es)) K = K (.p (.int .i64 es.length)) := (rfl)
theorem u_len_nil : lenT (some (.slice e)) (.p .snil) K = K (.p (.int .i64 0)) := (rfl)
theorem u_len_own {d o n : Nat} : lenT (some (.slice e)) (.own d o n) K = K (.p (.int .i64 n)) := (rfl)

def kelem (sz : Nat) (K : L → Prop) (e : List PV) : Prop := e.length = sz ∧ K (.eptr e)
theorem u_kelem {c : List PV} : kelem sz K c = (c.length = sz ∧ K (.eptr c)) := (rfl)
def iaT (r : Regs) (o : Option (TypeId × Nat)) (q : Option (Nat × TypeId × Nat)) (x ix : L) (K : L → Prop) : Prop :=
  match x, ix with
  | .p (.sl es), .p (.int _ i) => match o with
    | some (_, sz) => 0 ≤ i ∧ getE (es[i.toNat]?) (kelem sz K)
    | none => False
  | .own d off len, .p (.int _ i) => match findReg d r, o with
    | some (.row _ sz _), some (_, sz') => sz = sz' ∧ 0 ≤ i ∧ i < len ∧ K (.ptr d (off + i.toNat) 0)
    | _, _ => False
  | .ptr d a b, .p (.int _ i) => match q with
    | some (n, _, sz) => 0 ≤ i ∧ i < n ∧ K (.ptr d a (b + i.toNat * sz))
    | none => False
  | .eptr cs, .p (.int _ i) => match q with
    | some (n, _, sz) => 0 ≤ i ∧ i < n ∧ i.toNat * sz ≤ cs.length ∧ K (.eptr (cs.drop (i.toNat * sz)))
    | none => False
  | _, _ => False
def iaR (q : Option Reg) (sz' : Nat) (d off len : Nat) (i : Int) (K : L → Prop) : Prop :=
  match q with
  | some (.row _ sz _) => sz = sz' ∧ 0 ≤ i ∧ i < len ∧ K (.ptr d (off + i.toNat) 0)
  | _ => False
theorem u_indexAddr {ty : TypeId} {x ix : L} : lindexAddr P r ty x ix K = iaT r (slE P ty) (arE P ty) x ix K := by
  unfold lindexAddr iaT getE kelem
  rfl
theorem u_ia_sl {i : Int} {q : Option (Nat × TypeId × Nat)} : iaT r (some (e, sz)) q (.p (.sl es)) (.p (.int k i)) K = (0 ≤ i ∧ getE (es[i.toNat]?) (kelem sz K)) := (rfl)
theorem u_ia_own {i : Int} {d off len : Nat} {q : Option (Nat × TypeId × Nat)} : iaT r (some (e, sz)) q (.own d off len) (.p (.int k i)) K = iaR (findReg d r) sz d off len i K := by
  simp only [iaT, iaR]
  generalize findReg d r = q
  cases q with
  | none => rfl
  | some q => cases q <;> rfl
theorem u_ia_ptr {i : Int} {d a b n : Nat} {o : Option (TypeId × Nat)} : iaT r o (some (n, e, sz)) (.ptr d a b) (.p (.int k i)) K = (0 ≤ i ∧ i < n ∧ K (.ptr d a (b + i.toNat * sz))) := (rfl)
theorem u_ia_eptr {i : Int} {cs : List PV} {n : Nat} {o : Option (TypeId × Nat)} : iaT r o (some (n, e, sz)) (.eptr cs) (.p (.int k i)) K = (0 ≤ i ∧ i < n ∧ i.toNat * sz ≤ cs.length ∧ K (.eptr (cs.drop (i.toNat * sz)))) := (rfl)
theorem u_ia_row {i : Int} {d off len sz' : Nat} {T : TypeId} : iaR (some (.row T sz es)) sz' d off len i K = (sz = sz' ∧ 0 ≤ i ∧ i < len ∧ K (.ptr d (off + i.toNat) 0)) := (rfl)

def kbyte (K : L → Prop) (b : UInt8) : Prop := K (.p (.int .u8 b.toNat))
theorem u_kbyte {c : UInt8} : kbyte K c = K (.p (.int .u8 c.toNat)) := (rfl)
def kp (K : L → Prop) (c : PV) : Prop := K (.p c)
theorem u_kp {c : PV} : kp K c = K (.p c) := (rfl)
def ixT (P : Program) (d : Option TypeDesc) (x ix : L) (K : L → Prop) : Prop :=
  match d, x, ix with
  | some .string, .p (.str s), .p (.int _ i) => 0 ≤ i ∧ getE (s[i.toNat]?) (kbyte K)
  | some (.array n e), .p (.agg cs), .p (.int _ i) => isAggB P e = some false ∧ P.cellsOf e = 1 ∧ 0 ≤ i ∧ i < n ∧ getE (cs[i.toNat]?) (kp K)
  | _, _, _ => False
theorem u_index {ty : TypeId} {x ix : L} : lindex P ty x ix K = ixT P (P.underlying ty) x ix K := by
  unfold lindex ixT getE kbyte kp; rfl
theorem u_ix_str {i : Int} : ixT P (some .string) (.p (.str x)) (.p (.int k i)) K = (0 ≤ i ∧ i.toNat < x.length ∧ K (.p (.int .u8 (at_ x i.toNat)))) := by
  show (0 ≤ i ∧ getE (x[i.toNat]?) (kbyte K)) = _
  rw [getE_get]; rfl
theorem u_ix_arr {n : Nat} {cs : List PV} {i : Int} : ixT P (some (.array n e)) (.p (.agg cs)) (.p (.int k i)) K = (isAggB P e = some false ∧ P.cellsOf e = 1 ∧ 0 ≤ i ∧ i < n ∧ getE (cs[i.toNat]?) (kp K)) := (rfl)

/-! ### Fields, loads -/
def faT (o : Option (Nat × TypeId)) (x : L) (K : L → Prop) : Prop :=
  match o, x with
  | some (off, _), .eptr cs => off ≤ cs.length ∧ K (.eptr (cs.drop off))
  | some (off, _), .ptr d i j => K (.ptr d i (j + off))
  | _, _ => False
variable {off n f : Nat} {ft ty T : TypeId} {cs : List PV} {d i j : Nat} {ls : List L}
theorem u_fieldAddr {x : L} : lfieldAddr P ty x f K = faT (fld P ty f) x K := (rfl)
theorem u_fa_eptr : faT (some (off, ft)) (.eptr cs) K = (off ≤ cs.length ∧ K (.eptr (cs.drop off))) := (rfl)
theorem u_fa_ptr : faT (some (off, ft)) (.ptr d i j) K = K (.ptr d i (j + off)) := (rfl)
def fieldT (P : Program) (o : Option (Nat × TypeId)) (x : L) (K : L → Prop) : Prop :=
  match o, x with
  | some (off, ft), .p (.agg cs) => match isAggB P ft with
    | some true => off + P.cellsOf ft ≤ cs.length ∧ K (.p (.agg ((cs.drop off).take (P.cellsOf ft))))
    | some false => P.cellsOf ft = 1 ∧ getE (cs[off]?) (kp K)
    | none => False
  | _, _ => False
def fieldV (n off : Nat) (q : Option Bool) (cs : List PV) (K : L → Prop) : Prop :=
  match q with
  | some true => off + n ≤ cs.length ∧ K (.p (.agg ((cs.drop off).take n)))
  | some false => n = 1 ∧ getE (cs[off]?) (kp K)
  | none => False
theorem u_field {x : L} : lfield P ty x f K = fieldT P (fld P ty f) x K := by unfold lfield fieldT getE kp; rfl
theorem u_field_agg : fieldT P (some (off, ft)) (.p (.agg cs)) K = fieldV (P.cellsOf ft) off (isAggB P ft) cs K := (rfl)
theorem u_fieldV_t : fieldV n off (some true) cs K = (off + n ≤ cs.length ∧ K (.p (.agg ((cs.drop off).take n)))) := (rfl)
theorem u_fieldV_f : fieldV n off (some false) cs K = (n = 1 ∧ getE (cs[off]?) (kp K)) := (rfl)

def kagg (K : L → Prop) (ps : List PV) : Prop := K (.p (.agg ps))
theorem u_kagg {ps : List PV} : kagg K ps = K (.p (.agg ps)) := (rfl)
def kcell (j : Nat) (K : L → Prop) (e : List PV) : Prop := getE (e[j]?) (kp K)
theorem u_kcell {c : List PV} : kcell j K c = getE (c[j]?) (kp K) := (rfl)
def krow (n j : Nat) (K : L → Prop) (e : List PV) : Prop := 0 < n ∧ j + n ≤ e.length ∧ K (.p (.agg ((e.drop j).take n)))
theorem u_krow {c : List PV} : krow n j K c = (0 < n ∧ j + n ≤ c.length ∧ K (.p (.agg ((c.drop j).take n)))) := (rfl)
def ldT (n : Nat) (r : Regs) (o : Option Bool) (x : L) (K : L → Prop) : Prop :=
  match o, x with
  | some false, .eptr cs => getE (cs[0]?) (kp K)
  | some true, .eptr cs => 0 < n ∧ n ≤ cs.length ∧ K (.p (.agg (cs.take n)))
  | some false, .ptr d i j => match findReg d r with
    | some (.var _ cs) => i = 0 ∧ getE (cs[j]?) K
    | some (.row _ _ es) => getE (es[i]?) (kcell j K)
    | none => False
  | some true, .ptr d i j => match findReg d r with
    | some (.var _ cs) => i = 0 ∧ 0 < n ∧ j + n ≤ cs.length ∧ whenS (allSome L.pure? ((cs.drop j).take n)) (kagg K)
    | some (.row _ _ es) => getE (es[i]?) (krow n j K)
    | none => False
  | _, _ => False
def ldF (q : Option Reg) (i j : Nat) (K : L → Prop) : Prop :=
  match q with
  | some (.var _ cs) => i = 0 ∧ getE (cs[j]?) K
  | some (.row _ _ es) => getE (es[i]?) (kcell j K)
  | none => False
def ldA (q : Option Reg) (n i j : Nat) (K : L → Prop) : Prop :=
  match q with
  | some (.var _ cs) => i = 0 ∧ 0 < n ∧ j + n ≤ cs.length ∧ whenS (allSome L.pure? ((cs.drop j).take n)) (kagg K)
  | some (.row _ _ es) => getE (es[i]?) (krow n j K)
  | none => False
theorem u_load {x : L} : lload P r ty x K = ldT (P.cellsOf ty) r (isAggB P ty) x K := by unfold lload ldT getE kp whenS kagg kcell krow; rfl
theorem u_ld_eptr_f : ldT n r (some false) (.eptr cs) K = getE (cs[0]?) (kp K) := (rfl)
theorem u_ld_eptr_t : ldT n r (some true) (.eptr cs) K = (0 < n ∧ n ≤ cs.length ∧ K (.p (.agg (cs.take n)))) := (rfl)
theorem u_ld_ptr_f : ldT n r (some false) (.ptr d i j) K = ldF (findReg d r) i j K := (rfl)
theorem u_ld_ptr_t : ldT n r (some true) (.ptr d i j) K = ldA (findReg d r) n i j K := (rfl)
theorem u_ldF_var : ldF (some (.var T ls)) i j K = (i = 0 ∧ getE (ls[j]?) K) := (rfl)
theorem u_ldF_row : ldF (some (.row T sz es)) i j K = getE (es[i]?) (kcell j K) := (rfl)
theorem u_ldA_var : ldA (some (.var T ls)) n i j K = (i = 0 ∧ 0 < n ∧ j + n ≤ ls.length ∧ whenS (allSome L.pure? ((ls.drop j).take n)) (kagg K)) := (rfl)
theorem u_ldA_row : ldA (some (.row T sz es)) n i j K = getE (es[i]?) (krow n j K) := (rfl)

/-! ### Slices -/
def bnd (s : St) : Option Operand → Option L
  | none => none
  | some o => some (s.get o)
theorem bnd_none {s : St} : bnd s none = none := (rfl)
theorem bnd_some {s : St} {o : Operand} : bnd s (some o) = some (s.get o) := (rfl)
def bndI (d : Int) : Option L → Option Int
  | none => some d
  | some (.p (.int _ n)) => some n
  | some _ => none
def slT (P : Program) (o : Option TypeDesc) (x : L) (lo hi : Option L) (K : L → Prop) : Prop :=
  match o, x with
  | some .string, .p (.str s) => ∃ l h, bndI 0 lo = some l ∧ bndI s.length hi = some h ∧ 0 ≤ l ∧ l ≤ h ∧ h ≤ s.length ∧ K (.p (.str ((s.drop l.toNat).take (h.toNat - l.toNat))))
  | some (.slice e), .p (.sl es) => 0 < P.cellsOf e ∧ (∀ x ∈ es, x.length = P.cellsOf e) ∧ ∃ l h, bndI 0 lo = some l ∧ bndI es.length hi = some h ∧ 0 ≤ l ∧ l ≤ h ∧ h ≤ es.length ∧ K (.p (.sl ((es.drop l.toNat).take (h.toNat - l.toNat))))
  | _, _ => False
theorem u_slice {o : Operand} {lo hi : Option Operand} : lslice P ty (St.mk t r).get o lo hi none K = slT P (P.underlying ty) ((St.mk t r).get o) (bnd ⟨t, r⟩ lo) (bnd ⟨t, r⟩ hi) K := by
  have h1 : ∀ (d : Int) (q : Option Operand), bound (St.mk t r).get d q = bndI d (bnd ⟨t, r⟩ q) := by
    intro d q
    cases q with
    | none => rfl
    | some q =>
      simp only [bound, bnd]
      cases (St.mk t r).get q with
      | p v => cases v <;> rfl
      | _ => rfl
  unfold lslice slT
  simp only [h1, true_and]
  generalize P.underlying ty = q
  generalize (St.mk t r).get o = l
  cases q with
  | none => rfl
  | some q => cases q <;> first | rfl | (cases l <;> first | rfl | (rename_i v; cases v <;> rfl))
theorem u_sl_nn : slT P (some .string) (.p (.str x)) none none K = K (.p (.str x)) := by
  simp [slT, bndI]
theorem u_sl_ln {l : Int} : slT P (some .string) (.p (.str x)) (some (.p (.int k l))) none K = (0 ≤ l ∧ l ≤ x.length ∧ K (.p (.str (x.drop l.toNat)))) := by
  simp only [slT, bndI]
  apply pe
  constructor
  · rintro ⟨l', h', g1, g2, h1, h2, _, h3⟩
    cases g1; cases g2
    refine ⟨h1, h2, ?_⟩
    rwa [List.take_of_length_le (by simp)] at h3
  · rintro ⟨h1, h2, h3⟩
    refine ⟨_, _, rfl, rfl, h1, h2, Int.le_refl _, ?_⟩
    rwa [List.take_of_length_le (by simp)]
theorem u_sl_nh {h : Int} : slT P (some .string) (.p (.str x)) none (some (.p (.int k h))) K = (0 ≤ h ∧ h ≤ x.length ∧ K (.p (.str (x.take h.toNat)))) := by
  simp [slT, bndI]
theorem u_sl_lh {l h : Int} : slT P (some .string) (.p (.str x)) (some (.p (.int k l))) (some (.p (.int k' h))) K = (0 ≤ l ∧ l ≤ h ∧ h ≤ x.length ∧ K (.p (.str ((x.drop l.toNat).take (h.toNat - l.toNat))))) := by
  simp [slT, bndI]
theorem u_ss_nn : slT P (some (.slice e)) (.p (.sl es)) none none K = (0 < P.cellsOf e ∧ (∀ x ∈ es, x.length = P.cellsOf e) ∧ K (.p (.sl es))) := by
  simp [slT, bndI]
theorem u_ss_ln {l : Int} : slT P (some (.slice e)) (.p (.sl es)) (some (.p (.int k l))) none K = (0 < P.cellsOf e ∧ (∀ x ∈ es, x.length = P.cellsOf e) ∧ 0 ≤ l ∧ l ≤ es.length ∧ K (.p (.sl (es.drop l.toNat)))) := by
  simp only [slT, bndI]
  apply pe
  constructor
  · rintro ⟨g1, g2, l', h', k1, k2, h1, h2, _, h3⟩
    cases k1; cases k2
    refine ⟨g1, g2, h1, h2, ?_⟩
    rwa [List.take_of_length_le (by simp)] at h3
  · rintro ⟨g1, g2, h1, h2, h3⟩
    refine ⟨g1, g2, _, _, rfl, rfl, h1, h2, Int.le_refl _, ?_⟩
    rwa [List.take_of_length_le (by simp)]
theorem u_ss_nh {h : Int} : slT P (some (.slice e)) (.p (.sl es)) none (some (.p (.int k h))) K = (0 < P.cellsOf e ∧ (∀ x ∈ es, x.length = P.cellsOf e) ∧ 0 ≤ h ∧ h ≤ es.length ∧ K (.p (.sl (es.take h.toNat)))) := by
  simp [slT, bndI]
theorem u_ss_lh {l h : Int} : slT P (some (.slice e)) (.p (.sl es)) (some (.p (.int k l))) (some (.p (.int k' h))) K = (0 < P.cellsOf e ∧ (∀ x ∈ es, x.length = P.cellsOf e) ∧ 0 ≤ l ∧ l ≤ h ∧ h ≤ es.length ∧ K (.p (.sl ((es.drop l.toNat).take (h.toNat - l.toNat))))) := by
  simp [slT, bndI]

theorem u_extract {xs : List PV} : lextract (.tup xs) i K = getE (xs[i]?) (kp K) := (rfl)
theorem u_nil_ptr : lnil (.ptr d i j) K = K (.ptr d i j) := (rfl)
theorem u_nil_eptr : lnil (.eptr cs) K = K (.eptr cs) := (rfl)
theorem u_nil_fn {g : FuncId} {ids : List Nat} : lnil (.fn g ids) K = K (.fn g ids) := (rfl)
def kfn (g : FuncId) (K : L → Prop) (ids : List Nat) : Prop := K (.fn g ids)
theorem u_kfn {g : FuncId} {ids : List Nat} : kfn g K ids = K (.fn g ids) := (rfl)
theorem u_caps {g : FuncId} : lcaps g ls K = whenS (capsOf ls) (kfn g K) := (rfl)
def capC (d : Nat) : Option (List Nat) → Option (List Nat)
  | some l => some (d :: l)
  | none => none
theorem capC_some {l : List Nat} : capC d (some l) = some (d :: l) := (rfl)
theorem u_caps_nil : capsOf [] = some [] := (rfl)
theorem u_caps_cons : capsOf (.ptr d 0 0 :: ls) = capC d (capsOf ls) := (rfl)

/-! ### A struct, part by part -/
def kbuild (P : Program) (ty : TypeId) (parts : List (Nat × L)) (K : L → Prop) (z : List PV) : Prop := fieldsFull P ty = true ∧ whenS (fillPV P ty z parts) (kagg K)
theorem u_kbuild {parts : List (Nat × L)} {z : List PV} : kbuild P ty parts K z = (fieldsFull P ty = true ∧ whenS (fillPV P ty z parts) (kagg K)) := (rfl)
theorem u_build {parts : List (Nat × L)} : lbuild P ty parts K = whenS (zeroPV P ty) (kbuild P ty parts K) := (rfl)
def fillT (P : Program) (ty : TypeId) (cs : List PV) (o : Option (Nat × TypeId)) (x : L) (rest : List (Nat × L)) : Option (List PV) :=
  match o, x with
  | some (off, ft), .p (.agg xs) => if xs.length = P.cellsOf ft ∧ off + xs.length ≤ cs.length then fillPV P ty (cs.take off ++ xs ++ cs.drop (off + xs.length)) rest else none
  | some (off, ft), .p v => if 1 = P.cellsOf ft ∧ off + 1 ≤ cs.length then fillPV P ty (cs.set off v) rest else none
  | _, _ => none
theorem u_fill_nil : fillPV P ty cs [] = some cs := (rfl)
theorem u_fill_cons {rest : List (Nat × L)} {x : L} : fillPV P ty cs ((i, x) :: rest) = fillT P ty cs (fld P ty i) x rest := by
  simp only [fillPV, fillT]; rfl
theorem u_fill_agg {rest : List (Nat × L)} {xs : List PV} : fillT P ty cs (some (off, ft)) (.p (.agg xs)) rest = if xs.length = P.cellsOf ft ∧ off + xs.length ≤ cs.length then fillPV P ty (cs.take off ++ xs ++ cs.drop (off + xs.length)) rest else none := (rfl)
theorem u_fill_bool {rest : List (Nat × L)} {v : Bool} : fillT P ty cs (some (off, ft)) (.p (.bool v)) rest = if 1 = P.cellsOf ft ∧ off + 1 ≤ cs.length then fillPV P ty (cs.set off (.bool v)) rest else none := (rfl)
theorem u_fill_int {rest : List (Nat × L)} : fillT P ty cs (some (off, ft)) (.p (.int k a)) rest = if 1 = P.cellsOf ft ∧ off + 1 ≤ cs.length then fillPV P ty (cs.set off (.int k a)) rest else none := (rfl)
theorem u_fill_str {rest : List (Nat × L)} : fillT P ty cs (some (off, ft)) (.p (.str x)) rest = if 1 = P.cellsOf ft ∧ off + 1 ≤ cs.length then fillPV P ty (cs.set off (.str x)) rest else none := (rfl)
theorem u_fill_sl {rest : List (Nat × L)} : fillT P ty cs (some (off, ft)) (.p (.sl es)) rest = if 1 = P.cellsOf ft ∧ off + 1 ≤ cs.length then fillPV P ty (cs.set off (.sl es)) rest else none := (rfl)
theorem u_fill_snil {rest : List (Nat × L)} : fillT P ty cs (some (off, ft)) (.p .snil) rest = if 1 = P.cellsOf ft ∧ off + 1 ≤ cs.length then fillPV P ty (cs.set off .snil) rest else none := (rfl)

/-! ### Memory -/
def kalloc (d : Nat) (T : TypeId) (s : St) (J : St → Prop) (zs : List PV) : Prop := J ((s.newReg d (.var T (zs.map .p))).put (some d) (.ptr d 0 0))
theorem u_kalloc {zs : List PV} : kalloc d T ⟨t, r⟩ J zs = J ((St.newReg d (.var T (zs.map .p)) ⟨t, r⟩).put (some d) (.ptr d 0 0)) := (rfl)
theorem u_alloc : lalloc P d T ⟨t, r⟩ J = (d < 1000 ∧ whenS (zeroPV P T) (kalloc d T ⟨t, r⟩ J)) := (rfl)
def kbox (d : Nat) (T : TypeId) (s : St) (J : St → Prop) (xs : List L) : Prop := J ((s.newReg d (.var T (xs.map (L.forget d)))).put (some d) (.ptr d 0 0))
theorem u_kbox {xs : List L} : kbox d T ⟨t, r⟩ J xs = J ((St.newReg d (.var T (xs.map (L.forget d))) ⟨t, r⟩).put (some d) (.ptr d 0 0)) := (rfl)
theorem u_box {o : Operand} : lbox d T ⟨t, r⟩ o J = (d < 1000 ∧ whenS (cellsL ((St.mk t r).get o)) (kbox d T ⟨t, r⟩ J)) := (rfl)
theorem u_newReg {q : Reg} : St.newReg d q ⟨t, r⟩ = ⟨t.map (L.forget d), (d, q) :: dropReg d r⟩ := (rfl)
theorem u_forget : St.forget d ⟨t, r⟩ = ⟨t.map (L.forget d), dropReg d r⟩ := (rfl)
theorem cell_agg {ps : List PV} : cellsL (.p (.agg ps)) = some (ps.map .p) := (rfl)
theorem cell_bool {c : Bool} : cellsL (.p (.bool c)) = some [.p (.bool c)] := (rfl)
theorem cell_int : cellsL (.p (.int k a)) = some [.p (.int k a)] := (rfl)
theorem cell_str : cellsL (.p (.str x)) = some [.p (.str x)] := (rfl)
theorem cell_sl : cellsL (.p (.sl es)) = some [.p (.sl es)] := (rfl)
theorem cell_snil : cellsL (.p .snil) = some [.p .snil] := (rfl)
theorem cell_nptr : cellsL (.p .nptr) = some [.p .nptr] := (rfl)
theorem cell_own {o m : Nat} : cellsL (.own d o m) = some [.own d o m] := (rfl)
theorem cell_ptr : cellsL (.ptr d i j) = some [.ptr d i j] := (rfl)
theorem cell_fn {g : FuncId} {ids : List Nat} : cellsL (.fn g ids) = some [.fn g ids] := (rfl)

def kst (P : Program) (ty : TypeId) (d i j : Nat) (T : TypeId) (cs : List L) (s : St) (J : St → Prop) (xs : List L) : Prop :=
  i = 0 ∧ xs.length = P.cellsOf ty ∧ P.cellsOf ty ≠ 0 ∧ j + xs.length ≤ cs.length ∧ J { s with regs := setReg d (.var T (cs.take j ++ xs ++ cs.drop (j + xs.length))) s.regs }
theorem u_kst {xs : List L} : kst P ty d i j T ls ⟨t, r⟩ J xs = (i = 0 ∧ xs.length = P.cellsOf ty ∧ P.cellsOf ty ≠ 0 ∧ j + xs.length ≤ ls.length ∧ J ⟨t, setReg d (.var T (ls.take j ++ xs ++ ls.drop (j + xs.length))) r⟩) := (rfl)
def kst3 (P : Program) (ty : TypeId) (a : Operand) (d i j : Nat) (T : TypeId) (sz : Nat) (es : List (List PV)) (s : St) (J : St → Prop) (ps : List PV) (e : List PV) : Prop :=
  ps.length = P.cellsOf ty ∧ P.cellsOf ty ≠ 0 ∧ j + ps.length ≤ e.length ∧ findReg d s.regs = some (.row T sz es) ∧ s.get a = .ptr d i j ∧ J { s with regs := setReg d (.row T sz (es.set i (e.take j ++ ps ++ e.drop (j + ps.length)))) s.regs }
theorem u_kst3 {o : Operand} {ps c : List PV} : kst3 P ty o d i j T sz es ⟨t, r⟩ J ps c = (ps.length = P.cellsOf ty ∧ P.cellsOf ty ≠ 0 ∧ j + ps.length ≤ c.length ∧ findReg d r = some (.row T sz es) ∧ (St.mk t r).get o = .ptr d i j ∧ J ⟨t, setReg d (.row T sz (es.set i (c.take j ++ ps ++ c.drop (j + ps.length)))) r⟩) := (rfl)
def kst2 (P : Program) (ty : TypeId) (a : Operand) (d i j : Nat) (T : TypeId) (sz : Nat) (es : List (List PV)) (s : St) (J : St → Prop) (ps : List PV) : Prop := getE (es[i]?) (kst3 P ty a d i j T sz es s J ps)
theorem u_kst2 {o : Operand} {ps : List PV} : kst2 P ty o d i j T sz es ⟨t, r⟩ J ps = getE (es[i]?) (kst3 P ty o d i j T sz es ⟨t, r⟩ J ps) := (rfl)
def kst1 (P : Program) (ty : TypeId) (a : Operand) (d i j : Nat) (T : TypeId) (sz : Nat) (es : List (List PV)) (s : St) (J : St → Prop) (xs : List L) : Prop := whenS (allSome L.pure? xs) (kst2 P ty a d i j T sz es s J)
theorem u_kst1 {o : Operand} {xs : List L} : kst1 P ty o d i j T sz es ⟨t, r⟩ J xs = whenS (allSome L.pure? xs) (kst2 P ty o d i j T sz es ⟨t, r⟩ J) := (rfl)
def strow (P : Program) (ty : TypeId) (a x : Operand) (d i j : Nat) (T : TypeId) (sz : Nat) (es : List (List PV)) (J : St → Prop) (s : St) : Prop := whenS (cellsL (s.get x)) (kst1 P ty a d i j T sz es s J)
theorem u_strow {o q : Operand} : strow P ty o q d i j T sz es J ⟨t, r⟩ = whenS (cellsL ((St.mk t r).get q)) (kst1 P ty o d i j T sz es ⟨t, r⟩ J) := (rfl)
def stR (P : Program) (ty : TypeId) (s : St) (a x : Operand) (d i j : Nat) (J : St → Prop) (q : Option Reg) : Prop :=
  match q with
  | some (.var T cs) => whenS (cellsL (s.get x)) (kst P ty d i j T cs s J)
  | some (.row T sz es) => strow P ty a x d i j T sz es J (s.freezeOps [x])
  | none => False
def stA (P : Program) (ty : TypeId) (s : St) (a x : Operand) (J : St → Prop) (la : L) : Prop :=
  match la with
  | .ptr d i j => stR P ty s a x d i j J (findReg d s.regs)
  | _ => False
theorem u_store {o q : Operand} : lstore P ty ⟨t, r⟩ o q J = stA P ty ⟨t, r⟩ o q J ((St.mk t r).get o) := by
  unfold lstore stA stR strow kst1 kst2 kst3 kst whenS getE
  apply pe
  cases (St.mk t r).get o with
  | ptr d i j =>
    simp only
    cases findReg d r with
    | none => exact Iff.rfl
    | some g =>
      cases g with
      | var T cs => exact Iff.rfl
      | row T sz es => exact Iff.rfl
  | _ => exact Iff.rfl
theorem u_stA {o q : Operand} : stA P ty ⟨t, r⟩ o q J (.ptr d i j) = stR P ty ⟨t, r⟩ o q d i j J (findReg d r) := (rfl)
theorem u_stR_var {o q : Operand} : stR P ty ⟨t, r⟩ o q d i j J (some (.var T ls)) = whenS (cellsL ((St.mk t r).get q)) (kst P ty d i j T ls ⟨t, r⟩ J) := (rfl)
theorem u_stR_row {o q : Operand} : stR P ty ⟨t, r⟩ o q d i j J (some (.row T sz es)) = strow P ty o q d i j T sz es J (St.freezeOps ⟨t, r⟩ [q]) := (rfl)

/-! ### Slices that are given up -/
def frz (s : St) (xs : List Operand) : L → St
  | .own d _ _ => if d < 1000 then (s.freeze d).freezeOps xs else s.freezeOps xs
  | _ => s.freezeOps xs
theorem u_frz_nil : St.freezeOps ⟨t, r⟩ [] = ⟨t, r⟩ := (rfl)
theorem u_frz_cons {o : Operand} {os : List Operand} : St.freezeOps ⟨t, r⟩ (o :: os) = frz ⟨t, r⟩ os ((St.mk t r).get o) := by
  simp only [St.freezeOps, frz]
  cases (St.mk t r).get o <;> rfl
theorem u_frz_p {os : List Operand} {v : PV} : frz ⟨t, r⟩ os (.p v) = St.freezeOps ⟨t, r⟩ os := (rfl)
theorem u_frz_ptr {os : List Operand} : frz ⟨t, r⟩ os (.ptr d i j) = St.freezeOps ⟨t, r⟩ os := (rfl)
theorem u_frz_eptr {os : List Operand} : frz ⟨t, r⟩ os (.eptr cs) = St.freezeOps ⟨t, r⟩ os := (rfl)
theorem u_frz_fn {os : List Operand} {g : FuncId} {ids : List Nat} : frz ⟨t, r⟩ os (.fn g ids) = St.freezeOps ⟨t, r⟩ os := (rfl)
theorem u_frz_tup {os : List Operand} {xs : List PV} : frz ⟨t, r⟩ os (.tup xs) = St.freezeOps ⟨t, r⟩ os := (rfl)
theorem u_frz_own {os : List Operand} {o m : Nat} : frz ⟨t, r⟩ os (.own d o m) = if d < 1000 then (St.freeze d ⟨t, r⟩).freezeOps os else St.freezeOps ⟨t, r⟩ os := (rfl)
def frz1 (d : Nat) (s : St) : Option Reg → St
  | some (.row _ _ es) => ⟨s.tmps.map (L.freeze d es), freezeRegs d es s.regs⟩
  | _ => s
theorem u_freeze : St.freeze d ⟨t, r⟩ = frz1 d ⟨t, r⟩ (findReg d r) := by
  unfold St.freeze frz1
  simp only
  cases findReg d r with
  | none => rfl
  | some g => cases g <;> rfl
theorem u_frz1_row : frz1 d ⟨t, r⟩ (some (.row T sz es)) = ⟨t.map (L.freeze d es), freezeRegs d es r⟩ := (rfl)

/-! ### Calls -/
def kcl (dst : Option Tmp) (J : St → Prop) (s : St) (l : L) (rs' : Regs) : Prop := J ((s.after rs').put dst l)
theorem u_kcl {dst : Option Tmp} {l : L} {rs' : Regs} : kcl dst J ⟨t, r⟩ l rs' = J ((St.mk t (setRegs rs' r)).put dst l) := (rfl)
def callS (X : Cx) (g : FuncId) (ids : List Nat) (args : List Operand) (dst : Option Tmp) (J : St → Prop) (s : St) : Prop :=
  LCalls X g ((args.map s.get ++ ids.map fun d => L.ptr d 0 0).map L.shift) (shiftRegs (restrict (reachIds 2 ((args.map s.get).flatMap L.ids ++ ids) s.regs) s.regs)) (kcl dst J s)
def callT (X : Cx) (s : St) (args : List Operand) (dst : Option Tmp) (J : St → Prop) (l : L) : Prop :=
  match l with
  | .fn g ids => callS X g ids args dst J (s.freezeOps args)
  | _ => False
theorem u_call {f : Operand} {args : List Operand} {dst : Option Tmp} : lcall X ⟨t, r⟩ f args (kcall dst J) = callT X ⟨t, r⟩ args dst J ((St.mk t r).get f) := by
  unfold lcall callT callS kcl kcall
  rfl
theorem u_callT {args : List Operand} {dst : Option Tmp} {g : FuncId} {ids : List Nat} : callT X ⟨t, r⟩ args dst J (.fn g ids) = callS X g ids args dst J (St.freezeOps ⟨t, r⟩ args) := (rfl)
theorem u_callS {args : List Operand} {dst : Option Tmp} {g : FuncId} {ids : List Nat} : callS X g ids args dst J ⟨t, r⟩ =
    LCalls X g ((args.map (St.mk t r).get ++ ids.map fun d => L.ptr d 0 0).map L.shift) (shiftRegs (restrict (reachIds 2 ((args.map (St.mk t r).get).flatMap L.ids ++ ids) r) r)) (kcl dst J ⟨t, r⟩) := (rfl)

/-! ### Rows that are made -/
def kmk (d : Nat) (e : TypeId) (sz : Nat) (s : St) (n : Nat) (J : St → Prop) (zs : List PV) : Prop := zs.length = sz ∧ J ((s.newReg d (.row e sz (List.replicate n zs))).put (some d) (.own d 0 n))
theorem u_kmk {zs : List PV} : kmk d e sz ⟨t, r⟩ n J zs = (zs.length = sz ∧ J ((St.newReg d (.row e sz (List.replicate n zs)) ⟨t, r⟩).put (some d) (.own d 0 n))) := (rfl)
def fits (b : Option Nat) (c lim : Int) : Prop := ∃ x, b = some x ∧ (x : Int) * c ≤ lim
theorem u_fits {x : Nat} {c lim : Int} : fits (some x) c lim = ((x : Int) * c ≤ lim) := pe ⟨fun ⟨_, h, hc⟩ => by cases h; exact hc, fun h => ⟨x, rfl, h⟩⟩
def mkT (P : Program) (d : Nat) (o : Option (TypeId × Nat)) (s : St) (l c : L) (J : St → Prop) : Prop :=
  match o, l, c with
  | some (e, sz), .p (.int _ l), .p (.int _ c) => 0 ≤ l ∧ l ≤ c ∧ fits (bytesOf' P e) c 281474976710656 ∧ c ≤ 9223372036854775807 ∧ whenS (zeroPV P e) (kmk d e sz s l.toNat J)
  | _, _, _ => False
theorem u_makeSlice {l c : Operand} : lmakeSlice P d ty ⟨t, r⟩ l c J = (d < 1000 ∧ mkT P d (slE P ty) ⟨t, r⟩ ((St.mk t r).get l) ((St.mk t r).get c) J) := by
  unfold lmakeSlice mkT fits whenS kmk
  rfl
theorem u_mkT : mkT P d (some (e, sz)) ⟨t, r⟩ (.p (.int k a)) (.p (.int k' b)) J = (0 ≤ a ∧ a ≤ b ∧ fits (bytesOf' P e) b 281474976710656 ∧ b ≤ 9223372036854775807 ∧ whenS (zeroPV P e) (kmk d e sz ⟨t, r⟩ a.toNat J)) := (rfl)

def kbs2 (d : Nat) (e : TypeId) (sz n : Nat) (s : St) (J : St → Prop) (es : List (List PV)) : Prop := J ((s.newReg d (.row e sz es)).put (some d) (.own d 0 n))
theorem u_kbs2 : kbs2 d e sz n ⟨t, r⟩ J es = J ((St.newReg d (.row e sz es) ⟨t, r⟩).put (some d) (.own d 0 n)) := (rfl)
def kbs (d : Nat) (e : TypeId) (sz n : Nat) (parts : List (Nat × Operand)) (J : St → Prop) (s : St) : Prop :=
  idxOK 0 (parts.map fun (i, x) => (i, s.get x)) = true ∧ whenS (partsPV sz (parts.map fun (i, x) => (i, s.get x))) (kbs2 d e sz n s J)
theorem u_kbs {parts : List (Nat × Operand)} : kbs d e sz n parts J ⟨t, r⟩ = (idxOK 0 (parts.map fun (i, x) => (i, (St.mk t r).get x)) = true ∧ whenS (partsPV sz (parts.map fun (i, x) => (i, (St.mk t r).get x))) (kbs2 d e sz n ⟨t, r⟩ J)) := (rfl)
def zok (o : Option (List PV)) (sz : Nat) : Prop := ∃ zs, o = some zs ∧ zs.length = sz
theorem u_zok {zs : List PV} : zok (some zs) sz = (zs.length = sz) := pe ⟨fun ⟨_, h, hc⟩ => by cases h; exact hc, fun h => ⟨zs, rfl, h⟩⟩
def bsT (P : Program) (d : Nat) (o : Option (TypeId × Nat)) (n : Nat) (s : St) (parts : List (Nat × Operand)) (J : St → Prop) : Prop :=
  match o with
  | some (e, sz) => n * sz ≤ 16777216 ∧ zok (zeroPV P e) sz ∧ parts.length = n ∧ kbs d e sz n parts J (s.freezeOps (parts.map (·.2)))
  | none => False
theorem u_buildSlice {parts : List (Nat × Operand)} : lbuildSlice P d ty n ⟨t, r⟩ parts J = (d < 1000 ∧ n ≤ 16777216 ∧ bsT P d (slE P ty) n ⟨t, r⟩ parts J) := by
  unfold lbuildSlice bsT kbs kbs2 whenS zok
  rfl
theorem u_bsT {parts : List (Nat × Operand)} : bsT P d (some (e, sz)) n ⟨t, r⟩ parts J = (n * sz ≤ 16777216 ∧ zok (zeroPV P e) sz ∧ parts.length = n ∧ kbs d e sz n parts J (St.freezeOps ⟨t, r⟩ (parts.map (·.2)))) := (rfl)

theorem idx_nil : idxOK n [] = true := (rfl)
theorem idx_cons {x : L} {rest : List (Nat × L)} : idxOK n ((i, x) :: rest) = (i == n && idxOK (n + 1) rest) := (rfl)
def ppA : Option (List L) → Option (List PV)
  | some xs => allSome L.pure? xs
  | none => none
theorem ppA_some {xs : List L} : ppA (some xs) = allSome L.pure? xs := (rfl)
def ppC (sz : Nat) (o : Option (List PV)) (os : Option (List (List PV))) : Option (List (List PV)) :=
  match o, os with
  | some ps, some es => if ps.length = sz then some (ps :: es) else none
  | _, _ => none
theorem ppC_some {ps : List PV} : ppC sz (some ps) (some es) = if ps.length = sz then some (ps :: es) else none := (rfl)
theorem pp_nil : partsPV sz [] = some [] := (rfl)
theorem pp_cons {x : L} {rest : List (Nat × L)} : partsPV sz ((i, x) :: rest) = ppC sz (ppA (cellsL x)) (partsPV sz rest) := by
  simp only [partsPV, ppC, ppA]
  cases cellsL x with
  | none => rfl
  | some xs =>
    simp only
    cases allSome L.pure? xs with
    | none => rfl
    | some ps =>
      simp only
      cases partsPV sz rest with
      | none => split <;> rfl
      | some es => rfl
def ksl (K : L → Prop) (es : List (List PV)) : Prop := K (.p (.sl es))
theorem u_ksl : ksl K es = K (.p (.sl es)) := (rfl)
def qbT (P : Program) (s : St) (n : Nat) (parts : List (Nat × Operand)) (K : L → Prop) (o : Option (TypeId × Nat)) : Prop :=
  match o with
  | some (e, sz) => n * sz ≤ 16777216 ∧ zok (zeroPV P e) sz ∧ parts.length = n ∧ idxOK 0 (parts.map fun (i, x) => (i, s.get x)) = true ∧ whenS (partsPV sz (parts.map fun (i, x) => (i, s.get x))) (ksl K)
  | none => False
theorem u_lqbs {parts : List (Nat × Operand)} : lqbs P ⟨t, r⟩ ty n parts K = qbT P ⟨t, r⟩ n parts K (slE P ty) := by
  unfold lqbs qbT zok whenS ksl
  apply pe
  constructor
  · rintro ⟨e, sz, h, h'⟩
    rw [h]; exact h'
  · intro h
    split at h
    · rename_i e sz he; exact ⟨e, sz, he, h⟩
    · exact h.elim
theorem u_qbT {parts : List (Nat × Operand)} : qbT P ⟨t, r⟩ n parts K (some (e, sz)) = (n * sz ≤ 16777216 ∧ zok (zeroPV P e) sz ∧ parts.length = n ∧ idxOK 0 (parts.map fun (i, x) => (i, (St.mk t r).get x)) = true ∧ whenS (partsPV sz (parts.map fun (i, x) => (i, (St.mk t r).get x))) (ksl K)) := (rfl)
def apX (P : Program) (d : Nat) (e sz : Nat) (s : St) (lx : L) (J : St → Prop) (es' : List (List PV)) : Prop :=
  (∀ q ∈ es', q.length = sz) ∧ match lx with
    | .own d0 0 n => match findReg d0 s.regs with
      | some (.row T sz' es) => d0 < 1000 ∧ T = e ∧ sz' = sz ∧ es.length = n ∧ (∃ b, bytesOf' P e = some b ∧ (n + es'.length) * b ≤ 140737488355328) ∧ n + es'.length ≤ 9223372036854775807 ∧
          J (((s.forget d0).newReg d (.row e sz (es ++ es'))).put (some d) (.own d 0 (n + es'.length)))
      | _ => False
    | .p .snil => (∃ b, bytesOf' P e = some b ∧ es'.length * b ≤ 140737488355328) ∧ es'.length ≤ 9223372036854775807 ∧ J ((s.newReg d (.row e sz es')).put (some d) (.own d 0 es'.length))
    | _ => False
def apR (b : Option Nat) (d : Nat) (e sz : Nat) (s : St) (d0 n : Nat) (J : St → Prop) (es' : List (List PV)) (q : Option Reg) : Prop :=
  match q with
  | some (.row T sz' es) => d0 < 1000 ∧ T = e ∧ sz' = sz ∧ es.length = n ∧ fitsN b (n + es'.length) ∧ n + es'.length ≤ 9223372036854775807 ∧
          J (((s.forget d0).newReg d (.row e sz (es ++ es'))).put (some d) (.own d 0 (n + es'.length)))
  | _ => False
  where fitsN (b : Option Nat) (m : Nat) : Prop := ∃ x, b = some x ∧ m * x ≤ 140737488355328
theorem u_fitsN {m x : Nat} : apR.fitsN (some x) m = (m * x ≤ 140737488355328) := pe ⟨fun ⟨_, h, hc⟩ => by cases h; exact hc, fun h => ⟨x, rfl, h⟩⟩
def apT (P : Program) (d : Nat) (o : Option (TypeId × Nat)) (s : St) (lx ly : L) (J : St → Prop) : Prop :=
  match o with
  | some (e, sz) => zok (zeroPV P e) sz ∧ whenS (srcOf s ly) (apX P d e sz s lx J)
  | none => False
theorem u_append {t1 t2 : TypeId} {o q : Operand} : lappend P d t1 t2 ⟨t, r⟩ o q J = (d < 1000 ∧ t1 = t2 ∧ apT P d (slE P t1) ⟨t, r⟩ ((St.mk t r).get o) ((St.mk t r).get q) J) := by
  unfold lappend apT apX zok whenS
  rfl
theorem u_apT {lx ly : L} : apT P d (some (e, sz)) ⟨t, r⟩ lx ly J = (zok (zeroPV P e) sz ∧ whenS (srcOf ⟨t, r⟩ ly) (apX P d e sz ⟨t, r⟩ lx J)) := (rfl)
theorem u_apX_own {d0 : Nat} : apX P d e sz ⟨t, r⟩ (.own d0 0 n) J es = ((∀ q ∈ es, q.length = sz) ∧ apR (bytesOf' P e) d e sz ⟨t, r⟩ d0 n J es (findReg d0 r)) := by
  unfold apX apR apR.fitsN
  rfl
theorem u_apX_nil : apX P d e sz ⟨t, r⟩ (.p .snil) J es = ((∀ q ∈ es, q.length = sz) ∧ apR.fitsN (bytesOf' P e) es.length ∧ es.length ≤ 9223372036854775807 ∧ J ((St.newReg d (.row e sz es) ⟨t, r⟩).put (some d) (.own d 0 es.length))) := (rfl)
theorem u_apR {bb : Option Nat} {es' : List (List PV)} {d0 sz' : Nat} : apR bb d e sz ⟨t, r⟩ d0 n J es' (some (.row T sz' es)) = (d0 < 1000 ∧ T = e ∧ sz' = sz ∧ es.length = n ∧ apR.fitsN bb (n + es'.length) ∧ n + es'.length ≤ 9223372036854775807 ∧
          J ((St.newReg d (.row e sz (es ++ es')) (St.forget d0 ⟨t, r⟩)).put (some d) (.own d 0 (n + es'.length)))) := (rfl)
theorem u_src_sl : srcOf ⟨t, r⟩ (.p (.sl es)) = some es := (rfl)
theorem u_src_nil : srcOf ⟨t, r⟩ (.p .snil) = some [] := (rfl)
def srcR (off len : Nat) : Option Reg → Option (List (List PV))
  | some (.row _ _ es) => if off + len ≤ es.length then some ((es.drop off).take len) else none
  | _ => none
theorem u_src_own {o m : Nat} : srcOf ⟨t, r⟩ (.own d o m) = srcR o m (findReg d r) := by
  unfold srcOf srcR
  simp only
  cases findReg d r with
  | none => rfl
  | some g => cases g <;> rfl
theorem u_srcR {o m : Nat} : srcR o m (some (.row T sz es)) = if o + m ≤ es.length then some ((es.drop o).take m) else none := (rfl)

/-! ### Results -/
theorem u_kpure {C : PV → Prop} {v : PV} : kpure C (.p v) = C v := (rfl)
def kr2 (C : List PV → Prop) (x : PV) (xs : List PV) : Prop := C (x :: xs)
def kr1 (P : Program) (s : St) (l : List ResultVar) (C : List PV → Prop) (x : PV) : Prop := resPV P s l (kr2 C x)
theorem u_kr2 {C : List PV → Prop} {v : PV} : kr2 C v cs = C (v :: cs) := (rfl)
theorem u_kr1 {C : List PV → Prop} {v : PV} {l : List ResultVar} : kr1 P ⟨t, r⟩ l C v = resPV P ⟨t, r⟩ l (kr2 C v) := (rfl)
theorem u_res_nil {C : List PV → Prop} : resPV P ⟨t, r⟩ [] C = C [] := (rfl)
theorem u_res_tmp {C : List PV → Prop} {l : List ResultVar} : resPV P ⟨t, r⟩ (.tmp i :: l) C = kpure (kr1 P ⟨t, r⟩ l C) (t.getD i .junk) := (rfl)
theorem u_res_cell {C : List PV → Prop} {l : List ResultVar} : resPV P ⟨t, r⟩ (.cell i T :: l) C = lload P r T (t.getD i .junk) (kpure (kr1 P ⟨t, r⟩ l C)) := (rfl)
theorem u_kres {keys : List Nat} {Post : L → Regs → Prop} : kres keys Post r cs = (r.map (·.1) = keys ∧ Post (asRes cs) r) := (rfl)
def lret3 (P : Program) (rvs : List ResultVar) (keys : List Nat) (Post : L → Regs → Prop) (s : St) : Prop := resPV P s rvs (kres keys Post (keepRegs s.regs))
theorem u_ret {rvs : List ResultVar} {keys : List Nat} {Post : L → Regs → Prop} : lret2 P rvs keys Post ⟨t, r⟩ = lret3 P rvs keys Post (St.freezeOps ⟨t, r⟩ (resOps rvs)) := (rfl)
theorem u_ret3 {rvs : List ResultVar} {keys : List Nat} {Post : L → Regs → Prop} : lret3 P rvs keys Post ⟨t, r⟩ = resPV P ⟨t, r⟩ rvs (kres keys Post (keepRegs r)) := (rfl)
theorem u_resOps_nil : resOps [] = [] := (rfl)
theorem u_resOps_tmp {l : List ResultVar} : resOps (.tmp i :: l) = .tmp i :: resOps l := (rfl)
theorem u_resOps_cell {l : List ResultVar} : resOps (.cell i T :: l) = resOps l := (rfl)
theorem u_asRes1 {v : PV} : asRes [v] = .p v := (rfl)
theorem u_asRes0 : asRes [] = .tup [] := (rfl)
theorem u_asRes2 {v w : PV} : asRes (v :: w :: cs) = .tup (v :: w :: cs) := (rfl)
theorem u_keep_nil : keepRegs [] = [] := (rfl)
theorem u_keep_cons {q : Reg} : keepRegs ((d, q) :: r) = if 1000 ≤ d then (d, q) :: keepRegs r else keepRegs r := (rfl)

/-! ### Regions -/
variable {q : Reg}
theorem u_find_nil : findReg d [] = none := (rfl)
theorem u_find_cons : findReg d ((i, q) :: r) = if i = d then some q else findReg d r := (rfl)
theorem u_drop_nil : dropReg d [] = [] := (rfl)
theorem u_drop_cons : dropReg d ((i, q) :: r) = if i = d then dropReg d r else (i, q.forget d) :: dropReg d r := (rfl)
theorem u_set_nil : setReg d q [] = [] := (rfl)
theorem u_set_cons {q' : Reg} : setReg d q ((i, q') :: r) = if i = d then (i, q) :: r else (i, q') :: setReg d q r := (rfl)
theorem u_frzR_nil : freezeRegs d es [] = [] := (rfl)
theorem u_frzR_cons : freezeRegs d es ((i, q) :: r) = if i = d then freezeRegs d es r else (i, q.freeze d es) :: freezeRegs d es r := (rfl)
theorem u_fg_var : Reg.forget d (.var T ls) = .var T (ls.map (L.forget d)) := (rfl)
theorem u_fg_row : Reg.forget d (.row T sz es) = .row T sz es := (rfl)
theorem u_fz_var : Reg.freeze d es (.var T ls) = .var T (ls.map (L.freeze d es)) := (rfl)
theorem u_fz_row {es' : List (List PV)} : Reg.freeze d es (.row T sz es') = .row T sz es' := (rfl)
theorem u_f_p {v : PV} : L.forget d (.p v) = .p v := (rfl)
theorem u_f_junk : L.forget d .junk = .junk := (rfl)
theorem u_f_tup {xs : List PV} : L.forget d (.tup xs) = .tup xs := (rfl)
theorem u_f_eptr : L.forget d (.eptr cs) = .eptr cs := (rfl)
theorem u_f_ptr {e : Nat} : L.forget d (.ptr e i j) = if e = d then .junk else .ptr e i j := by simp [L.forget, L.mentions]
theorem u_f_own {e : Nat} {o m : Nat} : L.forget d (.own e o m) = if e = d then .junk else .own e o m := by simp [L.forget, L.mentions]
theorem u_f_fn {g : FuncId} {ids : List Nat} : L.forget d (.fn g ids) = if ids.contains d = true then .junk else .fn g ids := (rfl)
theorem u_z_p {v : PV} : L.freeze d es (.p v) = .p v := (rfl)
theorem u_z_junk : L.freeze d es .junk = .junk := (rfl)
theorem u_z_tup {xs : List PV} : L.freeze d es (.tup xs) = .tup xs := (rfl)
theorem u_z_eptr : L.freeze d es (.eptr cs) = .eptr cs := (rfl)
theorem u_z_ptr {e : Nat} : L.freeze d es (.ptr e i j) = if e = d then .junk else .ptr e i j := (rfl)
theorem u_z_own {e o m : Nat} : L.freeze d es (.own e o m) = if e = d then (if o + m ≤ es.length then .p (.sl ((es.drop o).take m)) else .junk) else .own e o m := (rfl)
theorem u_z_fn {g : FuncId} {ids : List Nat} : L.freeze d es (.fn g ids) = if ids.contains d = true then .junk else .fn g ids := (rfl)
theorem u_sh_p {v : PV} : L.shift (.p v) = .p v := (rfl)
theorem u_sh_eptr : L.shift (.eptr cs) = .eptr cs := (rfl)
theorem u_sh_tup {xs : List PV} : L.shift (.tup xs) = .tup xs := (rfl)
theorem u_sh_junk : L.shift .junk = .junk := (rfl)
theorem u_sh_ptr : L.shift (.ptr d i j) = .ptr (d + 1000) i j := (rfl)
theorem u_sh_own {o m : Nat} : L.shift (.own d o m) = .own (d + 1000) o m := (rfl)
theorem u_sh_fn {g : FuncId} {ids : List Nat} : L.shift (.fn g ids) = .fn g (ids.map (· + 1000)) := (rfl)
theorem u_us_p {v : PV} : L.unshift (.p v) = .p v := (rfl)
theorem u_us_eptr : L.unshift (.eptr cs) = .eptr cs := (rfl)
theorem u_us_tup {xs : List PV} : L.unshift (.tup xs) = .tup xs := (rfl)
theorem u_us_junk : L.unshift .junk = .junk := (rfl)
theorem u_us_ptr : L.unshift (.ptr d i j) = if d < 1000 then .junk else .ptr (d - 1000) i j := (rfl)
theorem u_us_own {o m : Nat} : L.unshift (.own d o m) = if d < 1000 then .junk else .own (d - 1000) o m := (rfl)
theorem u_us_fn {g : FuncId} {ids : List Nat} : L.unshift (.fn g ids) = if ids.all (fun d => decide (1000 ≤ d)) = true then .fn g (ids.map (· - 1000)) else .junk := (rfl)
theorem u_rsh_var : Reg.shift (.var T ls) = .var T (ls.map L.shift) := (rfl)
theorem u_rsh_row : Reg.shift (.row T sz es) = .row T sz es := (rfl)
theorem u_rus_var : Reg.unshift (.var T ls) = .var T (ls.map L.unshift) := (rfl)
theorem u_rus_row : Reg.unshift (.row T sz es) = .row T sz es := (rfl)
theorem u_shr_nil : shiftRegs [] = [] := (rfl)
theorem u_shr_cons : shiftRegs ((d, q) :: r) = (d + 1000, q.shift) :: shiftRegs r := (rfl)
theorem u_rst_nil {ids : List Nat} : restrict ids [] = [] := (rfl)
theorem u_rst_cons {ids : List Nat} : restrict ids ((d, q) :: r) = if ids.contains d = true then (d, q) :: restrict ids r else restrict ids r := (rfl)
theorem restrict_nil : ∀ (r : Regs), restrict [] r = []
  | [] => rfl
  | (d, q) :: r => by simp [restrict, restrict_nil r]
theorem u_reach0 {ids : List Nat} : reachIds 0 ids r = ids := (rfl)
theorem u_reach_nil : reachIds (n + 1) [] r = [] := (rfl)
def regIds : Regs → List Nat
  | [] => []
  | (_, q) :: rest => q.ids ++ regIds rest
theorem regIds_eq : ∀ (r : Regs), (r.flatMap fun x => x.2.ids) = regIds r
  | [] => rfl
  | (d, q) :: r => by simp [regIds, regIds_eq r]
theorem u_reach_cons {ids : List Nat} : reachIds (n + 1) (i :: ids) r = reachIds n ((i :: ids) ++ regIds (restrict (i :: ids) r)) r := by
  rw [← regIds_eq]; rfl
theorem u_regIds_nil : regIds [] = [] := (rfl)
theorem u_regIds_cons : regIds ((d, q) :: r) = q.ids ++ regIds r := (rfl)
theorem u_rid_var : Reg.ids (.var T ls) = ls.flatMap L.ids := (rfl)
theorem u_rid_row : Reg.ids (.row T sz es) = [] := (rfl)
theorem u_id_p {v : PV} : L.ids (.p v) = [] := (rfl)
theorem u_id_ptr : L.ids (.ptr d i j) = [d] := (rfl)
theorem u_id_own {o m : Nat} : L.ids (.own d o m) = [d] := (rfl)
theorem u_id_fn {g : FuncId} {ids : List Nat} : L.ids (.fn g ids) = ids := (rfl)
theorem u_id_eptr : L.ids (.eptr cs) = [] := (rfl)
theorem u_id_tup {xs : List PV} : L.ids (.tup xs) = [] := (rfl)
theorem u_id_junk : L.ids .junk = [] := (rfl)
theorem u_setr_nil : setRegs [] r = r := (rfl)
theorem u_setr_cons {rs : Regs} : setRegs ((d, q) :: rs) r = setRegs rs (setReg (d - 1000) q.unshift r) := (rfl)
theorem u_all_nil {α γ : Type} {f : α → Option γ} : allSome f [] = some [] := (rfl)
def consO {γ : Type} (o : Option γ) (os : Option (List γ)) : Option (List γ) :=
  match o with
  | some b => match os with
    | some bs => some (b :: bs)
    | none => none
  | none => none
theorem u_consO {γ : Type} {b : γ} {bs : List γ} : consO (some b) (some bs) = some (b :: bs) := (rfl)
theorem u_all_cons {α γ : Type} {f : α → Option γ} {a : α} {l : List α} : allSome f (a :: l) = consO (f a) (allSome f l) := (rfl)
theorem u_pure {v : PV} : L.pure? (.p v) = some v := (rfl)
end
end Go.LX
