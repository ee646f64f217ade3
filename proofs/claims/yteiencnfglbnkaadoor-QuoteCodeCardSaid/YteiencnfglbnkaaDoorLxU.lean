/- The operations on values that are written out: each by lemmas of its own; what comes behind is named, never a lambda. -/
import Derived.Test.YteiencnfglbnkaaDoorLxQ
set_option linter.unusedSimpArgs false
set_option linter.unusedVariables false
set_option linter.unusedSectionVars false
set_option linter.unnecessarySimpa false
namespace Go.LX
open Go Go.RowKit Go.Proofs

theorem pe {A B : Prop} (h : A ↔ B) : A = B := propext h

def whenS {α : Type} (o : Option α) (C : α → Prop) : Prop := ∃ a, o = some a ∧ C a
theorem whenS_some {α : Type} {a : α} {C : α → Prop} : whenS (some a) C = C a := pe ⟨fun ⟨_, h, hc⟩ => by cases h; exact hc, fun h => ⟨a, rfl, h⟩⟩
/-- an element of a row, that is told by the row. -/
def getE {α : Type} (o : Option α) (C : α → Prop) : Prop := ∃ a, o = some a ∧ C a
theorem getE_some {α : Type} {a : α} {C : α → Prop} : getE (some a) C = C a := pe ⟨fun ⟨_, h, hc⟩ => by cases h; exact hc, fun h => ⟨a, rfl, h⟩⟩
theorem getE_get {α : Type} [Inhabited α] {l : List α} {i : Nat} {C : α → Prop} : getE (l[i]?) C = (i < l.length ∧ C (l.getD i default)) := by
  apply pe
  constructor
  · rintro ⟨a, h, hc⟩
    obtain ⟨h1, rfl⟩ := List.getElem?_eq_some_iff.1 h
    exact ⟨h1, by simpa [List.getD_eq_getElem?_getD, h1] using hc⟩
  · rintro ⟨h1, hc⟩
    exact ⟨l[i], List.getElem?_eq_getElem h1, by simpa [List.getD_eq_getElem?_getD, h1] using hc⟩
theorem getE_map {α γ : Type} [Inhabited α] {l : List α} {f : α → γ} {i : Nat} {C : γ → Prop} : getE ((l.map f)[i]?) C = (i < l.length ∧ C (f (l.getD i default))) := by
  apply pe
  rw [show getE ((l.map f)[i]?) C ↔ getE (l[i]?) (fun a => C (f a)) from Iff.of_eq ex_map, getE_get]
/-- a byte of a string. -/
def at_ (s : List UInt8) (i : Nat) : Nat := (s.getD i 0).toNat
theorem at_lt (s : List UInt8) (i : Nat) : at_ s i ≤ 255 := by
  have := (s.getD i 0).toNat_lt
  simp only [at_]; omega
theorem at_of {s : List UInt8} {i : Nat} {b : UInt8} (h : s[i]? = some b) : at_ s i = b.toNat := by simp [at_, List.getD_eq_getElem?_getD, h]
theorem at_get {s : List UInt8} {i : Nat} (h : i < s.length) : at_ s i = s[i].toNat := by simp [at_, List.getD_eq_getElem?_getD, h]

section
variable {X : Cx} {P : Program} {ro : Option Nat} {K : L → Prop} {J : St → Prop} {t : List L} {r : Regs} {ds : List (Option Tmp)}

theorem u_draw {id : Nat} {ops : Array Oper} {Q : Ex → St → Prop} : lwp X ro (.region id ops true) Q ⟨t, r⟩ = SWP X ro (.region id ops true) Q ⟨t, r⟩ := (rfl)
theorem w_leaf {ops : List Oper} {C : St → Prop} : lOrd X ds ops C .leaf ⟨t, r⟩ = C ⟨t, r⟩ := (rfl)
theorem w_nil {ops : List Oper} {C : St → Prop} : lOrd X ds ops C .nil ⟨t, r⟩ = True := (rfl)
theorem w_node {ops : List Oper} {C : St → Prop} {i : Nat} {sub next : Ord} : lOrd X ds ops C (.node i sub next) ⟨t, r⟩ = (lAt X ds ops i (lOrd X ds ops C sub) ⟨t, r⟩ ∧ lOrd X ds ops C next ⟨t, r⟩) := (rfl)
theorem w_at0 {o : Oper} {ops : List Oper} {C : St → Prop} : lAt X ds (o :: ops) 0 C ⟨t, r⟩ = lguard ds o.guard (lop X o C) (kunit o.dst C) ⟨t, r⟩ := (rfl)
theorem w_atS {o : Oper} {ops : List Oper} {C : St → Prop} {i : Nat} : lAt X ds (o :: ops) (i + 1) C ⟨t, r⟩ = lAt X ds ops i C ⟨t, r⟩ := (rfl)
theorem w_guard0 {A B : St → Prop} : lguard ds none A B ⟨t, r⟩ = A ⟨t, r⟩ := (rfl)
/-! ### Guards, conditions -/
theorem u_cond {b : Bool} {A B : St → Prop} : lcond (.p (.bool b)) A B ⟨t, r⟩ = if b = true then A ⟨t, r⟩ else B ⟨t, r⟩ := by
  cases b <;> simp [lcond]
def gsel (o : Option Tmp) (want : Bool) (A B : St → Prop) (s : St) : Prop :=
  match o with
  | some dj => match s.tmps.getD dj .junk with
    | .p (.bool c) => (c = want → A (s.put (some dj) (.p (.bool want)))) ∧ (c = (!want) → B (s.put (some dj) (.p (.bool (!want)))))
    | .tup [] => B s
    | _ => False
  | none => False
def gval (l : L) (dj : Tmp) (want : Bool) (A B : St → Prop) (s : St) : Prop :=
  match l with
  | .p (.bool c) => (c = want → A (s.put (some dj) (.p (.bool want)))) ∧ (c = (!want) → B (s.put (some dj) (.p (.bool (!want)))))
  | .tup [] => B s
  | _ => False
theorem u_guard {j : Nat} {want : Bool} {A B : St → Prop} : lguard ds (some (j, want)) A B ⟨t, r⟩ = gsel (ds.getD j none) want A B ⟨t, r⟩ := (rfl)
theorem u_gsel {dj : Tmp} {want : Bool} {A B : St → Prop} : gsel (some dj) want A B ⟨t, r⟩ = gval (t.getD dj .junk) dj want A B ⟨t, r⟩ := (rfl)
theorem u_gval_t {dj : Tmp} {c : Bool} {A B : St → Prop} : gval (.p (.bool c)) dj true A B ⟨t, r⟩ = if c = true then A ⟨t.set dj (.p (.bool true)), r⟩ else B ⟨t.set dj (.p (.bool false)), r⟩ := by
  cases c <;> simp [gval, St.put]
theorem u_gval_f {dj : Tmp} {c : Bool} {A B : St → Prop} : gval (.p (.bool c)) dj false A B ⟨t, r⟩ = if c = true then B ⟨t.set dj (.p (.bool true)), r⟩ else A ⟨t.set dj (.p (.bool false)), r⟩ := by
  cases c <;> simp [gval, St.put]
theorem u_gval_tup {dj : Tmp} {want : Bool} {A B : St → Prop} : gval (.tup []) dj want A B ⟨t, r⟩ = B ⟨t, r⟩ := (rfl)
theorem u_pick {c : Bool} {a b : L} : lpick (.p (.bool c)) a b K = if c = true then K a else K b := by cases c <;> simp [lpick]

/-! ### Two values -/
variable {cst : Bool}
theorem u_bin_int {op : BinOp} {ty : TypeId} {k k' : IntKind} {a b : Int} : lbin P op ty cst (.p (.int k a)) (.p (.int k' b)) K = lint op k a k' b K := (rfl)
theorem u_bin_str {op : BinOp} {ty : TypeId} {a b : List UInt8} : lbin P op ty cst (.p (.str a)) (.p (.str b)) K = lstr op a b K := (rfl)
theorem u_bin_beq {ty : TypeId} {a b : Bool} : lbin P .eql ty cst (.p (.bool a)) (.p (.bool b)) K = (P.underlying ty = some .bool ∧ K (.p (.bool (a == b)))) := (rfl)
theorem u_bin_bne {ty : TypeId} {a b : Bool} : lbin P .neq ty cst (.p (.bool a)) (.p (.bool b)) K = (P.underlying ty = some .bool ∧ K (.p (.bool (a != b)))) := (rfl)
def kb (K : L → Prop) (b : Bool) : Prop := K (.p (.bool b))
def knb (K : L → Prop) (b : Bool) : Prop := K (.p (.bool (!b)))
def aggEq (o : Option (List Tag)) (a b : List PV) (C : Bool → Prop) : Prop := ∃ ts, o = some ts ∧ whenS (eqTags ts a b) C
theorem u_aggEq {ts : List Tag} {a b : List PV} {C : Bool → Prop} : aggEq (some ts) a b C = whenS (eqTags ts a b) C := pe ⟨fun ⟨_, h, hc⟩ => by cases h; exact hc, fun h => ⟨ts, rfl, h⟩⟩
theorem u_bin_aeq {ty : TypeId} {a b : List PV} : lbin P .eql ty cst (.p (.agg a)) (.p (.agg b)) K = aggEq (tagsOf P ty) a b (kb K) := (rfl)
theorem u_bin_ane {ty : TypeId} {a b : List PV} : lbin P .neq ty cst (.p (.agg a)) (.p (.agg b)) K = aggEq (tagsOf P ty) a b (knb K) := (rfl)
def ptrC (o : Option TypeDesc) (b : Bool) : Option Bool := match o with | some (.pointer _) => some b | _ => none
def ifcC (o : Option TypeDesc) (b : Bool) : Option Bool := match o with | some (.interface _) => some b | _ => none
def slcC (o : Option TypeDesc) (b : Bool) : Option Bool := match o with | some (.slice _) => some b | _ => none
def mapC (o : Option TypeDesc) (b : Bool) : Option Bool := match o with | some (.map _ _) => some b | _ => none
def funC (o : Option TypeDesc) (b : Bool) : Option Bool := match o with | some (.func _ _ _) => some b | _ => none
def ptrS (P : Program) (o : Option TypeDesc) (c : Bool) : Option Bool := match o with | some (.pointer e) => if c = true ∧ P.cellsOf e ≠ 0 then some true else none | _ => none
theorem c_ptrC {e : TypeId} {b : Bool} : ptrC (some (.pointer e)) b = some b := (rfl)
theorem c_ifcC {ms : Array (String × TypeId)} {b : Bool} : ifcC (some (.interface ms)) b = some b := (rfl)
theorem c_slcC {e : TypeId} {b : Bool} : slcC (some (.slice e)) b = some b := (rfl)
theorem c_mapC {k e : TypeId} {b : Bool} : mapC (some (.map k e)) b = some b := (rfl)
theorem c_funC {x y : Array TypeId} {v b : Bool} : funC (some (.func x y v)) b = some b := (rfl)
theorem c_ptrS {e : TypeId} {c : Bool} : ptrS P (some (.pointer e)) c = if c = true ∧ P.cellsOf e ≠ 0 then some true else none := (rfl)
section
variable {op : BinOp} {ty : TypeId} {d i j d' i' j' : Nat}
theorem u_n_pp : lbin P op ty cst (.p .nptr) (.p .nptr) K = lnilEq (ptrC (P.underlying ty) true) op K := by
  show lnilEq (nilEq P ty cst (.p .nptr) (.p .nptr)) op K = _
  unfold nilEq ptrC; generalize P.underlying ty = o; cases o with
  | none => rfl
  | some o => cases o <;> rfl
theorem u_n_ptr : lbin P op ty cst (.ptr d i j) (.p .nptr) K = lnilEq (ptrC (P.underlying ty) false) op K := by
  show lnilEq (nilEq P ty cst (.ptr d i j) (.p .nptr)) op K = _
  unfold nilEq ptrC; generalize P.underlying ty = o; cases o with
  | none => rfl
  | some o => cases o <;> rfl
theorem u_n_eptr {cs : List PV} : lbin P op ty cst (.eptr cs) (.p .nptr) K = lnilEq (ptrC (P.underlying ty) false) op K := by
  show lnilEq (nilEq P ty cst (.eptr cs) (.p .nptr)) op K = _
  unfold nilEq ptrC; generalize P.underlying ty = o; cases o with
  | none => rfl
  | some o => cases o <;> rfl
theorem u_n_same : lbin P op ty cst (.ptr d i j) (.ptr d' i' j') K = lnilEq (ptrS P (P.underlying ty) (d == d' && (i == i' && j == j'))) op K := by
  show lnilEq (nilEq P ty cst (.ptr d i j) (.ptr d' i' j')) op K = _
  unfold nilEq ptrS; generalize P.underlying ty = o; cases o with
  | none => rfl
  | some o =>
    cases o <;> first | rfl | (simp only [Bool.and_eq_true, beq_iff_eq, and_assoc])
theorem u_n_ii : lbin P op ty true (.p .nifc) (.p .nifc) K = lnilEq (ifcC (P.underlying ty) true) op K := by
  show lnilEq (nilEq P ty true (.p .nifc) (.p .nifc)) op K = _
  unfold nilEq ifcC; generalize P.underlying ty = o; cases o with
  | none => rfl
  | some o => cases o <;> rfl
theorem u_n_in : lbin P op ty cst (.p .ifc) (.p .nifc) K = lnilEq (ifcC (P.underlying ty) false) op K := by
  show lnilEq (nilEq P ty cst (.p .ifc) (.p .nifc)) op K = _
  unfold nilEq ifcC; generalize P.underlying ty = o; cases o with
  | none => rfl
  | some o => cases o <;> rfl
theorem u_n_fin {T : TypeId} {q : IntKind} {n : Int} : lbin P op ty cst (.p (.ifi T q n)) (.p .nifc) K = lnilEq (ifcC (P.underlying ty) false) op K := by
  show lnilEq (nilEq P ty cst (.p (.ifi T q n)) (.p .nifc)) op K = _
  unfold nilEq ifcC; generalize P.underlying ty = o; cases o with
  | none => rfl
  | some o => cases o <;> rfl
theorem u_n_ss : lbin P op ty cst (.p .snil) (.p .snil) K = lnilEq (slcC (P.underlying ty) true) op K := by
  show lnilEq (nilEq P ty cst (.p .snil) (.p .snil)) op K = _
  unfold nilEq slcC; generalize P.underlying ty = o; cases o with
  | none => rfl
  | some o => cases o <;> rfl
theorem u_n_sl {c : List PV} {cs : List (List PV)} : lbin P op ty cst (.p (.sl (c :: cs))) (.p .snil) K = lnilEq (slcC (P.underlying ty) false) op K := by
  show lnilEq (nilEq P ty cst (.p (.sl (c :: cs))) (.p .snil)) op K = _
  unfold nilEq slcC; generalize P.underlying ty = o; cases o with
  | none => rfl
  | some o => cases o <;> rfl
theorem u_n_mm : lbin P op ty cst (.p .nmap) (.p .nmap) K = lnilEq (mapC (P.underlying ty) true) op K := by
  show lnilEq (nilEq P ty cst (.p .nmap) (.p .nmap)) op K = _
  unfold nilEq mapC; generalize P.underlying ty = o; cases o with
  | none => rfl
  | some o => cases o <;> rfl
theorem u_n_ff : lbin P op ty cst (.p .nfn) (.p .nfn) K = lnilEq (funC (P.underlying ty) true) op K := by
  show lnilEq (nilEq P ty cst (.p .nfn) (.p .nfn)) op K = _
  unfold nilEq funC; generalize P.underlying ty = o; cases o with
  | none => rfl
  | some o => cases o <;> rfl
theorem u_n_fn {g : FuncId} {ds : List Nat} : lbin P op ty cst (.fn g ds) (.p .nfn) K = lnilEq (funC (P.underlying ty) false) op K := by
  show lnilEq (nilEq P ty cst (.fn g ds) (.p .nfn)) op K = _
  unfold nilEq funC; generalize P.underlying ty = o; cases o with
  | none => rfl
  | some o => cases o <;> rfl
theorem u_n_cfn {g : FuncId} {ds : List Nat} : lbin P op ty cst (.cfn g ds) (.p .nfn) K = lnilEq (funC (P.underlying ty) false) op K := by
  show lnilEq (nilEq P ty cst (.cfn g ds) (.p .nfn)) op K = _
  unfold nilEq funC; generalize P.underlying ty = o; cases o with
  | none => rfl
  | some o => cases o <;> rfl
end
theorem u_nilEq_eql {b : Bool} : lnilEq (some b) .eql K = K (.p (.bool b)) := (rfl)
theorem u_nilEq_neq {b : Bool} : lnilEq (some b) .neq K = K (.p (.bool (!b))) := (rfl)
theorem u_const {v : Value} : isConst (.const v) = true := (rfl)
theorem u_const_t {i : Tmp} : isConst (.tmp i) = false := (rfl)
theorem u_kb {b : Bool} : kb K b = K (.p (.bool b)) := (rfl)
theorem u_knb {b : Bool} : knb K b = K (.p (.bool (!b))) := (rfl)
def bopt (b : Bool) : Option Bool → Option Bool
  | some x => some (b && x)
  | none => none
theorem bopt_some {a b : Bool} : bopt a (some b) = some (a && b) := (rfl)
theorem u_eqTags_nil : eqTags [] [] [] = some true := (rfl)
theorem u_eqTags_bool {ts : List Tag} {a b : Bool} {x y : List PV} : eqTags (.bool :: ts) (.bool a :: x) (.bool b :: y) = bopt (a == b) (eqTags ts x y) := by
  simp only [eqTags, bopt]
  cases eqTags ts x y <;> rfl
theorem u_eqTags_int {ts : List Tag} {k : IntKind} {a b : Int} {x y : List PV} : eqTags (.int :: ts) (.int k a :: x) (.int k b :: y) = bopt (a == b) (eqTags ts x y) := by
  simp only [eqTags, bopt, if_true]
  cases eqTags ts x y <;> rfl
theorem u_eqTags_str {ts : List Tag} {a b : List UInt8} {x y : List PV} : eqTags (.str :: ts) (.str a :: x) (.str b :: y) = bopt (a == b) (eqTags ts x y) := by
  simp only [eqTags, bopt]
  cases eqTags ts x y <;> rfl

variable {k k' : IntKind} {a b : Int}
theorem u_shl : lint .shl k a k' b K = (0 ≤ b ∧ K (.p (.int k (k.wrap (a * 2 ^ min b.toNat k.bits))))) := (rfl)
theorem u_shr : lint .shr k a k' b K = (0 ≤ b ∧ K (.p (.int k (a.fdiv (2 ^ min b.toNat k.bits))))) := (rfl)
theorem u_add : lint .add k a k b K = K (.p (.int k (k.wrap (a + b)))) := by simp [lint]
theorem u_sub : lint .sub k a k b K = K (.p (.int k (k.wrap (a - b)))) := by simp [lint]
theorem u_mul : lint .mul k a k b K = K (.p (.int k (k.wrap (a * b)))) := by simp [lint]
theorem u_quo : lint .quo k a k b K = (b ≠ 0 ∧ K (.p (.int k (k.wrap (a.tdiv b))))) := by simp [lint]
theorem u_rem : lint .rem k a k b K = (b ≠ 0 ∧ K (.p (.int k (a.tmod b)))) := by simp [lint]
theorem u_and : lint .and k a k b K = K (.p (.int k (k.wrap (BitVec.ofInt k.bits a &&& BitVec.ofInt k.bits b).toNat))) := by simp [lint]
theorem u_or : lint .or k a k b K = K (.p (.int k (k.wrap (BitVec.ofInt k.bits a ||| BitVec.ofInt k.bits b).toNat))) := by simp [lint]
theorem u_xor : lint .xor k a k b K = K (.p (.int k (k.wrap (BitVec.ofInt k.bits a ^^^ BitVec.ofInt k.bits b).toNat))) := by simp [lint]
theorem u_eql : lint .eql k a k b K = K (.p (.bool (a == b))) := by simp [lint]
theorem u_neq : lint .neq k a k b K = K (.p (.bool (a != b))) := by simp [lint]
theorem u_lss : lint .lss k a k b K = K (.p (.bool (decide (a < b)))) := by simp [lint]
theorem u_leq : lint .leq k a k b K = K (.p (.bool (decide (a ≤ b)))) := by simp [lint]
theorem u_gtr : lint .gtr k a k b K = K (.p (.bool (decide (b < a)))) := by simp [lint]
theorem u_geq : lint .geq k a k b K = K (.p (.bool (decide (b ≤ a)))) := by simp [lint]
variable {x y : List UInt8}
theorem u_sadd : lstr .add x y K = (x.length + y.length ≤ 9223372036854775807 ∧ K (.p (.str (x ++ y)))) := (rfl)
theorem u_seql : lstr .eql x y K = K (.p (.bool (x == y))) := (rfl)
theorem u_sneq : lstr .neq x y K = K (.p (.bool (!(x == y)))) := (rfl)
theorem u_slss : lstr .lss x y K = K (.p (.bool (Op.bytesLess x y))) := (rfl)
theorem u_sleq : lstr .leq x y K = K (.p (.bool (Op.bytesLess x y || x == y))) := (rfl)
theorem u_sgtr : lstr .gtr x y K = K (.p (.bool (!(Op.bytesLess x y || x == y)))) := (rfl)
theorem u_sgeq : lstr .geq x y K = K (.p (.bool (!(Op.bytesLess x y)))) := (rfl)
theorem u_neg : lun .neg (.p (.int k a)) K = K (.p (.int k (k.wrap (0 - a)))) := (rfl)
theorem u_not {c : Bool} : lun .not (.p (.bool c)) K = K (.p (.bool (!c))) := (rfl)
theorem u_max : lminmax true [.p (.int k a), .p (.int k' b)] K = K (.p (.int k (max a b))) := (rfl)
theorem u_min : lminmax false [.p (.int k a), .p (.int k' b)] K = K (.p (.int k (min a b))) := (rfl)

/-! ### One value -/
def kstr (K : L → Prop) (bs : List UInt8) : Prop := K (.p (.str bs))
theorem u_kstr {bs : List UInt8} : kstr K bs = K (.p (.str bs)) := (rfl)
theorem u_cvF {sa sb : TypeId} {o : Operand} {dst : Option Tmp} : cvF P sa sb o dst J ⟨t, r⟩ = lconv P sa sb ((St.mk t r).get o) (kput dst J ⟨t, r⟩) := (rfl)
def pconvT (P : Program) (o q : Option TypeDesc) (d j : Nat) (r : Option Reg) (K : L → Prop) : Prop :=
  match r, o, q with
  | some (.var _ cs), some (.pointer t), some .unsafePointer => P.cellsOf t ≠ 0 ∧ j < cs.length ∧ K (.ptr d 0 j)
  | some (.var T cs), some .unsafePointer, some (.pointer u) => liesAt P P.depth T (cs.length / P.cellsOf T) j u 1 = true ∧ (P.info? u).isSome = true ∧ K (.ptr d 0 j)
  | _, _, _ => False
theorem u_cvG_ptr {sa sb : TypeId} {o : Operand} {dst : Option Tmp} {d j : Nat} : cvG P sa sb ⟨t, r⟩ o dst J (.ptr d 0 j) = pconvT P (P.underlying sa) (P.underlying sb) d j (findReg d r) (kput dst J ⟨t, r⟩) := (rfl)
theorem u_cvG_int {sa sb : TypeId} {o : Operand} {dst : Option Tmp} {k : IntKind} {n : Int} : cvG P sa sb ⟨t, r⟩ o dst J (.p (.int k n)) = cvF P sa sb o dst J (St.freezeOps ⟨t, r⟩ [o]) := (rfl)
theorem u_cvG_sl {sa sb : TypeId} {o : Operand} {dst : Option Tmp} {es : List (List PV)} : cvG P sa sb ⟨t, r⟩ o dst J (.p (.sl es)) = cvF P sa sb o dst J (St.freezeOps ⟨t, r⟩ [o]) := (rfl)
theorem u_cvG_snil {sa sb : TypeId} {o : Operand} {dst : Option Tmp} : cvG P sa sb ⟨t, r⟩ o dst J (.p .snil) = cvF P sa sb o dst J (St.freezeOps ⟨t, r⟩ [o]) := (rfl)
def cvS (P : Program) (sa sb : TypeId) (oa ob : Option TypeDesc) (x : List UInt8) (s : St) (dst : Option Tmp) (J : St → Prop) : Prop :=
  match ob with
  | some (.slice e) => oa.isSome = true ∧ P.underlying e = some (.int .u8) ∧ kput dst J s (.p (.sl (x.map fun c => [.int .u8 c.toNat])))
  | _ => lconv P sa sb (.p (.str x)) (kput dst J s)
theorem u_cvG_str {sa sb : TypeId} {o : Operand} {dst : Option Tmp} {x : List UInt8} : cvG P sa sb ⟨t, r⟩ o dst J (.p (.str x)) = cvS P sa sb (P.underlying sa) (P.underlying sb) x ⟨t, r⟩ dst J := by
  show lcvStr P sa sb x ⟨t, r⟩ dst J = _
  unfold lcvStr cvS
  cases P.underlying sb with
  | none => rfl
  | some q => cases q <;> rfl
theorem u_cvS_sl {sa sb : TypeId} {oa : TypeDesc} {dst : Option Tmp} {x : List UInt8} {e : TypeId} : cvS P sa sb (some oa) (some (.slice e)) x ⟨t, r⟩ dst J = (P.underlying e = some (.int .u8) ∧ kput dst J ⟨t, r⟩ (.p (.sl (x.map fun c => [.int .u8 c.toNat])))) := by simp [cvS]
theorem u_cvS_str {sa sb : TypeId} {oa : Option TypeDesc} {dst : Option Tmp} {x : List UInt8} : cvS P sa sb oa (some .string) x ⟨t, r⟩ dst J = lconv P sa sb (.p (.str x)) (kput dst J ⟨t, r⟩) := (rfl)
theorem u_cvG_own {sa sb : TypeId} {o : Operand} {dst : Option Tmp} {d m n : Nat} : cvG P sa sb ⟨t, r⟩ o dst J (.own d m n) = cvF P sa sb o dst J (St.freezeOps ⟨t, r⟩ [o]) := (rfl)
theorem u_pconv_to {d j : Nat} {ty : TypeId} {T : TypeId} {cs : List L} : pconvT P (some (.pointer ty)) (some .unsafePointer) d j (some (.var T cs)) K = (P.cellsOf ty ≠ 0 ∧ j < cs.length ∧ K (.ptr d 0 j)) := (rfl)
theorem u_pconv_from {d j : Nat} {ty : TypeId} {T : TypeId} {cs : List L} : pconvT P (some .unsafePointer) (some (.pointer ty)) d j (some (.var T cs)) K = (liesAt P P.depth T (cs.length / P.cellsOf T) j ty 1 = true ∧ (P.info? ty).isSome = true ∧ K (.ptr d 0 j)) := (rfl)
def convT (P : Program) (src dst : Option TypeDesc) (x : L) (K : L → Prop) : Prop :=
  match dst, x with
  | some (.int k), .p (.int _ n) => src.isSome = true ∧ K (.p (.int k (k.wrap n)))
  | some .string, .p (.str s) => src.isSome = true ∧ (∀ e, src ≠ some (.slice e)) ∧ K (.p (.str s))
  | some .string, .p (.int _ n) => src.isSome = true ∧ (∀ e, src ≠ some (.slice e)) ∧ K (.p (.str (Utf8.encode n).data.toList))
  | some .string, .p (.sl es) => (∃ e, src = some (.slice e) ∧ P.underlying e = some (.int .u8)) ∧ whenS (bytesPV es) (kstr K)
  | _, _ => False
theorem u_conv {s d : TypeId} {x : L} : lconv P s d x K = convT P (P.underlying s) (P.underlying d) x K := (rfl)
theorem u_conv_int {d : TypeDesc} : convT P (some d) (some (.int k')) (.p (.int k a)) K = K (.p (.int k' (k'.wrap a))) := by simp [convT]
theorem u_conv_str : convT P (some .string) (some .string) (.p (.str x)) K = K (.p (.str x)) := by simp [convT]
theorem u_conv_rune : convT P (some (.int k')) (some .string) (.p (.int k a)) K = K (.p (.str (Utf8.encode a).data.toList)) := by simp [convT]
theorem u_conv_bytes {e : TypeId} {es : List (List PV)} : convT P (some (.slice e)) (some .string) (.p (.sl es)) K = (P.underlying e = some (.int .u8) ∧ whenS (bytesPV es) (kstr K)) := by
  simp [convT]
def byteC (n : Int) : Option (List UInt8) → Option (List UInt8)
  | some bs => if 0 ≤ n ∧ n < 256 then some (UInt8.ofNat n.toNat :: bs) else none
  | none => none
theorem u_bytes_nil : bytesPV [] = some [] := (rfl)
theorem u_bytes_cons {n : Int} {l : List (List PV)} : bytesPV ([.int .u8 n] :: l) = byteC n (bytesPV l) := by
  simp only [bytesPV, byteC]
  cases bytesPV l <;> simp
def u8of (n : Int) : UInt8 := UInt8.ofNat (n % 256).toNat
theorem u_byteC_wrap {n : Int} {bs : List UInt8} : byteC (IntKind.u8.wrap n) (some bs) = some (u8of n :: bs) := by
  simp only [byteC, wrap_u8', u8of]
  rw [if_pos (by omega)]
theorem u_byteC_at {s : List UInt8} {i : Nat} {bs : List UInt8} : byteC (at_ s i) (some bs) = some (s.getD i 0 :: bs) := by
  simp only [byteC]
  rw [if_pos ⟨by omega, by have := at_lt s i; omega⟩]
  simp [at_]
def lenT (d : Option TypeDesc) (x : L) (K : L → Prop) : Prop :=
  match d, x with
  | some .string, .p (.str s) => K (.p (.int .i64 s.length))
  | some (.slice _), .p (.sl es) => K (.p (.int .i64 es.length))
  | some (.slice _), .p .snil => K (.p (.int .i64 0))
  | some (.slice _), .own _ _ len => K (.p (.int .i64 len))
  | some (.map _ _), .p .nmap => K (.p (.int .i64 0))
  | some (.map _ _), .p (.mp es) => K (.p (.int .i64 es.length))
  | _, _ => False
theorem u_len_nmap {a b : TypeId} : lenT (some (.map a b)) (.p .nmap) K = K (.p (.int .i64 0)) := (rfl)
theorem u_len_mp {a b : TypeId} {m : List (PV × PV)} : lenT (some (.map a b)) (.p (.mp m)) K = K (.p (.int .i64 m.length)) := (rfl)
variable {es : List (List PV)} {e sz : Nat}
theorem u_len {ty : TypeId} {x : L} : llen P ty x K = lenT (P.underlying ty) x K := (rfl)
theorem u_len_str : lenT (some .string) (.p (.str x)) K = K (.p (.int .i64 x.length)) := (rfl)
theorem u_len_sl : lenT (some (.slice e)) (.p (.sl es)) K = K (.p (.int .i64 es.length)) := (rfl)
theorem u_len_nil : lenT (some (.slice e)) (.p .snil) K = K (.p (.int .i64 0)) := (rfl)
theorem u_len_own {d o n : Nat} : lenT (some (.slice e)) (.own d o n) K = K (.p (.int .i64 n)) := (rfl)

def kelem (sz : Nat) (K : L → Prop) (e : List PV) : Prop := e.length = sz ∧ K (.eptr e)
theorem u_kelem {c : List PV} : kelem sz K c = (c.length = sz ∧ K (.eptr c)) := (rfl)
def iaT (r : Regs) (o : Option (TypeId × Nat)) (q : Option (Nat × TypeId × Nat)) (x ix : L) (K : L → Prop) : Prop :=
  match x, ix with
  | .p (.sl es), .p (.int _ i) => match o with
    | some (_, sz) => 0 ≤ i ∧ getE (es[i.toNat]?) (kelem sz K)
    | none => False
  | .own d off len, .p (.int _ i) => match findReg d r, o with
    | some (.row _ sz _), some (_, sz') => sz = sz' ∧ 0 ≤ i ∧ i < len ∧ K (.ptr d (off + i.toNat) 0)
    | some (.lrow _ sz _ _), some (_, sz') => sz = sz' ∧ 0 ≤ i ∧ i < len ∧ K (.ptr d (off + i.toNat) 0)
    | _, _ => False
  | .ptr d a b, .p (.int _ i) => match q with
    | some (n, _, sz) => 0 ≤ i ∧ i < n ∧ K (.ptr d a (b + i.toNat * sz))
    | none => False
  | .eptr cs, .p (.int _ i) => match q with
    | some (n, _, sz) => 0 ≤ i ∧ i < n ∧ i.toNat * sz ≤ cs.length ∧ K (.eptr (cs.drop (i.toNat * sz)))
    | none => False
  | _, _ => False
def iaR (q : Option Reg) (sz' : Nat) (d off len : Nat) (i : Int) (K : L → Prop) : Prop :=
  match q with
  | some (.row _ sz _) => sz = sz' ∧ 0 ≤ i ∧ i < len ∧ K (.ptr d (off + i.toNat) 0)
  | some (.lrow _ sz _ _) => sz = sz' ∧ 0 ≤ i ∧ i < len ∧ K (.ptr d (off + i.toNat) 0)
  | _ => False
theorem u_indexAddr {ty : TypeId} {x ix : L} : lindexAddr P r ty x ix K = iaT r (slE P ty) (arE P ty) x ix K := by
  unfold lindexAddr iaT getE kelem
  rfl
theorem u_ia_sl {i : Int} {q : Option (Nat × TypeId × Nat)} : iaT r (some (e, sz)) q (.p (.sl es)) (.p (.int k i)) K = (0 ≤ i ∧ getE (es[i.toNat]?) (kelem sz K)) := (rfl)
theorem u_ia_own {i : Int} {d off len : Nat} {q : Option (Nat × TypeId × Nat)} : iaT r (some (e, sz)) q (.own d off len) (.p (.int k i)) K = iaR (findReg d r) sz d off len i K := by
  simp only [iaT, iaR]
  generalize findReg d r = q
  cases q with
  | none => rfl
  | some q => cases q <;> rfl
theorem u_ia_ptr {i : Int} {d a b n : Nat} {o : Option (TypeId × Nat)} : iaT r o (some (n, e, sz)) (.ptr d a b) (.p (.int k i)) K = (0 ≤ i ∧ i < n ∧ K (.ptr d a (b + i.toNat * sz))) := (rfl)
theorem u_ia_eptr {i : Int} {cs : List PV} {n : Nat} {o : Option (TypeId × Nat)} : iaT r o (some (n, e, sz)) (.eptr cs) (.p (.int k i)) K = (0 ≤ i ∧ i < n ∧ i.toNat * sz ≤ cs.length ∧ K (.eptr (cs.drop (i.toNat * sz)))) := (rfl)
theorem u_ia_lrow {i : Int} {d off len sz' : Nat} {T : TypeId} {fu : Bool} {ll : List (List L)} : iaR (some (.lrow T sz fu ll)) sz' d off len i K = (sz = sz' ∧ 0 ≤ i ∧ i < len ∧ K (.ptr d (off + i.toNat) 0)) := (rfl)
theorem u_ia_row {i : Int} {d off len sz' : Nat} {T : TypeId} : iaR (some (.row T sz es)) sz' d off len i K = (sz = sz' ∧ 0 ≤ i ∧ i < len ∧ K (.ptr d (off + i.toNat) 0)) := (rfl)

def kbyte (K : L → Prop) (b : UInt8) : Prop := K (.p (.int .u8 b.toNat))
theorem u_kbyte {c : UInt8} : kbyte K c = K (.p (.int .u8 c.toNat)) := (rfl)
def kp (K : L → Prop) (c : PV) : Prop := K (.p c)
theorem u_kp {c : PV} : kp K c = K (.p c) := (rfl)
def ixT (P : Program) (d : Option TypeDesc) (x ix : L) (K : L → Prop) : Prop :=
  match d, x, ix with
  | some .string, .p (.str s), .p (.int _ i) => 0 ≤ i ∧ getE (s[i.toNat]?) (kbyte K)
  | some (.array n e), .p (.agg cs), .p (.int _ i) => isAggB P e = some false ∧ P.cellsOf e = 1 ∧ 0 ≤ i ∧ i < n ∧ getE (cs[i.toNat]?) (kp K)
  | _, _, _ => False
theorem u_index {ty : TypeId} {x ix : L} : lindex P ty x ix K = ixT P (P.underlying ty) x ix K := by
  unfold lindex ixT getE kbyte kp; rfl
theorem u_ix_str {i : Int} : ixT P (some .string) (.p (.str x)) (.p (.int k i)) K = (0 ≤ i ∧ i.toNat < x.length ∧ K (.p (.int .u8 (at_ x i.toNat)))) := by
  show (0 ≤ i ∧ getE (x[i.toNat]?) (kbyte K)) = _
  rw [getE_get]; rfl
theorem u_ix_arr {n : Nat} {cs : List PV} {i : Int} : ixT P (some (.array n e)) (.p (.agg cs)) (.p (.int k i)) K = (isAggB P e = some false ∧ P.cellsOf e = 1 ∧ 0 ≤ i ∧ i < n ∧ getE (cs[i.toNat]?) (kp K)) := (rfl)

/-! ### Fields, loads -/
def faT (o : Option (Nat × TypeId)) (x : L) (K : L → Prop) : Prop :=
  match o, x with
  | some (off, _), .eptr cs => off ≤ cs.length ∧ K (.eptr (cs.drop off))
  | some (off, _), .ptr d i j => K (.ptr d i (j + off))
  | _, _ => False
variable {off n f : Nat} {ft ty T : TypeId} {cs : List PV} {d i j : Nat} {ls : List L}
theorem u_fieldAddr {x : L} : lfieldAddr P ty x f K = faT (fld P ty f) x K := (rfl)
theorem u_fa_eptr : faT (some (off, ft)) (.eptr cs) K = (off ≤ cs.length ∧ K (.eptr (cs.drop off))) := (rfl)
theorem u_fa_ptr : faT (some (off, ft)) (.ptr d i j) K = K (.ptr d i (j + off)) := (rfl)
def fieldT (P : Program) (o : Option (Nat × TypeId)) (x : L) (K : L → Prop) : Prop :=
  match o, x with
  | some (off, ft), .p (.agg cs) => match isAggB P ft with
    | some true => off + P.cellsOf ft ≤ cs.length ∧ K (.p (.agg ((cs.drop off).take (P.cellsOf ft))))
    | some false => P.cellsOf ft = 1 ∧ getE (cs[off]?) (kp K)
    | none => False
  | _, _ => False
def fieldV (n off : Nat) (q : Option Bool) (cs : List PV) (K : L → Prop) : Prop :=
  match q with
  | some true => off + n ≤ cs.length ∧ K (.p (.agg ((cs.drop off).take n)))
  | some false => n = 1 ∧ getE (cs[off]?) (kp K)
  | none => False
theorem u_field {x : L} : lfield P ty x f K = fieldT P (fld P ty f) x K := by unfold lfield fieldT getE kp; rfl
theorem u_field_agg : fieldT P (some (off, ft)) (.p (.agg cs)) K = fieldV (P.cellsOf ft) off (isAggB P ft) cs K := (rfl)
theorem u_fieldV_t : fieldV n off (some true) cs K = (off + n ≤ cs.length ∧ K (.p (.agg ((cs.drop off).take n)))) := (rfl)
theorem u_fieldV_f : fieldV n off (some false) cs K = (n = 1 ∧ getE (cs[off]?) (kp K)) := (rfl)

def kagg (K : L → Prop) (ps : List PV) : Prop := K (.p (.agg ps))
theorem u_kagg {ps : List PV} : kagg K ps = K (.p (.agg ps)) := (rfl)
def kcell (j : Nat) (K : L → Prop) (e : List PV) : Prop := getE (e[j]?) (kp K)
theorem u_kcell {c : List PV} : kcell j K c = getE (c[j]?) (kp K) := (rfl)
def krow (n j : Nat) (K : L → Prop) (e : List PV) : Prop := 0 < n ∧ j + n ≤ e.length ∧ K (.p (.agg ((e.drop j).take n)))
theorem u_krow {c : List PV} : krow n j K c = (0 < n ∧ j + n ≤ c.length ∧ K (.p (.agg ((c.drop j).take n)))) := (rfl)
def klcell (j : Nat) (K : L → Prop) (e : List L) : Prop := getE (e[j]?) K
theorem u_klcell {c : List L} : klcell j K c = getE (c[j]?) K := (rfl)
def klrow (n j : Nat) (K : L → Prop) (e : List L) : Prop := 0 < n ∧ j + n ≤ e.length ∧ whenS (allSome L.pure? ((e.drop j).take n)) (kagg K)
theorem u_klrow {c : List L} : klrow n j K c = (0 < n ∧ j + n ≤ c.length ∧ whenS (allSome L.pure? ((c.drop j).take n)) (kagg K)) := (rfl)
def ldT (n : Nat) (r : Regs) (o : Option Bool) (x : L) (K : L → Prop) : Prop :=
  match o, x with
  | some false, .eptr cs => getE (cs[0]?) (kp K)
  | some true, .eptr cs => 0 < n ∧ n ≤ cs.length ∧ K (.p (.agg (cs.take n)))
  | some false, .ptr d i j => match findReg d r with
    | some (.var _ cs) => i = 0 ∧ getE (cs[j]?) K
    | some (.row _ _ es) => getE (es[i]?) (kcell j K)
    | some (.lrow _ _ _ es) => getE (es[i]?) (klcell j K)
    | some (.obj _) => False
    | none => False
  | some true, .ptr d i j => match findReg d r with
    | some (.var _ cs) => i = 0 ∧ 0 < n ∧ j + n ≤ cs.length ∧ whenS (allSome L.pure? ((cs.drop j).take n)) (kagg K)
    | some (.row _ _ es) => getE (es[i]?) (krow n j K)
    | some (.lrow _ _ _ es) => getE (es[i]?) (klrow n j K)
    | some (.obj _) => False
    | none => False
  | _, _ => False
def ldF (q : Option Reg) (i j : Nat) (K : L → Prop) : Prop :=
  match q with
  | some (.var _ cs) => i = 0 ∧ getE (cs[j]?) K
  | some (.row _ _ es) => getE (es[i]?) (kcell j K)
  | some (.lrow _ _ _ es) => getE (es[i]?) (klcell j K)
  | some (.obj _) => False
  | none => False
def ldA (q : Option Reg) (n i j : Nat) (K : L → Prop) : Prop :=
  match q with
  | some (.var _ cs) => i = 0 ∧ 0 < n ∧ j + n ≤ cs.length ∧ whenS (allSome L.pure? ((cs.drop j).take n)) (kagg K)
  | some (.row _ _ es) => getE (es[i]?) (krow n j K)
  | some (.lrow _ _ _ es) => getE (es[i]?) (klrow n j K)
  | some (.obj _) => False
  | none => False
theorem u_load {x : L} : lload P r ty x K = ldT (P.cellsOf ty) r (isAggB P ty) x K := by unfold lload ldT getE kp whenS kagg kcell krow klcell klrow getE whenS kagg; rfl
theorem u_ld_eptr_f : ldT n r (some false) (.eptr cs) K = getE (cs[0]?) (kp K) := (rfl)
theorem u_ld_eptr_t : ldT n r (some true) (.eptr cs) K = (0 < n ∧ n ≤ cs.length ∧ K (.p (.agg (cs.take n)))) := (rfl)
theorem u_ld_ptr_f : ldT n r (some false) (.ptr d i j) K = ldF (findReg d r) i j K := (rfl)
theorem u_ld_ptr_t : ldT n r (some true) (.ptr d i j) K = ldA (findReg d r) n i j K := (rfl)
theorem u_ldF_var : ldF (some (.var T ls)) i j K = (i = 0 ∧ getE (ls[j]?) K) := (rfl)
theorem u_ldF_row : ldF (some (.row T sz es)) i j K = getE (es[i]?) (kcell j K) := (rfl)
theorem u_ldA_var : ldA (some (.var T ls)) n i j K = (i = 0 ∧ 0 < n ∧ j + n ≤ ls.length ∧ whenS (allSome L.pure? ((ls.drop j).take n)) (kagg K)) := (rfl)
theorem u_ldF_lrow {fu : Bool} {ll : List (List L)} : ldF (some (.lrow T sz fu ll)) i j K = getE (ll[i]?) (klcell j K) := (rfl)
theorem u_ldA_lrow {fu : Bool} {ll : List (List L)} : ldA (some (.lrow T sz fu ll)) n i j K = getE (ll[i]?) (klrow n j K) := (rfl)
theorem u_ldA_row : ldA (some (.row T sz es)) n i j K = getE (es[i]?) (krow n j K) := (rfl)

/-! ### Slices -/
def bnd (s : St) : Option Operand → Option L
  | none => none
  | some o => some (s.get o)
theorem bnd_none {s : St} : bnd s none = none := (rfl)
theorem bnd_some {s : St} {o : Operand} : bnd s (some o) = some (s.get o) := (rfl)
def bndI (d : Int) : Option L → Option Int
  | none => some d
  | some (.p (.int _ n)) => some n
  | some _ => none
def slT (P : Program) (r : Regs) (o : Option TypeDesc) (x : L) (lo hi : Option L) (K : L → Prop) : Prop :=
  match o, x with
  | some .string, .p (.str s) => ∃ l h, bndI 0 lo = some l ∧ bndI s.length hi = some h ∧ 0 ≤ l ∧ l ≤ h ∧ h ≤ s.length ∧ K (.p (.str ((s.drop l.toNat).take (h.toNat - l.toNat))))
  | some (.slice e), .p (.sl es) => 0 < P.cellsOf e ∧ (∀ x ∈ es, x.length = P.cellsOf e) ∧ ∃ l h, bndI 0 lo = some l ∧ bndI es.length hi = some h ∧ 0 ≤ l ∧ l ≤ h ∧ h ≤ es.length ∧ K (.p (.sl ((es.drop l.toNat).take (h.toNat - l.toNat))))
  | some (.slice e), .p .snil => 0 < P.cellsOf e ∧ ∃ l h, bndI 0 lo = some l ∧ bndI 0 hi = some h ∧ l = 0 ∧ h = 0 ∧ K (.p .snil)
  | some (.slice e), .own d off len => 0 < P.cellsOf e ∧ rowSz r d = some (P.cellsOf e) ∧ ∃ l h, bndI 0 lo = some l ∧ bndI len hi = some h ∧ 0 ≤ l ∧ l ≤ h ∧ h ≤ (max len (rowLen r d - off) : Nat) ∧ K (.own d (off + l.toNat) (h.toNat - l.toNat))
  | _, _ => False
theorem u_slice {o : Operand} {lo hi : Option Operand} : lslice P r ty (St.mk t r).get o lo hi none K = slT P r (P.underlying ty) ((St.mk t r).get o) (bnd ⟨t, r⟩ lo) (bnd ⟨t, r⟩ hi) K := by
  have h1 : ∀ (d : Int) (q : Option Operand), bound (St.mk t r).get d q = bndI d (bnd ⟨t, r⟩ q) := by
    intro d q
    cases q with
    | none => rfl
    | some q =>
      simp only [bound, bnd]
      cases (St.mk t r).get q with
      | p v => cases v <;> rfl
      | _ => rfl
  unfold lslice slT
  simp only [h1, true_and]
  generalize P.underlying ty = q
  generalize (St.mk t r).get o = l
  cases q with
  | none => rfl
  | some q => cases q <;> first | rfl | (cases l <;> first | rfl | (rename_i v; cases v <;> rfl))
theorem u_sl_nn : slT P r (some .string) (.p (.str x)) none none K = K (.p (.str x)) := by
  simp [slT, bndI]
theorem u_sl_ln {l : Int} : slT P r (some .string) (.p (.str x)) (some (.p (.int k l))) none K = (0 ≤ l ∧ l ≤ x.length ∧ K (.p (.str (x.drop l.toNat)))) := by
  simp only [slT, bndI]
  apply pe
  constructor
  · rintro ⟨l', h', g1, g2, h1, h2, _, h3⟩
    cases g1; cases g2
    refine ⟨h1, h2, ?_⟩
    rwa [List.take_of_length_le (by simp)] at h3
  · rintro ⟨h1, h2, h3⟩
    refine ⟨_, _, rfl, rfl, h1, h2, Int.le_refl _, ?_⟩
    rwa [List.take_of_length_le (by simp)]
theorem u_sl_nh {h : Int} : slT P r (some .string) (.p (.str x)) none (some (.p (.int k h))) K = (0 ≤ h ∧ h ≤ x.length ∧ K (.p (.str (x.take h.toNat)))) := by
  simp [slT, bndI]
theorem u_sl_lh {l h : Int} : slT P r (some .string) (.p (.str x)) (some (.p (.int k l))) (some (.p (.int k' h))) K = (0 ≤ l ∧ l ≤ h ∧ h ≤ x.length ∧ K (.p (.str ((x.drop l.toNat).take (h.toNat - l.toNat))))) := by
  simp [slT, bndI]
theorem u_ss_nn : slT P r (some (.slice e)) (.p (.sl es)) none none K = (0 < P.cellsOf e ∧ (∀ x ∈ es, x.length = P.cellsOf e) ∧ K (.p (.sl es))) := by
  simp [slT, bndI]
theorem u_ss_ln {l : Int} : slT P r (some (.slice e)) (.p (.sl es)) (some (.p (.int k l))) none K = (0 < P.cellsOf e ∧ (∀ x ∈ es, x.length = P.cellsOf e) ∧ 0 ≤ l ∧ l ≤ es.length ∧ K (.p (.sl (es.drop l.toNat)))) := by
  simp only [slT, bndI]
  apply pe
  constructor
  · rintro ⟨g1, g2, l', h', k1, k2, h1, h2, _, h3⟩
    cases k1; cases k2
    refine ⟨g1, g2, h1, h2, ?_⟩
    rwa [List.take_of_length_le (by simp)] at h3
  · rintro ⟨g1, g2, h1, h2, h3⟩
    refine ⟨g1, g2, _, _, rfl, rfl, h1, h2, Int.le_refl _, ?_⟩
    rwa [List.take_of_length_le (by simp)]
theorem u_ss_nh {h : Int} : slT P r (some (.slice e)) (.p (.sl es)) none (some (.p (.int k h))) K = (0 < P.cellsOf e ∧ (∀ x ∈ es, x.length = P.cellsOf e) ∧ 0 ≤ h ∧ h ≤ es.length ∧ K (.p (.sl (es.take h.toNat)))) := by
  simp [slT, bndI]
theorem u_ss_lh {l h : Int} : slT P r (some (.slice e)) (.p (.sl es)) (some (.p (.int k l))) (some (.p (.int k' h))) K = (0 < P.cellsOf e ∧ (∀ x ∈ es, x.length = P.cellsOf e) ∧ 0 ≤ l ∧ l ≤ h ∧ h ≤ es.length ∧ K (.p (.sl ((es.drop l.toNat).take (h.toNat - l.toNat))))) := by
  simp [slT, bndI]

theorem u_sn_nn : slT P r (some (.slice e)) (.p .snil) none none K = (0 < P.cellsOf e ∧ K (.p .snil)) := by
  simp [slT, bndI]
theorem u_sn_nh {h : Int} : slT P r (some (.slice e)) (.p .snil) none (some (.p (.int k h))) K = (0 < P.cellsOf e ∧ h = 0 ∧ K (.p .snil)) := by
  simp [slT, bndI]
theorem u_sn_ln {l : Int} : slT P r (some (.slice e)) (.p .snil) (some (.p (.int k l))) none K = (0 < P.cellsOf e ∧ l = 0 ∧ K (.p .snil)) := by
  simp [slT, bndI]
theorem u_so_nn {o m : Nat} : slT P r (some (.slice e)) (.own d o m) none none K = (0 < P.cellsOf e ∧ rowSz r d = some (P.cellsOf e) ∧ K (.own d o m)) := by
  simp [slT, bndI]
  intro _ _ _
  omega
theorem u_so_nh {h : Int} {o m : Nat} : slT P r (some (.slice e)) (.own d o m) none (some (.p (.int k h))) K = (0 < P.cellsOf e ∧ rowSz r d = some (P.cellsOf e) ∧ 0 ≤ h ∧ h ≤ (max m (rowLen r d - o) : Nat) ∧ K (.own d o h.toNat)) := by
  simp [slT, bndI]
theorem u_so_ln {l : Int} {o m : Nat} : slT P r (some (.slice e)) (.own d o m) (some (.p (.int k l))) none K = (0 < P.cellsOf e ∧ rowSz r d = some (P.cellsOf e) ∧ 0 ≤ l ∧ l ≤ m ∧ K (.own d (o + l.toNat) (m - l.toNat))) := by
  simp only [slT, bndI]
  apply pe
  constructor
  · rintro ⟨g1, g2, l', h', k1, k2, h1, h2, _, h3⟩
    cases k1; cases k2
    exact ⟨g1, g2, h1, h2, by simpa using h3⟩
  · rintro ⟨g1, g2, h1, h2, h3⟩
    exact ⟨g1, g2, _, _, rfl, rfl, h1, h2, by omega, by simpa using h3⟩
theorem u_so_lh {l h : Int} {o m : Nat} : slT P r (some (.slice e)) (.own d o m) (some (.p (.int k l))) (some (.p (.int k' h))) K = (0 < P.cellsOf e ∧ rowSz r d = some (P.cellsOf e) ∧ 0 ≤ l ∧ l ≤ h ∧ h ≤ (max m (rowLen r d - o) : Nat) ∧ K (.own d (o + l.toNat) (h.toNat - l.toNat))) := by
  simp [slT, bndI]
theorem u_slG_ptr {o : Oper} {x : Operand} {lo hi : Option Operand} {dst : Option Tmp} {d : Nat} : slG P o ty x lo hi dst J ⟨t, r⟩ (.ptr d 0 0) = larr P ty ⟨t, r⟩ d lo hi (kput dst J) (findReg d r) := (rfl)
theorem u_slG_p {o : Oper} {x : Operand} {lo hi : Option Operand} {dst : Option Tmp} {v : PV} : slG P o ty x lo hi dst J ⟨t, r⟩ (.p v) = lslice P r ty (St.mk t r).get x lo hi none (kput dst J ⟨t, r⟩) := (rfl)
theorem u_slG_own {o : Oper} {x : Operand} {lo hi : Option Operand} {dst : Option Tmp} {d m n : Nat} : slG P o ty x lo hi dst J ⟨t, r⟩ (.own d m n) = lslice P r ty (St.mk t r).get x lo hi none (kput dst J ⟨t, r⟩) := (rfl)
def karr (cs : List L) (n : Nat) (lo hi : Option L) (N : St → L → Prop) (s : St) (ps : List PV) : Prop :=
  ∃ l h, bndI 0 lo = some l ∧ bndI n hi = some h ∧ 0 ≤ l ∧ l ≤ h ∧ h ≤ n ∧ N s (.p (.sl (((ps.map fun p => [p]).drop l.toNat).take (h.toNat - l.toNat))))
def laT (P : Program) (o : Option (Nat × TypeId × Nat)) (s : St) (d : Nat) (lo hi : Option L) (N : St → L → Prop) (q : Option Reg) : Prop :=
  match q, o with
  | some (.var _ cs), some (n, _, sz) => sz = 1 ∧ n = cs.length ∧ whenS (allSome L.pure? cs) (karr cs n lo hi N (freezeBy d (some .gone) s))
  | _, _ => False
theorem u_larr {lo hi : Option Operand} {N : St → L → Prop} {q : Option Reg} {d : Nat} : larr P ty ⟨t, r⟩ d lo hi N q = laT P (arE P ty) ⟨t, r⟩ d (bnd ⟨t, r⟩ lo) (bnd ⟨t, r⟩ hi) N q := by
  have h1 : ∀ (d : Int) (q : Option Operand), bound (St.mk t r).get d q = bndI d (bnd ⟨t, r⟩ q) := by
    intro d q
    cases q with
    | none => rfl
    | some q =>
      simp only [bound, bnd]
      cases (St.mk t r).get q with
      | p v => cases v <;> rfl
      | _ => rfl
  unfold larr laT karr whenS
  simp only [h1]
  cases q with
  | none => rfl
  | some q => cases q <;> first | rfl | (cases arE P ty <;> rfl)
theorem u_laT {lo hi : Option L} {N : St → L → Prop} {d n sz : Nat} {e T : TypeId} {cs : List L} : laT P (some (n, e, sz)) ⟨t, r⟩ d lo hi N (some (.var T cs)) = (sz = 1 ∧ n = cs.length ∧ whenS (allSome L.pure? cs) (karr cs n lo hi N (freezeBy d (some .gone) ⟨t, r⟩))) := (rfl)
theorem u_karr_l {cs : List L} {n : Nat} {l : Int} {N : St → L → Prop} {ps : List PV} : karr cs n (some (.p (.int k l))) none N ⟨t, r⟩ ps = (0 ≤ l ∧ l ≤ n ∧ N ⟨t, r⟩ (.p (.sl (((ps.map fun p => [p]).drop l.toNat).take ((n : Int).toNat - l.toNat))))) := by
  apply pe
  constructor
  · rintro ⟨l', h', g1, g2, h1, h2, h3, h4⟩
    cases g1; cases g2
    exact ⟨h1, h2, h4⟩
  · rintro ⟨h1, h2, h3⟩
    exact ⟨_, _, rfl, rfl, h1, h2, by omega, h3⟩
theorem u_karr_h {cs : List L} {n : Nat} {h : Int} {N : St → L → Prop} {ps : List PV} : karr cs n none (some (.p (.int k h))) N ⟨t, r⟩ ps = (0 ≤ h ∧ h ≤ n ∧ N ⟨t, r⟩ (.p (.sl ((ps.map fun p => [p]).take h.toNat)))) := by
  simp [karr, bndI]
theorem u_karr_lh {cs : List L} {n : Nat} {l h : Int} {N : St → L → Prop} {ps : List PV} : karr cs n (some (.p (.int k l))) (some (.p (.int k' h))) N ⟨t, r⟩ ps = (0 ≤ l ∧ l ≤ h ∧ h ≤ n ∧ N ⟨t, r⟩ (.p (.sl (((ps.map fun p => [p]).drop l.toNat).take (h.toNat - l.toNat))))) := by
  simp [karr, bndI]
theorem u_karr_n {cs : List L} {n : Nat} {N : St → L → Prop} {ps : List PV} : karr cs n none none N ⟨t, r⟩ ps = N ⟨t, r⟩ (.p (.sl ((ps.map fun p => [p]).take n))) := by
  simp [karr, bndI]
def rsz : Option Reg → Option Nat
  | some (.row _ sz _) => some sz
  | some (.lrow _ sz _ _) => some sz
  | _ => none
def rln : Option Reg → Nat
  | some (.row _ _ es) => es.length
  | some (.lrow _ _ _ es) => es.length
  | _ => 0
theorem u_rowSz : rowSz r d = rsz (findReg d r) := by
  unfold rowSz rsz; cases findReg d r with
  | none => rfl
  | some g => cases g <;> rfl
theorem u_rowLen : rowLen r d = rln (findReg d r) := by
  unfold rowLen rln; cases findReg d r with
  | none => rfl
  | some g => cases g <;> rfl
theorem u_rsz_row : rsz (some (.row T sz es)) = some sz := (rfl)
theorem u_rsz_lrow {fu : Bool} {ll : List (List L)} : rsz (some (.lrow T sz fu ll)) = some sz := (rfl)
theorem u_rln_row : rln (some (.row T sz es)) = es.length := (rfl)
theorem u_rln_lrow {fu : Bool} {ll : List (List L)} : rln (some (.lrow T sz fu ll)) = ll.length := (rfl)
theorem u_extract {xs : List PV} : lextract (.tup xs) i K = getE (xs[i]?) (kp K) := (rfl)
theorem u_nil_ptr : lnil (.ptr d i j) K = K (.ptr d i j) := (rfl)
theorem u_nil_eptr : lnil (.eptr cs) K = K (.eptr cs) := (rfl)
theorem u_nil_fn {g : FuncId} {ids : List Nat} : lnil (.fn g ids) K = K (.fn g ids) := (rfl)
def kfn (g : FuncId) (K : L → Prop) (ids : List Nat) : Prop := K (.fn g ids)
theorem u_kfn {g : FuncId} {ids : List Nat} : kfn g K ids = K (.fn g ids) := (rfl)
theorem u_caps {g : FuncId} : lcaps g ls K = whenS (capsOf ls) (kfn g K) := (rfl)
def capC (d : Nat) : Option (List Nat) → Option (List Nat)
  | some l => some (d :: l)
  | none => none
theorem capC_some {l : List Nat} : capC d (some l) = some (d :: l) := (rfl)
theorem u_caps_nil : capsOf [] = some [] := (rfl)
theorem u_caps_cons : capsOf (.ptr d 0 0 :: ls) = capC d (capsOf ls) := (rfl)

/-! ### A struct, part by part -/
def kbuild (P : Program) (ty : TypeId) (parts : List (Nat × L)) (K : L → Prop) (z : List PV) : Prop := fieldsFull P ty = true ∧ whenS (fillPV P ty z parts) (kagg K)
theorem u_kbuild {parts : List (Nat × L)} {z : List PV} : kbuild P ty parts K z = (fieldsFull P ty = true ∧ whenS (fillPV P ty z parts) (kagg K)) := (rfl)
theorem u_build {parts : List (Nat × L)} : lbuild P ty parts K = whenS (zeroPV P ty) (kbuild P ty parts K) := (rfl)
def fillT (P : Program) (ty : TypeId) (cs : List PV) (o : Option (Nat × TypeId)) (x : L) (rest : List (Nat × L)) : Option (List PV) :=
  match o, x with
  | some (off, ft), .p (.agg xs) => if xs.length = P.cellsOf ft ∧ off + xs.length ≤ cs.length then fillPV P ty (cs.take off ++ xs ++ cs.drop (off + xs.length)) rest else none
  | some (off, ft), .p v => if 1 = P.cellsOf ft ∧ off + 1 ≤ cs.length then fillPV P ty (cs.set off v) rest else none
  | _, _ => none
theorem u_fill_nil : fillPV P ty cs [] = some cs := (rfl)
theorem u_fill_cons {rest : List (Nat × L)} {x : L} : fillPV P ty cs ((i, x) :: rest) = fillT P ty cs (fld P ty i) x rest := by
  simp only [fillPV, fillT]; rfl
theorem u_fill_agg {rest : List (Nat × L)} {xs : List PV} : fillT P ty cs (some (off, ft)) (.p (.agg xs)) rest = if xs.length = P.cellsOf ft ∧ off + xs.length ≤ cs.length then fillPV P ty (cs.take off ++ xs ++ cs.drop (off + xs.length)) rest else none := (rfl)
theorem u_fill_bool {rest : List (Nat × L)} {v : Bool} : fillT P ty cs (some (off, ft)) (.p (.bool v)) rest = if 1 = P.cellsOf ft ∧ off + 1 ≤ cs.length then fillPV P ty (cs.set off (.bool v)) rest else none := (rfl)
theorem u_fill_int {rest : List (Nat × L)} : fillT P ty cs (some (off, ft)) (.p (.int k a)) rest = if 1 = P.cellsOf ft ∧ off + 1 ≤ cs.length then fillPV P ty (cs.set off (.int k a)) rest else none := (rfl)
theorem u_fill_str {rest : List (Nat × L)} : fillT P ty cs (some (off, ft)) (.p (.str x)) rest = if 1 = P.cellsOf ft ∧ off + 1 ≤ cs.length then fillPV P ty (cs.set off (.str x)) rest else none := (rfl)
theorem u_fill_sl {rest : List (Nat × L)} : fillT P ty cs (some (off, ft)) (.p (.sl es)) rest = if 1 = P.cellsOf ft ∧ off + 1 ≤ cs.length then fillPV P ty (cs.set off (.sl es)) rest else none := (rfl)
theorem u_fill_snil {rest : List (Nat × L)} : fillT P ty cs (some (off, ft)) (.p .snil) rest = if 1 = P.cellsOf ft ∧ off + 1 ≤ cs.length then fillPV P ty (cs.set off .snil) rest else none := (rfl)

/-! ### Memory -/
def kalloc (d : Nat) (T : TypeId) (s : St) (J : St → Prop) (zs : List PV) : Prop := J ((s.newReg d (.var T (zs.map .p))).put (some d) (.ptr d 0 0))
theorem u_kalloc {zs : List PV} : kalloc d T ⟨t, r⟩ J zs = J ((St.newReg d (.var T (zs.map .p)) ⟨t, r⟩).put (some d) (.ptr d 0 0)) := (rfl)
theorem u_alloc : lalloc P d T ⟨t, r⟩ J = (d < 1000 ∧ whenS (zeroPV P T) (kalloc d T ⟨t, r⟩ J)) := (rfl)
def kbox (d : Nat) (T : TypeId) (s : St) (J : St → Prop) (xs : List L) : Prop := J ((s.newReg d (.var T (xs.map (L.forget d)))).put (some d) (.ptr d 0 0))
theorem u_kbox {xs : List L} : kbox d T ⟨t, r⟩ J xs = J ((St.newReg d (.var T (xs.map (L.forget d))) ⟨t, r⟩).put (some d) (.ptr d 0 0)) := (rfl)
theorem u_box {o : Operand} : lbox d T ⟨t, r⟩ o J = (d < 1000 ∧ whenS (cellsL ((St.mk t r).get o)) (kbox d T ⟨t, r⟩ J)) := (rfl)
theorem u_newReg {q : Reg} : St.newReg d q ⟨t, r⟩ = ⟨t.map (L.forget d), (d, q) :: dropReg d r⟩ := (rfl)
theorem u_forget : St.forget d ⟨t, r⟩ = ⟨t.map (L.forget d), dropReg d r⟩ := (rfl)
theorem cell_agg {ps : List PV} : cellsL (.p (.agg ps)) = some (ps.map .p) := (rfl)
theorem cell_bool {c : Bool} : cellsL (.p (.bool c)) = some [.p (.bool c)] := (rfl)
theorem cell_int : cellsL (.p (.int k a)) = some [.p (.int k a)] := (rfl)
theorem cell_str : cellsL (.p (.str x)) = some [.p (.str x)] := (rfl)
theorem cell_sl : cellsL (.p (.sl es)) = some [.p (.sl es)] := (rfl)
theorem cell_snil : cellsL (.p .snil) = some [.p .snil] := (rfl)
theorem cell_nptr : cellsL (.p .nptr) = some [.p .nptr] := (rfl)
theorem cell_own {o m : Nat} : cellsL (.own d o m) = some [.own d o m] := (rfl)
theorem cell_ptr : cellsL (.ptr d i j) = some [.ptr d i j] := (rfl)
theorem cell_cfn {g : FuncId} {ids : List Nat} : cellsL (.cfn g ids) = some [.cfn g ids] := (rfl)
theorem cell_yld {l : Nat} : cellsL (.yld l) = some [.yld l] := (rfl)
theorem cell_eptr : cellsL (.eptr cs) = some [.eptr cs] := (rfl)
theorem cell_nmap : cellsL (.p .nmap) = some [.p .nmap] := (rfl)
theorem cell_nfn : cellsL (.p .nfn) = some [.p .nfn] := (rfl)
theorem cell_nifc : cellsL (.p .nifc) = some [.p .nifc] := (rfl)
theorem cell_mref : cellsL (.mref d) = some [.mref d] := (rfl)
theorem cell_ifc : cellsL (.p .ifc) = some [.p .ifc] := (rfl)
theorem cell_mp {m : List (PV × PV)} : cellsL (.p (.mp m)) = some [.p (.mp m)] := (rfl)
theorem cell_fn {g : FuncId} {ids : List Nat} : cellsL (.fn g ids) = some [.fn g ids] := (rfl)

def kst (P : Program) (ty : TypeId) (d i j : Nat) (T : TypeId) (cs : List L) (s : St) (J : St → Prop) (xs : List L) : Prop :=
  i = 0 ∧ xs.length = P.cellsOf ty ∧ P.cellsOf ty ≠ 0 ∧ j + xs.length ≤ cs.length ∧ J { s with regs := setReg d (.var T (cs.take j ++ xs ++ cs.drop (j + xs.length))) s.regs }
theorem u_kst {xs : List L} : kst P ty d i j T ls ⟨t, r⟩ J xs = (i = 0 ∧ xs.length = P.cellsOf ty ∧ P.cellsOf ty ≠ 0 ∧ j + xs.length ≤ ls.length ∧ J ⟨t, setReg d (.var T (ls.take j ++ xs ++ ls.drop (j + xs.length))) r⟩) := (rfl)
def kst3 (P : Program) (ty : TypeId) (a : Operand) (d i j : Nat) (T : TypeId) (sz : Nat) (es : List (List PV)) (s : St) (J : St → Prop) (ps : List PV) (e : List PV) : Prop :=
  ps.length = P.cellsOf ty ∧ P.cellsOf ty ≠ 0 ∧ j + ps.length ≤ e.length ∧ findReg d s.regs = some (.row T sz es) ∧ s.get a = .ptr d i j ∧ J { s with regs := setReg d (.row T sz (es.set i (e.take j ++ ps ++ e.drop (j + ps.length)))) s.regs }
theorem u_kst3 {o : Operand} {ps c : List PV} : kst3 P ty o d i j T sz es ⟨t, r⟩ J ps c = (ps.length = P.cellsOf ty ∧ P.cellsOf ty ≠ 0 ∧ j + ps.length ≤ c.length ∧ findReg d r = some (.row T sz es) ∧ (St.mk t r).get o = .ptr d i j ∧ J ⟨t, setReg d (.row T sz (es.set i (c.take j ++ ps ++ c.drop (j + ps.length)))) r⟩) := (rfl)
def kst2 (P : Program) (ty : TypeId) (a : Operand) (d i j : Nat) (T : TypeId) (sz : Nat) (es : List (List PV)) (s : St) (J : St → Prop) (ps : List PV) : Prop := getE (es[i]?) (kst3 P ty a d i j T sz es s J ps)
theorem u_kst2 {o : Operand} {ps : List PV} : kst2 P ty o d i j T sz es ⟨t, r⟩ J ps = getE (es[i]?) (kst3 P ty o d i j T sz es ⟨t, r⟩ J ps) := (rfl)
def kst1 (P : Program) (ty : TypeId) (a : Operand) (d i j : Nat) (T : TypeId) (sz : Nat) (es : List (List PV)) (s : St) (J : St → Prop) (xs : List L) : Prop := whenS (allSome L.pure? xs) (kst2 P ty a d i j T sz es s J)
theorem u_kst1 {o : Operand} {xs : List L} : kst1 P ty o d i j T sz es ⟨t, r⟩ J xs = whenS (allSome L.pure? xs) (kst2 P ty o d i j T sz es ⟨t, r⟩ J) := (rfl)
def strow (P : Program) (ty : TypeId) (a x : Operand) (d i j : Nat) (T : TypeId) (sz : Nat) (es : List (List PV)) (J : St → Prop) (s : St) : Prop := whenS (cellsL (s.get x)) (kst1 P ty a d i j T sz es s J)
theorem u_strow {o q : Operand} : strow P ty o q d i j T sz es J ⟨t, r⟩ = whenS (cellsL ((St.mk t r).get q)) (kst1 P ty o d i j T sz es ⟨t, r⟩ J) := (rfl)
def kls2 (P : Program) (ty : TypeId) (d i j : Nat) (T : TypeId) (sz : Nat) (f : Bool) (es : List (List L)) (s : St) (J : St → Prop) (xs : List L) (e : List L) : Prop :=
  xs.length = P.cellsOf ty ∧ P.cellsOf ty ≠ 0 ∧ j + xs.length ≤ e.length ∧ J { s with regs := setReg d (.lrow T sz f (es.set i (e.take j ++ xs ++ e.drop (j + xs.length)))) s.regs }
def kls (P : Program) (ty : TypeId) (d i j : Nat) (T : TypeId) (sz : Nat) (f : Bool) (es : List (List L)) (s : St) (J : St → Prop) (xs : List L) : Prop := getE (es[i]?) (kls2 P ty d i j T sz f es s J xs)
theorem u_kls {xs : List L} {fu : Bool} {ll : List (List L)} : kls P ty d i j T sz fu ll ⟨t, r⟩ J xs = getE (ll[i]?) (kls2 P ty d i j T sz fu ll ⟨t, r⟩ J xs) := (rfl)
theorem u_kls2 {xs c : List L} {fu : Bool} {ll : List (List L)} : kls2 P ty d i j T sz fu ll ⟨t, r⟩ J xs c = (xs.length = P.cellsOf ty ∧ P.cellsOf ty ≠ 0 ∧ j + xs.length ≤ c.length ∧ J ⟨t, setReg d (.lrow T sz fu (ll.set i (c.take j ++ xs ++ c.drop (j + xs.length)))) r⟩) := (rfl)
def stR (P : Program) (ty : TypeId) (s : St) (a x : Operand) (d i j : Nat) (J : St → Prop) (q : Option Reg) : Prop :=
  match q with
  | some (.var T cs) => whenS (cellsL (s.get x)) (kst P ty d i j T cs s J)
  | some (.row T sz es) => strow P ty a x d i j T sz es J (s.freezeOps [x])
  | some (.lrow T sz f es) => whenS (cellsL (s.get x)) (kls P ty d i j T sz f es s J)
  | some (.obj _) => False
  | none => False
def stA (P : Program) (ty : TypeId) (s : St) (a x : Operand) (J : St → Prop) (la : L) : Prop :=
  match la with
  | .ptr d i j => stR P ty s a x d i j J (findReg d s.regs)
  | _ => False
theorem u_store {o q : Operand} : lstore P ty ⟨t, r⟩ o q J = stA P ty ⟨t, r⟩ o q J ((St.mk t r).get o) := by
  unfold lstore stA stR strow kst1 kst2 kst3 kst kls kls2 whenS getE
  apply pe
  cases (St.mk t r).get o with
  | ptr d i j =>
    simp only
    cases findReg d r with
    | none => exact Iff.rfl
    | some g =>
      cases g with
      | var T cs => exact Iff.rfl
      | row T sz es => exact Iff.rfl
      | lrow T sz f es => exact Iff.rfl
      | obj o => exact Iff.rfl
  | _ => exact Iff.rfl
theorem u_stA {o q : Operand} : stA P ty ⟨t, r⟩ o q J (.ptr d i j) = stR P ty ⟨t, r⟩ o q d i j J (findReg d r) := (rfl)
theorem u_stR_var {o q : Operand} : stR P ty ⟨t, r⟩ o q d i j J (some (.var T ls)) = whenS (cellsL ((St.mk t r).get q)) (kst P ty d i j T ls ⟨t, r⟩ J) := (rfl)
theorem u_stR_row {o q : Operand} : stR P ty ⟨t, r⟩ o q d i j J (some (.row T sz es)) = strow P ty o q d i j T sz es J (St.freezeOps ⟨t, r⟩ [q]) := (rfl)

theorem u_stR_lrow {o q : Operand} {fu : Bool} {ll : List (List L)} : stR P ty ⟨t, r⟩ o q d i j J (some (.lrow T sz fu ll)) = whenS (cellsL ((St.mk t r).get q)) (kls P ty d i j T sz fu ll ⟨t, r⟩ J) := (rfl)

/-! ### Slices that are given up -/
def frz (s : St) (xs : List Operand) : L → St
  | .own d _ _ => if d < 1000 then (s.freeze d).freezeOps xs else s.freezeOps xs
  | .mref d => if d < 1000 then (s.freeze d).freezeOps xs else s.freezeOps xs
  | _ => s.freezeOps xs
theorem u_frz_nil : St.freezeOps ⟨t, r⟩ [] = ⟨t, r⟩ := (rfl)
theorem u_frz_cons {o : Operand} {os : List Operand} : St.freezeOps ⟨t, r⟩ (o :: os) = frz ⟨t, r⟩ os ((St.mk t r).get o) := by
  simp only [St.freezeOps, frz]
  cases (St.mk t r).get o <;> rfl
theorem u_frz_p {os : List Operand} {v : PV} : frz ⟨t, r⟩ os (.p v) = St.freezeOps ⟨t, r⟩ os := (rfl)
theorem u_frz_ptr {os : List Operand} : frz ⟨t, r⟩ os (.ptr d i j) = St.freezeOps ⟨t, r⟩ os := (rfl)
theorem u_frz_mref {os : List Operand} : frz ⟨t, r⟩ os (.mref d) = if d < 1000 then (St.freeze d ⟨t, r⟩).freezeOps os else St.freezeOps ⟨t, r⟩ os := (rfl)
theorem u_frz_cfn {os : List Operand} {g : FuncId} {ids : List Nat} : frz ⟨t, r⟩ os (.cfn g ids) = St.freezeOps ⟨t, r⟩ os := (rfl)
theorem u_frz_yld {os : List Operand} {l : Nat} : frz ⟨t, r⟩ os (.yld l) = St.freezeOps ⟨t, r⟩ os := (rfl)
theorem u_frz_junk {os : List Operand} : frz ⟨t, r⟩ os .junk = St.freezeOps ⟨t, r⟩ os := (rfl)
theorem u_frz_eptr {os : List Operand} : frz ⟨t, r⟩ os (.eptr cs) = St.freezeOps ⟨t, r⟩ os := (rfl)
theorem u_frz_fn {os : List Operand} {g : FuncId} {ids : List Nat} : frz ⟨t, r⟩ os (.fn g ids) = St.freezeOps ⟨t, r⟩ os := (rfl)
theorem u_frz_tup {os : List Operand} {xs : List PV} : frz ⟨t, r⟩ os (.tup xs) = St.freezeOps ⟨t, r⟩ os := (rfl)
theorem u_frz_own {os : List Operand} {o m : Nat} : frz ⟨t, r⟩ os (.own d o m) = if d < 1000 then (St.freeze d ⟨t, r⟩).freezeOps os else St.freezeOps ⟨t, r⟩ os := (rfl)
theorem u_freeze : St.freeze d ⟨t, r⟩ = freezeBy d (fzOf (findReg d r)) ⟨t, r⟩ := (rfl)
theorem u_fzOf_row : fzOf (some (.row T sz es)) = some (.rw es) := (rfl)
theorem u_fzOf_mp {m : List (PV × PV)} : fzOf (some (.obj (.mp m))) = some (.mp m) := (rfl)
theorem u_fzOf_none : fzOf none = none := (rfl)
theorem u_fzOf_lrow {fu : Bool} {ll : List (List L)} : fzOf (some (.lrow T sz fu ll)) = none := (rfl)
theorem u_frzBy {z : Fz} : freezeBy d (some z) ⟨t, r⟩ = ⟨t.map (L.freeze d z), freezeRegs d z r⟩ := (rfl)
theorem u_frzBy_none : freezeBy d none ⟨t, r⟩ = ⟨t, r⟩ := (rfl)

/-! ### Calls -/
def callT (X : Cx) (s : St) (args : List Operand) (dst : Option Tmp) (J : St → Prop) (l : L) : Prop :=
  match l with
  | .fn g ids => lcallK X (X.kind g) g ids args s dst J
  | _ => False
theorem u_call {f : Operand} {args : List Operand} {dst : Option Tmp} : lcall X ⟨t, r⟩ f args dst J = callT X ⟨t, r⟩ args dst J ((St.mk t r).get f) := (rfl)
theorem u_callT {args : List Operand} {dst : Option Tmp} {g : FuncId} {ids : List Nat} : callT X ⟨t, r⟩ args dst J (.fn g ids) = lcallK X (X.kind g) g ids args ⟨t, r⟩ dst J := (rfl)
def callF (X : Cx) (g : FuncId) (ids : List Nat) (args : List Operand) (dst : Option Tmp) (J : St → Prop) (s : St) : Prop := lcallA X g (args.map s.get ++ ids.map fun d => L.ptr d 0 0) s dst J
theorem u_callK0 {args : List Operand} {dst : Option Tmp} {g : FuncId} {ids : List Nat} : lcallK X 0 g ids args ⟨t, r⟩ dst J = callF X g ids args dst J (St.freezeOps ⟨t, r⟩ args) := (rfl)
theorem u_callK1 {args : List Operand} {dst : Option Tmp} {g : FuncId} {ids : List Nat} : lcallK X 1 g ids args ⟨t, r⟩ dst J = callF X g ids args dst J ⟨t, r⟩ := (rfl)
theorem u_callK2 {args : List Operand} {dst : Option Tmp} {g : FuncId} : lcallK X 2 g [] args ⟨t, r⟩ dst J = lext X g (args.map (St.mk t r).get) ⟨t, r⟩ dst J := by
  show ([] = [] ∧ _) = _
  simp only [true_and]
theorem u_callF {args : List Operand} {dst : Option Tmp} {g : FuncId} {ids : List Nat} : callF X g ids args dst J ⟨t, r⟩ = lcallA X g (args.map (St.mk t r).get ++ ids.map fun d => L.ptr d 0 0) ⟨t, r⟩ dst J := (rfl)
theorem u_callA {ls : List L} {dst : Option Tmp} {g : FuncId} : lcallA X g ls ⟨t, r⟩ dst J = lcallR X g ls ⟨t, r⟩ (canon (dedup [] (argIds ls)) r) dst J := (rfl)
theorem L.map_none (l : L) (h : l.ids = []) (f : Nat → Option Nat) : l.map f = l := by
  cases l <;> simp [L.ids] at h <;> first | rfl | (subst h; rfl)
/-- A call to which no region is handed. -/
def kback0 (dst : Option Tmp) (K : St → Prop) (s : St) (l : L) (rs' : Regs) : Prop := kback [] dst K s l rs'
theorem u_callR_cons {ls : List L} {ρ : Ren} {x : Nat × Nat} {dst : Option Tmp} {g : FuncId} : lcallR X g ls ⟨t, r⟩ (x :: ρ) dst J = LCalls X g (ls.map (L.map (upId (x :: ρ)))) (upRegs (x :: ρ) r) (kback (x :: ρ) dst J ⟨t, r⟩) := (rfl)
theorem upRegs_nil : ∀ (r : Regs), upRegs [] r = []
  | [] => rfl
  | (d, q) :: r => by simp [upRegs, upId, upRegs_nil r]
theorem u_callR_nil {ls : List L} {dst : Option Tmp} {g : FuncId} : lcallR X g ls ⟨t, r⟩ [] dst J = LCalls X g (ls.map (L.map (upId []))) [] (kback0 dst J ⟨t, r⟩) := by
  unfold lcallR kback0
  rw [upRegs_nil]
theorem stay_id : ∀ (l : L), l.map (stayId []) = l := by
  have h : ∀ ds, allSome (stayId []) ds = some ds := by
    intro ds
    induction ds with
    | nil => rfl
    | cons d ds ih => simp only [allSome, ih]; simp [stayId]
  intro l
  cases l with
  | ptr d i j => rfl
  | own d i j => rfl
  | mref d => rfl
  | fn g ds => simp [L.map, h, L.fnO]
  | cfn g ds => simp [L.map, h, L.cfnO]
  | _ => rfl
theorem stay_idR (q : Reg) : q.map (stayId []) = q := by
  cases q with
  | var T cs => simp only [Reg.map]; congr 1; exact (List.map_congr_left fun l _ => stay_id l).trans (List.map_id _)
  | lrow T sz f es =>
    simp only [Reg.map]; congr 1
    refine (List.map_congr_left fun e _ => ?_).trans (List.map_id _)
    exact (List.map_congr_left fun l _ => stay_id l).trans (List.map_id _)
  | _ => rfl
theorem oldRegs_id : ∀ (r : Regs), oldRegs [] none [] [] r = r
  | [] => rfl
  | (d, q) :: r => by simp only [oldRegs, keepIt, upId, if_true, stay_idR, oldRegs_id r]
theorem after_id (s : St) : s.after [] none [] = s := by
  obtain ⟨t, r⟩ := s
  simp only [St.after, movedIds, newRegs, List.filter_nil, List.map_nil, List.nil_append, oldRegs_id]
  congr 1
  exact (List.map_congr_left fun l _ => stay_id l).trans (List.map_id _)
def noId (_ : Nat) : Option Nat := none
theorem u_kback0_nil {dst : Option Tmp} {l : L} : kback0 dst J ⟨t, r⟩ l [] = J ((St.mk t r).put dst (l.map noId)) := by
  unfold kback0 kback
  have e : newOf dst [] = none := rfl
  rw [e, after_id]
  have e2 : backId [] none = noId := by funext n; rfl
  rw [e2]
theorem u_kback0_cons {dst : Option Tmp} {l : L} {rs' : Regs} {x : Nat × Reg} : kback0 dst J ⟨t, r⟩ l (x :: rs') = kback [] dst J ⟨t, r⟩ l (x :: rs') := (rfl)
theorem u_kback {dst : Option Tmp} {l : L} {rs' : Regs} {ρ : Ren} : kback ρ dst J ⟨t, r⟩ l rs' = J ((St.after ρ (newOf dst rs') rs' ⟨t, r⟩).put dst (l.map (backId ρ (newOf dst rs')))) := (rfl)
/-- Slots, where these names are given up. -/
def tmpsBy (bad : List Nat) (t : List L) : List L :=
  match bad with
  | [] => t
  | _ => t.map (L.map (stayId bad))
theorem u_tmpsBy_nil : tmpsBy [] t = t := (rfl)
theorem u_tmpsBy_cons {b : Nat} {bs : List Nat} : tmpsBy (b :: bs) t = t.map (L.map (stayId (b :: bs))) := (rfl)
def regBy (bad : List Nat) (q : Reg) : Reg :=
  match bad with
  | [] => q
  | _ => q.map (stayId bad)
theorem u_regBy_nil {q : Reg} : regBy [] q = q := (rfl)
theorem u_regBy_cons {b : Nat} {bs : List Nat} {q : Reg} : regBy (b :: bs) q = q.map (stayId (b :: bs)) := (rfl)
theorem regBy_eq {bad : List Nat} {q : Reg} : regBy bad q = q.map (stayId bad) := by
  cases bad with
  | nil => exact (stay_idR q).symm
  | cons => rfl
def movedL : Ren → List Nat
  | [] => []
  | (d, n) :: ρ => if 500000 ≤ n then d :: movedL ρ else movedL ρ
theorem movedL_eq : ∀ (ρ : Ren), (ρ.filter fun x => decide (500000 ≤ x.2)).map (·.1) = movedL ρ
  | [] => rfl
  | (d, n) :: ρ => by
    simp only [movedL, List.filter_cons, decide_eq_true_eq]
    split <;> simp [movedL_eq ρ]
theorem u_moved_none {ρ : Ren} : movedIds ρ none = movedL ρ := movedL_eq ρ
theorem u_moved_some {ρ : Ren} {x : Nat} : movedIds ρ (some x) = x :: movedL ρ := by simp only [movedIds, movedL_eq]
theorem u_movedL_nil : movedL [] = [] := (rfl)
theorem u_movedL_cons {ρ : Ren} {a b : Nat} : movedL ((a, b) :: ρ) = if 500000 ≤ b then a :: movedL ρ else movedL ρ := (rfl)
theorem u_after {ρ : Ren} {nw : Option Nat} {rs' : Regs} : St.after ρ nw rs' ⟨t, r⟩ = ⟨tmpsBy (movedIds ρ nw) t, newRegs ρ nw rs' ++ oldRegs ρ nw (movedIds ρ nw) rs' r⟩ := by
  simp only [St.after]
  congr 1
  cases movedIds ρ nw with
  | nil => exact (List.map_congr_left fun l _ => stay_id l).trans (List.map_id _)
  | cons => rfl
def newF (ρ : Ren) (d : Nat) : Option Reg → Regs
  | some r => [(d, r.map (backId ρ (some d)))]
  | none => []
theorem u_new_none {ρ : Ren} {rs' : Regs} : newRegs ρ none rs' = [] := (rfl)
theorem u_new_some {ρ : Ren} {rs' : Regs} {x : Nat} : newRegs ρ (some x) rs' = newF ρ x (findReg 900 rs') := by
  simp only [newRegs, newF]; cases findReg 900 rs' <;> rfl
theorem u_newF {ρ : Ren} {x : Nat} {q : Reg} : newF ρ x (some q) = [(x, q.map (backId ρ (some x)))] := (rfl)
def oldF (e : Nat) (ρ : Ren) (nw : Option Nat) (rest : Regs) : Option Reg → Regs
  | some r => (e, r.map (backId ρ nw)) :: rest
  | none => rest
def oldN (e : Nat) (q : Reg) (ρ : Ren) (nw : Option Nat) (bad : List Nat) (rs' rest : Regs) : Option Nat → Regs
  | some n => oldF e ρ nw rest (findReg n rs')
  | none => (e, regBy bad q) :: rest
theorem u_old_nil {ρ : Ren} {nw : Option Nat} {bad : List Nat} {rs' : Regs} : oldRegs ρ nw bad rs' [] = [] := (rfl)
theorem u_old_cons {ρ : Ren} {nw : Option Nat} {bad : List Nat} {rs' : Regs} {e : Nat} {q : Reg} : oldRegs ρ nw bad rs' ((e, q) :: r) = if keepIt nw e = true then oldN e q ρ nw bad rs' (oldRegs ρ nw bad rs' r) (upId ρ e) else oldRegs ρ nw bad rs' r := by
  simp only [oldRegs, oldN, oldF, regBy_eq]
  split
  · cases upId ρ e with
    | none => rfl
    | some n => simp only; cases findReg n rs' <;> rfl
  · rfl
theorem u_oldN_some {ρ : Ren} {nw : Option Nat} {bad : List Nat} {rs' rest : Regs} {e n : Nat} {q : Reg} : oldN e q ρ nw bad rs' rest (some n) = oldF e ρ nw rest (findReg n rs') := (rfl)
theorem u_oldN_none {ρ : Ren} {nw : Option Nat} {bad : List Nat} {rs' rest : Regs} {e : Nat} {q : Reg} : oldN e q ρ nw bad rs' rest none = (e, regBy bad q) :: rest := (rfl)
theorem u_oldF_some {ρ : Ren} {nw : Option Nat} {rest : Regs} {e : Nat} {q : Reg} : oldF e ρ nw rest (some q) = (e, q.map (backId ρ nw)) :: rest := (rfl)
theorem u_oldF_none {ρ : Ren} {nw : Option Nat} {rest : Regs} {e : Nat} : oldF e ρ nw rest none = rest := (rfl)
theorem u_keepIt_none {e : Nat} : keepIt none e = true := (rfl)
theorem u_keepIt_some {x e : Nat} : keepIt (some x) e = decide (e ≠ x) := (rfl)
def newO (dst : Option Tmp) : Bool → Option Nat
  | true => some (match dst with | some d => if d < 900 then d else 990 | none => 990)
  | false => none
theorem u_newOf {dst : Option Tmp} {rs' : Regs} : newOf dst rs' = newO dst (findKey 900 rs') := by
  simp only [newOf, newO]; cases findKey 900 rs' <;> rfl
theorem u_newO_f {dst : Option Tmp} : newO dst false = none := (rfl)
theorem u_newO_t {x : Tmp} : newO (some x) true = some (if x < 900 then x else 990) := (rfl)
theorem u_newO_tn : newO none true = some 990 := (rfl)
theorem u_findKey_nil {e : Nat} : findKey e [] = false := (rfl)
theorem u_findKey_cons {e a : Nat} {q : Reg} : findKey e ((a, q) :: r) = if a = e then true else findKey e r := (rfl)
theorem u_up_nil {e : Nat} : upId [] e = none := (rfl)
theorem u_up_cons {ρ : Ren} {a b e : Nat} : upId ((a, b) :: ρ) e = if a = e then some b else upId ρ e := (rfl)
theorem u_dn_nil {e : Nat} : dnId [] e = none := (rfl)
theorem u_dn_cons {ρ : Ren} {a b e : Nat} : dnId ((a, b) :: ρ) e = if b = e then some a else dnId ρ e := (rfl)
def backN (x : Nat) : Option Nat → Option Nat
  | some e => if e = x then none else some e
  | none => none
theorem u_back_none {ρ : Ren} {e : Nat} : backId ρ none e = dnId ρ e := (rfl)
theorem u_back_some {ρ : Ren} {x e : Nat} : backId ρ (some x) e = if e = 900 then some x else backN x (dnId ρ e) := by
  simp only [backId, backN]; cases dnId ρ e <;> rfl
theorem u_backN_some {x e : Nat} : backN x (some e) = if e = x then none else some e := (rfl)
theorem u_backN_none {x : Nat} : backN x none = none := (rfl)
theorem u_stay_cons {b : Nat} {bs : List Nat} {e : Nat} : stayId (b :: bs) e = if e = b then none else stayId bs e := by
  simp only [stayId, List.contains_cons, Bool.or_eq_true, beq_iff_eq]
  by_cases h : e = b <;> simp [h]
theorem u_stay_nil {e : Nat} : stayId [] e = some e := (rfl)
theorem u_noId {e : Nat} : noId e = none := (rfl)
theorem u_ren_id {a b e : Nat} : renId a b e = if e = a then some b else if e = b then none else some e := (rfl)
theorem u_upR_nil {ρ : Ren} : upRegs ρ [] = [] := (rfl)
def upF (ρ : Ren) (q : Reg) (rest : Regs) : Option Nat → Regs
  | some n => (n, q.map (upId ρ)) :: rest
  | none => rest
theorem u_upR_cons {ρ : Ren} {a : Nat} {q : Reg} : upRegs ρ ((a, q) :: r) = upF ρ q (upRegs ρ r) (upId ρ a) := by
  simp only [upRegs, upF]; cases upId ρ a <;> rfl
theorem u_upF_some {ρ : Ren} {q : Reg} {rest : Regs} {e : Nat} : upF ρ q rest (some e) = (e, q.map (upId ρ)) :: rest := (rfl)
theorem u_upF_none {ρ : Ren} {q : Reg} {rest : Regs} : upF ρ q rest none = rest := (rfl)
theorem u_mR_var {f : Nat → Option Nat} : Reg.map f (.var T ls) = .var T (ls.map (L.map f)) := (rfl)
theorem u_mR_row {f : Nat → Option Nat} : Reg.map f (.row T sz es) = .row T sz es := (rfl)
theorem u_mR_lrow {f : Nat → Option Nat} {fu : Bool} {ll : List (List L)} : Reg.map f (.lrow T sz fu ll) = .lrow T sz fu (ll.map fun e => e.map (L.map f)) := (rfl)
theorem u_mR_obj {f : Nat → Option Nat} {o : PObj} : Reg.map f (.obj o) = .obj o := (rfl)
theorem u_m_p {f : Nat → Option Nat} {v : PV} : L.map f (.p v) = .p v := (rfl)
theorem u_m_ptr {f : Nat → Option Nat} : L.map f (.ptr d i j) = L.ptrO (f d) i j := (rfl)
theorem u_m_own {f : Nat → Option Nat} {o m : Nat} : L.map f (.own d o m) = L.ownO (f d) o m := (rfl)
theorem u_m_mref {f : Nat → Option Nat} : L.map f (.mref d) = L.mrefO (f d) := (rfl)
theorem u_m_fn {f : Nat → Option Nat} {g : FuncId} {ids : List Nat} : L.map f (.fn g ids) = L.fnO g (allSome f ids) := (rfl)
theorem u_m_cfn {f : Nat → Option Nat} {g : FuncId} {ids : List Nat} : L.map f (.cfn g ids) = L.cfnO g (allSome f ids) := (rfl)
theorem u_m_eptr {f : Nat → Option Nat} : L.map f (.eptr cs) = .eptr cs := (rfl)
theorem u_m_yld {f : Nat → Option Nat} {l : Nat} : L.map f (.yld l) = .yld l := (rfl)
theorem u_m_tup {f : Nat → Option Nat} {xs : List PV} : L.map f (.tup xs) = .tup xs := (rfl)
theorem u_m_junk {f : Nat → Option Nat} : L.map f .junk = .junk := (rfl)
theorem u_ptrO {e : Nat} : L.ptrO (some e) i j = .ptr e i j := (rfl)
theorem u_ownO {e o m : Nat} : L.ownO (some e) o m = .own e o m := (rfl)
theorem u_mrefO {e : Nat} : L.mrefO (some e) = .mref e := (rfl)
theorem u_fnO {g : FuncId} {ids : List Nat} : L.fnO g (some ids) = .fn g ids := (rfl)
theorem u_cfnO {g : FuncId} {ids : List Nat} : L.cfnO g (some ids) = .cfn g ids := (rfl)
theorem u_ptrN : L.ptrO none i j = .junk := (rfl)
theorem u_ownN {o m : Nat} : L.ownO none o m = .junk := (rfl)
theorem u_mrefN : L.mrefO none = .junk := (rfl)
theorem u_fnN {g : FuncId} : L.fnO g none = .junk := (rfl)
theorem u_cfnN {g : FuncId} : L.cfnO g none = .junk := (rfl)
theorem u_argIds {ls : List L} : argIds ls = ls.flatMap L.ids := (rfl)
theorem u_dedup_nil {old : List Nat} : dedup old [] = [] := (rfl)
theorem u_dedup_cons {old : List Nat} {a : Nat} {ds : List Nat} : dedup old (a :: ds) = if old.contains a = true then dedup old ds else a :: dedup (a :: old) ds := (rfl)
theorem u_canon_nil : canon [] r = [] := (rfl)
theorem u_canon_cons {a : Nat} {ds : List Nat} : canon (a :: ds) r = canonOf (a :: ds) (reach2 (a :: ds) (reach1 (a :: ds) r) r) := (rfl)
theorem u_canonOf {D I : List Nat} : canonOf D I = canonD 0 D ++ canonI D.length I := (rfl)
theorem u_canonD_nil {m : Nat} : canonD m [] = [] := (rfl)
theorem u_canonD_cons {m a : Nat} {ds : List Nat} : canonD m (a :: ds) = if m < 400000 then (a, 1000 + m) :: canonD (m + 1) ds else [] := (rfl)
theorem u_canonI_nil {m : Nat} : canonI m [] = [] := (rfl)
theorem u_canonI_cons {m a : Nat} {ds : List Nat} : canonI m (a :: ds) = if m < 400000 then (a, if 1000 ≤ a ∧ a < 500000 then 1000 + m else 500000 + m) :: canonI (m + 1) ds else [] := (rfl)
theorem u_reach1 {D : List Nat} : reach1 D r = dedup D (regIds D r) := (rfl)
theorem u_reach2 {D I : List Nat} : reach2 D I r = I ++ dedup (D ++ I) (regIds I r) := (rfl)
theorem u_regIds_nil {ids : List Nat} : regIds ids [] = [] := (rfl)
theorem u_regIds_cons {ids : List Nat} {a : Nat} {q : Reg} : regIds ids ((a, q) :: r) = if ids.contains a = true then q.ids ++ regIds ids r else regIds ids r := (rfl)

/-! ### Maps -/
theorem u_makeMap : lmakeMap d ⟨t, r⟩ J = (d < 1000 ∧ J ((St.newReg d (.obj (.mp [])) ⟨t, r⟩).put (some d) (.mref d))) := (rfl)
def rgT (d : Nat) (o : Option TypeDesc) (s : St) (l : L) (J : St → Prop) : Prop :=
  match o, l with
  | some .string, .p (.str u) => J ((s.newReg d (.obj (.sit u 0))).put (some d) (.ptr d 0 0))
  | some (.map _ _), .p .nmap => J ((s.newReg d (.obj (.mit [] []))).put (some d) (.ptr d 0 0))
  | some (.map _ _), .p (.mp es) => J ((s.newReg d (.obj (.mit es []))).put (some d) (.ptr d 0 0))
  | _, _ => False
theorem u_range {o : Operand} : lrange P d ty ⟨t, r⟩ o J = (d < 1000 ∧ rgT d (P.underlying ty) ⟨t, r⟩ ((St.mk t r).get o) J) := (rfl)
theorem u_rg_str : rgT d (some .string) ⟨t, r⟩ (.p (.str x)) J = J ((St.newReg d (.obj (.sit x 0)) ⟨t, r⟩).put (some d) (.ptr d 0 0)) := (rfl)
theorem u_rg_nmap {k1 e1 : TypeId} : rgT d (some (.map k1 e1)) ⟨t, r⟩ (.p .nmap) J = J ((St.newReg d (.obj (.mit [] [])) ⟨t, r⟩).put (some d) (.ptr d 0 0)) := (rfl)
theorem u_rg_mp {k1 e1 : TypeId} {m : List (PV × PV)} : rgT d (some (.map k1 e1)) ⟨t, r⟩ (.p (.mp m)) J = J ((St.newReg d (.obj (.mit m [])) ⟨t, r⟩).put (some d) (.ptr d 0 0)) := (rfl)
def nxT (s : St) (b : Bool) (N : St → L → Prop) (l : L) : Prop :=
  match l with
  | .ptr d 0 0 => match findReg d s.regs, b with
    | some (.obj (.sit u pos)), true => (pos < u.length → N { s with regs := setReg d (.obj (.sit u (pos + (Utf8.decode ⟨⟨u⟩⟩ pos).2))) s.regs } (.tup [.bool true, .int .i64 pos, .int .i32 (Utf8.decode ⟨⟨u⟩⟩ pos).1])) ∧
        (¬ pos < u.length → N s (.tup [.bool false]))
    | some (.obj (.mit es seen)), false => (∀ i p, es[i]? = some p → i ∉ seen → N { s with regs := setReg d (.obj (.mit es (seen ++ [i]))) s.regs } (.tup [.bool true, p.1, p.2])) ∧
        ((∀ i, i < es.length → i ∈ seen) → N s (.tup [.bool false]))
    | _, _ => False
  | _ => False
def nxS (s : St) (d : Nat) (N : St → L → Prop) : Option Reg → Prop
  | some (.obj (.sit u pos)) => if pos < u.length then N { s with regs := setReg d (.obj (.sit u (pos + (Utf8.decode ⟨⟨u⟩⟩ pos).2))) s.regs } (.tup [.bool true, .int .i64 pos, .int .i32 (Utf8.decode ⟨⟨u⟩⟩ pos).1]) else N s (.tup [.bool false])
  | _ => False
def nxM (s : St) (d : Nat) (N : St → L → Prop) : Option Reg → Prop
  | some (.obj (.mit es seen)) => (∀ i p, es[i]? = some p → i ∉ seen → N { s with regs := setReg d (.obj (.mit es (seen ++ [i]))) s.regs } (.tup [.bool true, p.1, p.2])) ∧
        ((∀ i, i < es.length → i ∈ seen) → N s (.tup [.bool false]))
  | _ => False
variable {N : St → L → Prop}
theorem u_next {o : Operand} {b : Bool} : lnext ⟨t, r⟩ o b N = nxT ⟨t, r⟩ b N ((St.mk t r).get o) := (rfl)
theorem u_nxT_s : nxT ⟨t, r⟩ true N (.ptr d 0 0) = nxS ⟨t, r⟩ d N (findReg d r) := by
  simp only [nxT, nxS]
  cases findReg d r with
  | none => rfl
  | some g =>
    cases g with
    | obj o =>
      cases o with
      | sit u pos => apply pe; by_cases h : pos < u.length <;> simp [h]
      | _ => rfl
    | _ => rfl
theorem u_nxT_m : nxT ⟨t, r⟩ false N (.ptr d 0 0) = nxM ⟨t, r⟩ d N (findReg d r) := by
  simp only [nxT, nxM]
  cases findReg d r with
  | none => rfl
  | some g =>
    cases g with
    | obj o => cases o <;> rfl
    | _ => rfl
theorem u_nxS {pos : Nat} : nxS ⟨t, r⟩ d N (some (.obj (.sit x pos))) = if pos < x.length then N ⟨t, setReg d (.obj (.sit x (pos + (Utf8.decode ⟨⟨x⟩⟩ pos).2))) r⟩ (.tup [.bool true, .int .i64 pos, .int .i32 (Utf8.decode ⟨⟨x⟩⟩ pos).1]) else N ⟨t, r⟩ (.tup [.bool false]) := (rfl)
theorem u_nxM {m : List (PV × PV)} {seen : List Nat} : nxM ⟨t, r⟩ d N (some (.obj (.mit m seen))) = ((∀ i p, m[i]? = some p → i ∉ seen → N ⟨t, setReg d (.obj (.mit m (seen ++ [i]))) r⟩ (.tup [.bool true, p.1, p.2])) ∧
        ((∀ i, i < m.length → i ∈ seen) → N ⟨t, r⟩ (.tup [.bool false]))) := (rfl)
def enT (r : Regs) (K : L → Prop) (l : L) : Prop :=
  match l with
  | .ptr d 0 0 => match findReg d r with
    | some (.obj (.mit es seen)) => ∃ i, seen.getLast? = some i ∧ ∃ p, es[i]? = some p ∧ K (.tup [p.1, p.2])
    | _ => False
  | _ => False
def enM (K : L → Prop) : Option Reg → Prop
  | some (.obj (.mit es seen)) => ∃ i, seen.getLast? = some i ∧ ∃ p, es[i]? = some p ∧ K (.tup [p.1, p.2])
  | _ => False
theorem u_entry {o : Operand} : lentry ⟨t, r⟩ o K = enT r K ((St.mk t r).get o) := (rfl)
theorem u_enT : enT r K (.ptr d 0 0) = enM K (findReg d r) := (rfl)
theorem u_enM {m : List (PV × PV)} {seen : List Nat} {q : Nat} : enM K (some (.obj (.mit m (seen ++ [q])))) = ∃ p, m[q]? = some p ∧ K (.tup [p.1, p.2]) := by
  apply pe
  simp [enM]
def muS (P : Program) (d : Nat) (s : St) (J : St → Prop) (es' : List (PV × PV)) : Prop := J { s with regs := setReg d (.obj (.mp es')) s.regs }
theorem u_muS {m : List (PV × PV)} : muS P d ⟨t, r⟩ J m = J ⟨t, setReg d (.obj (.mp m)) r⟩ := (rfl)
def muR (P : Program) (d : Nat) (o : Option (TypeId × TypeId)) (lk lv : L) (s : St) (J : St → Prop) (q : Option Reg) : Prop :=
  match q, o, lk, lv with
  | some (.obj (.mp es)), some (kt, _), .p kp, .p vp => keyFits P kt kp = true ∧ whenS (mput kp vp es) (muS P d s J)
  | _, _, _, _ => False
def muT (P : Program) (ty : TypeId) (k v : Operand) (J : St → Prop) (s : St) (l : L) : Prop :=
  match l with
  | .mref d => muR P d (mapT P ty) (s.get k) (s.get v) s J (findReg d s.regs)
  | _ => False
def muF (P : Program) (ty : TypeId) (m k v : Operand) (J : St → Prop) (s : St) : Prop := muT P ty k v J s (s.get m)
theorem u_mapUpdate {o1 o2 o3 : Operand} : lmapUpdate P ty ⟨t, r⟩ o1 o2 o3 J = muF P ty o1 o2 o3 J (St.freezeOps ⟨t, r⟩ [o3]) := by
  unfold lmapUpdate muF muT muR whenS muS
  generalize St.freezeOps ⟨t, r⟩ [o3] = s
  cases s.get o1 <;> rfl
theorem u_muF {o1 o2 o3 : Operand} : muF P ty o1 o2 o3 J ⟨t, r⟩ = muT P ty o2 o3 J ⟨t, r⟩ ((St.mk t r).get o1) := (rfl)
theorem u_muT {o2 o3 : Operand} : muT P ty o2 o3 J ⟨t, r⟩ (.mref d) = muR P d (mapT P ty) ((St.mk t r).get o2) ((St.mk t r).get o3) ⟨t, r⟩ J (findReg d r) := (rfl)
theorem u_muR {kt et : TypeId} {v w : PV} {m : List (PV × PV)} : muR P d (some (kt, et)) (.p v) (.p w) ⟨t, r⟩ J (some (.obj (.mp m))) = (keyFits P kt v = true ∧ whenS (mput v w m) (muS P d ⟨t, r⟩ J)) := (rfl)
def mdR (P : Program) (d : Nat) (o : Option (TypeId × TypeId)) (lk : L) (s : St) (J : St → Prop) (q : Option Reg) : Prop :=
  match q, o, lk with
  | some (.obj (.mp es)), some (kt, _), .p kp => keyFits P kt kp = true ∧ whenS (mdel kp es) (muS P d s J)
  | _, _, _ => False
def mdT (P : Program) (ty : TypeId) (k : Operand) (J : St → Prop) (s : St) (l : L) : Prop :=
  match l with
  | .mref d => mdR P d (mapT P ty) (s.get k) s J (findReg d s.regs)
  | _ => False
theorem u_delete {o1 o2 : Operand} : ldelete P ty ⟨t, r⟩ o1 o2 J = mdT P ty o2 J ⟨t, r⟩ ((St.mk t r).get o1) := by
  unfold ldelete mdT mdR whenS muS
  cases (St.mk t r).get o1 <;> rfl
theorem u_mdT {o2 : Operand} : mdT P ty o2 J ⟨t, r⟩ (.mref d) = mdR P d (mapT P ty) ((St.mk t r).get o2) ⟨t, r⟩ J (findReg d r) := (rfl)
theorem u_mdR {kt et : TypeId} {v : PV} {m : List (PV × PV)} : mdR P d (some (kt, et)) (.p v) ⟨t, r⟩ J (some (.obj (.mp m))) = (keyFits P kt v = true ∧ whenS (mdel v m) (muS P d ⟨t, r⟩ J)) := (rfl)
/-- A key's value, or none. -/
def lkV (ok : Bool) (K : L → Prop) (z : PV) (q : Option (Nat × PV)) : Prop :=
  K (match q, ok with
    | some (_, v), true => .tup [v, .bool true]
    | none, true => .tup [z, .bool false]
    | some (_, v), false => .p v
    | none, false => .p z)
def lkZ (oz : Option PV) (ok : Bool) (K : L → Prop) (q : Option (Nat × PV)) : Prop := ∃ z, oz = some z ∧ lkV ok K z q
def lkT (P : Program) (om : Option (TypeId × TypeId)) (oe : Option (List (PV × PV))) (ix : L) (ok : Bool) (K : L → Prop) : Prop :=
  match om, oe, ix with
  | some (kt, et), some es, .p k => keyFits P kt k = true ∧ whenS (mfind k es 0) (lkZ (zeroOne P et) ok K)
  | _, _, _ => False
theorem u_lookup {o1 o2 : Operand} {b : Bool} : lqvK P r ⟨t, r⟩ (.lookup ty o1 o2 b) K = lkT P (mapT P ty) (mapOf r ((St.mk t r).get o1)) ((St.mk t r).get o2) b K := by
  apply pe
  show (∃ l, llook P r ty ((St.mk t r).get o1) ((St.mk t r).get o2) b l ∧ K l) ↔ _
  unfold llook lkT
  generalize mapT P ty = a
  generalize mapOf r ((St.mk t r).get o1) = c
  generalize (St.mk t r).get o2 = q
  cases a with
  | none => simp
  | some a =>
    cases c with
    | none => simp
    | some c =>
      cases q <;> simp only [false_and, exists_false, whenS, lkZ, lkV]
      constructor
      · rintro ⟨l, ⟨h1, q, h2, z, h3, rfl⟩, hK⟩; exact ⟨h1, q, h2, z, h3, hK⟩
      · rintro ⟨h1, q, h2, z, h3, hK⟩; exact ⟨_, ⟨h1, q, h2, z, h3, rfl⟩, hK⟩
theorem u_lkT {kt et : TypeId} {m : List (PV × PV)} {v : PV} {b : Bool} : lkT P (some (kt, et)) (some m) (.p v) b K = (keyFits P kt v = true ∧ whenS (mfind v m 0) (lkZ (zeroOne P et) b K)) := (rfl)
theorem u_lkZ {z : PV} {b : Bool} {q : Option (Nat × PV)} : lkZ (some z) b K q = lkV b K z q := pe ⟨fun ⟨_, h, hc⟩ => by cases h; exact hc, fun h => ⟨z, rfl, h⟩⟩
theorem u_lkV_st {z v : PV} {i : Nat} : lkV true K z (some (i, v)) = K (.tup [v, .bool true]) := (rfl)
theorem u_lkV_nt {z : PV} : lkV true K z none = K (.tup [z, .bool false]) := (rfl)
theorem u_lkV_sf {z v : PV} {i : Nat} : lkV false K z (some (i, v)) = K (.p v) := (rfl)
theorem u_lkV_nf {z : PV} : lkV false K z none = K (.p z) := (rfl)
theorem u_mapOf_nil : mapOf r (.p .nmap) = some [] := (rfl)
theorem u_mapOf_mp {m : List (PV × PV)} : mapOf r (.p (.mp m)) = some m := (rfl)
def mofR : Option Reg → Option (List (PV × PV))
  | some (.obj (.mp es)) => some es
  | _ => none
theorem u_mapOf_mref : mapOf r (.mref d) = mofR (findReg d r) := (rfl)
theorem u_mofR {m : List (PV × PV)} : mofR (some (.obj (.mp m))) = some m := (rfl)
def kfitO (o : Option TypeDesc) (v : PV) : Bool := match o with | some d => kfit d v | none => false
theorem u_keyFits {kt : TypeId} {v : PV} : keyFits P kt v = kfitO (P.underlying kt) v := (rfl)
theorem u_kfit_int {q q' : IntKind} {n : Int} : kfitO (some (.int q)) (.int q' n) = (q == q') := (rfl)
theorem u_kfit_str : kfitO (some .string) (.str x) = true := (rfl)
theorem u_kfit_bool {b : Bool} : kfitO (some .bool) (.bool b) = true := (rfl)
theorem x_int {k : IntKind} : (∃ d, some (TypeDesc.int k) = some d ∧ ∀ ms, ¬ d = .interface ms) = True := eq_true ⟨_, rfl, fun _ h => by cases h⟩
theorem x_str : (∃ d, some TypeDesc.string = some d ∧ ∀ ms, ¬ d = .interface ms) = True := eq_true ⟨_, rfl, fun _ h => by cases h⟩
theorem x_bool : (∃ d, some TypeDesc.bool = some d ∧ ∀ ms, ¬ d = .interface ms) = True := eq_true ⟨_, rfl, fun _ h => by cases h⟩
theorem x_ptr {e : TypeId} : (∃ d, some (TypeDesc.pointer e) = some d ∧ ∀ ms, ¬ d = .interface ms) = True := eq_true ⟨_, rfl, fun _ h => by cases h⟩
theorem x_slice {e : TypeId} : (∃ d, some (TypeDesc.slice e) = some d ∧ ∀ ms, ¬ d = .interface ms) = True := eq_true ⟨_, rfl, fun _ h => by cases h⟩
theorem x_map {a b : TypeId} : (∃ d, some (TypeDesc.map a b) = some d ∧ ∀ ms, ¬ d = .interface ms) = True := eq_true ⟨_, rfl, fun _ h => by cases h⟩
theorem i_int {T : TypeId} {q : IntKind} {n : Int} : ifaceOf T (.p (.int q n)) = .ifi T q n := (rfl)
theorem i_str {T : TypeId} : ifaceOf T (.p (.str x)) = .ifc := (rfl)
theorem i_agg {T : TypeId} : ifaceOf T (.p (.agg cs)) = .ifc := (rfl)
theorem i_ptr {T : TypeId} : ifaceOf T (.ptr d i j) = .ifc := (rfl)
theorem i_eptr {T : TypeId} : ifaceOf T (.eptr cs) = .ifc := (rfl)
theorem i_nptr {T : TypeId} : ifaceOf T (.p .nptr) = .ifc := (rfl)
theorem cell_ifi {T : TypeId} {q : IntKind} {n : Int} : cellsL (.p (.ifi T q n)) = some [.p (.ifi T q n)] := (rfl)
theorem u_iface {o : Operand} : lqvK P r ⟨t, r⟩ (.makeInterface ty o) K = ((∃ d, P.underlying ty = some d ∧ ∀ ms, d ≠ .interface ms) ∧ K (.p (ifaceOf ty ((St.mk t r).get o)))) := by
  apply pe
  constructor
  · rintro ⟨l, ⟨h, rfl⟩, hK⟩; exact ⟨h, hK⟩
  · rintro ⟨h, hK⟩; exact ⟨_, ⟨h, rfl⟩, hK⟩
def usdV (K : L → Prop) (l : L) : Prop :=
  match l with
  | .p .snil => K (.p .nptr)
  | .own d off n => 0 < n ∧ K (.ptr d off 0)
  | _ => False
theorem u_usd {o : Operand} : lqvK P r ⟨t, r⟩ (.call { callee := .builtin .unsafeSliceData, args := #[o], argTypes := #[ty] }) K = usdV K ((St.mk t r).get o) := by
  apply pe
  show (∃ l, (match (St.mk t r).get o with | .p .snil => l = .p .nptr | .own d off n => 0 < n ∧ l = .ptr d off 0 | _ => False) ∧ K l) ↔ _
  unfold usdV
  split
  · constructor
    · rintro ⟨l, rfl, h⟩; exact h
    · intro h; exact ⟨_, rfl, h⟩
  · constructor
    · rintro ⟨l, ⟨h1, rfl⟩, h⟩; exact ⟨h1, h⟩
    · rintro ⟨h1, h⟩; exact ⟨_, ⟨h1, rfl⟩, h⟩
  · simp
theorem u_usdV_nil : usdV K (.p .snil) = K (.p .nptr) := (rfl)
theorem u_usdV_own {o m : Nat} : usdV K (.own d o m) = (0 < m ∧ K (.ptr d o 0)) := (rfl)
theorem u_ustr_nil {dst : Option Tmp} {o2 : Operand} {t1 : TypeId} : ustrV X t1 dst o2 J ⟨t, r⟩ (.p .nptr) = ((∃ k, (St.mk t r).get o2 = .p (.int k 0)) ∧ J ((St.mk t r).put dst (.p (.str [])))) := (rfl)
theorem u_ustr_ptr {dst : Option Tmp} {o2 : Operand} {t1 : TypeId} : ustrV X t1 dst o2 J ⟨t, r⟩ (.ptr d 0 0) = usT X.P (X.P.underlying t1) d ⟨t, r⟩ (kput dst J) ((St.mk t r).get o2) := (rfl)
theorem u_usT {o : Option TypeDesc} {v : Int} : usT P o d ⟨t, r⟩ N (.p (.int .i64 v)) = usR P o d v ⟨t, r⟩ N (findReg d r) := (rfl)
def usB (d : Nat) (n : Int) (s : St) (N : St → L → Prop) (bs : List UInt8) : Prop := n = bs.length ∧ bs ≠ [] ∧ bs.length ≤ 9223372036854775807 ∧ N (s.forget d) (.p (.str bs))
theorem u_usB {v : Int} {bs : List UInt8} : usB d v ⟨t, r⟩ N bs = (v = bs.length ∧ bs ≠ [] ∧ bs.length ≤ 9223372036854775807 ∧ N (St.forget d ⟨t, r⟩) (.p (.str bs))) := (rfl)
theorem u_usR {o : Option TypeDesc} {v : Int} : usR P o d v ⟨t, r⟩ N (some (.row T 1 es)) = (o = some (.pointer T) ∧ P.cellsOf T = 1 ∧ whenS (bytesPV es) (usB d v ⟨t, r⟩ N)) := (rfl)

/-! ### Rows that are made -/
def kmk (d : Nat) (e : TypeId) (sz : Nat) (s : St) (n : Nat) (J : St → Prop) (zs : List PV) : Prop := zs.length = sz ∧ J ((s.newReg d (.row e sz (List.replicate n zs))).put (some d) (.own d 0 n))
theorem u_kmk {zs : List PV} : kmk d e sz ⟨t, r⟩ n J zs = (zs.length = sz ∧ J ((St.newReg d (.row e sz (List.replicate n zs)) ⟨t, r⟩).put (some d) (.own d 0 n))) := (rfl)
def fits (b : Option Nat) (c lim : Int) : Prop := ∃ x, b = some x ∧ (x : Int) * c ≤ lim
theorem u_fits {x : Nat} {c lim : Int} : fits (some x) c lim = ((x : Int) * c ≤ lim) := pe ⟨fun ⟨_, h, hc⟩ => by cases h; exact hc, fun h => ⟨x, rfl, h⟩⟩
def mkT (P : Program) (d : Nat) (o : Option (TypeId × Nat)) (s : St) (l c : L) (J : St → Prop) : Prop :=
  match o, l, c with
  | some (e, sz), .p (.int _ l), .p (.int _ c) => 0 ≤ l ∧ l ≤ c ∧ fits (bytesOf' P e) c 281474976710656 ∧ c ≤ 9223372036854775807 ∧ whenS (zeroPV P e) (kmk d e sz s l.toNat J)
  | _, _, _ => False
theorem u_makeSlice {l c : Operand} : lmakeSlice P d ty ⟨t, r⟩ l c J = (d < 1000 ∧ mkT P d (slE P ty) ⟨t, r⟩ ((St.mk t r).get l) ((St.mk t r).get c) J) := by
  unfold lmakeSlice mkT fits whenS kmk
  rfl
theorem u_mkT : mkT P d (some (e, sz)) ⟨t, r⟩ (.p (.int k a)) (.p (.int k' b)) J = (0 ≤ a ∧ a ≤ b ∧ fits (bytesOf' P e) b 281474976710656 ∧ b ≤ 9223372036854775807 ∧ whenS (zeroPV P e) (kmk d e sz ⟨t, r⟩ a.toNat J)) := (rfl)

def kbs2 (d : Nat) (e : TypeId) (sz n : Nat) (s : St) (J : St → Prop) (es : List (List PV)) : Prop := J ((s.newReg d (.row e sz es)).put (some d) (.own d 0 n))
theorem u_kbs2 : kbs2 d e sz n ⟨t, r⟩ J es = J ((St.newReg d (.row e sz es) ⟨t, r⟩).put (some d) (.own d 0 n)) := (rfl)
def kbs (d : Nat) (e : TypeId) (sz n : Nat) (parts : List (Nat × Operand)) (J : St → Prop) (s : St) : Prop :=
  idxOK 0 (parts.map fun (i, x) => (i, s.get x)) = true ∧ whenS (partsPV sz (parts.map fun (i, x) => (i, s.get x))) (kbs2 d e sz n s J)
theorem u_kbs {parts : List (Nat × Operand)} : kbs d e sz n parts J ⟨t, r⟩ = (idxOK 0 (parts.map fun (i, x) => (i, (St.mk t r).get x)) = true ∧ whenS (partsPV sz (parts.map fun (i, x) => (i, (St.mk t r).get x))) (kbs2 d e sz n ⟨t, r⟩ J)) := (rfl)
def zok (o : Option (List PV)) (sz : Nat) : Prop := ∃ zs, o = some zs ∧ zs.length = sz
theorem u_zok {zs : List PV} : zok (some zs) sz = (zs.length = sz) := pe ⟨fun ⟨_, h, hc⟩ => by cases h; exact hc, fun h => ⟨zs, rfl, h⟩⟩
def bsT (P : Program) (d : Nat) (o : Option (TypeId × Nat)) (n : Nat) (s : St) (parts : List (Nat × Operand)) (J : St → Prop) : Prop :=
  match o with
  | some (e, sz) => n * sz ≤ 16777216 ∧ zok (zeroPV P e) sz ∧ parts.length = n ∧ kbs d e sz n parts J (s.freezeOps (parts.map (·.2)))
  | none => False
theorem u_buildSlice {parts : List (Nat × Operand)} : lbuildSlice P d ty n ⟨t, r⟩ parts J = (d < 1000 ∧ n ≤ 16777216 ∧ bsT P d (slE P ty) n ⟨t, r⟩ parts J) := by
  unfold lbuildSlice bsT kbs kbs2 whenS zok
  rfl
theorem u_bsT {parts : List (Nat × Operand)} : bsT P d (some (e, sz)) n ⟨t, r⟩ parts J = (n * sz ≤ 16777216 ∧ zok (zeroPV P e) sz ∧ parts.length = n ∧ kbs d e sz n parts J (St.freezeOps ⟨t, r⟩ (parts.map (·.2)))) := (rfl)

theorem idx_nil : idxOK n [] = true := (rfl)
theorem idx_cons {x : L} {rest : List (Nat × L)} : idxOK n ((i, x) :: rest) = (i == n && idxOK (n + 1) rest) := (rfl)
def ppA : Option (List L) → Option (List PV)
  | some xs => allSome L.pure? xs
  | none => none
theorem ppA_some {xs : List L} : ppA (some xs) = allSome L.pure? xs := (rfl)
def ppC (sz : Nat) (o : Option (List PV)) (os : Option (List (List PV))) : Option (List (List PV)) :=
  match o, os with
  | some ps, some es => if ps.length = sz then some (ps :: es) else none
  | _, _ => none
theorem ppC_some {ps : List PV} : ppC sz (some ps) (some es) = if ps.length = sz then some (ps :: es) else none := (rfl)
theorem pp_nil : partsPV sz [] = some [] := (rfl)
theorem pp_cons {x : L} {rest : List (Nat × L)} : partsPV sz ((i, x) :: rest) = ppC sz (ppA (cellsL x)) (partsPV sz rest) := by
  simp only [partsPV, ppC, ppA]
  cases cellsL x with
  | none => rfl
  | some xs =>
    simp only
    cases allSome L.pure? xs with
    | none => rfl
    | some ps =>
      simp only
      cases partsPV sz rest with
      | none => split <;> rfl
      | some es => rfl
def ksl (K : L → Prop) (es : List (List PV)) : Prop := K (.p (.sl es))
theorem u_ksl : ksl K es = K (.p (.sl es)) := (rfl)
def qbT (P : Program) (s : St) (n : Nat) (parts : List (Nat × Operand)) (K : L → Prop) (o : Option (TypeId × Nat)) : Prop :=
  match o with
  | some (e, sz) => n * sz ≤ 16777216 ∧ zok (zeroPV P e) sz ∧ parts.length = n ∧ idxOK 0 (parts.map fun (i, x) => (i, s.get x)) = true ∧ whenS (partsPV sz (parts.map fun (i, x) => (i, s.get x))) (ksl K)
  | none => False
theorem u_lqbs {parts : List (Nat × Operand)} : lqbs P ⟨t, r⟩ ty n parts K = qbT P ⟨t, r⟩ n parts K (slE P ty) := by
  unfold lqbs qbT zok whenS ksl
  apply pe
  constructor
  · rintro ⟨e, sz, h, h'⟩
    rw [h]; exact h'
  · intro h
    split at h
    · rename_i e sz he; exact ⟨e, sz, he, h⟩
    · exact h.elim
theorem u_qbT {parts : List (Nat × Operand)} : qbT P ⟨t, r⟩ n parts K (some (e, sz)) = (n * sz ≤ 16777216 ∧ zok (zeroPV P e) sz ∧ parts.length = n ∧ idxOK 0 (parts.map fun (i, x) => (i, (St.mk t r).get x)) = true ∧ whenS (partsPV sz (parts.map fun (i, x) => (i, (St.mk t r).get x))) (ksl K)) := (rfl)
def fitsN (b : Option Nat) (m : Nat) : Prop := ∃ x, b = some x ∧ m * x ≤ 140737488355328
theorem u_fitsN {m x : Nat} : fitsN (some x) m = (m * x ≤ 140737488355328) := pe ⟨fun ⟨_, h, hc⟩ => by cases h; exact hc, fun h => ⟨x, rfl, h⟩⟩
def apX (P : Program) (d : Nat) (e sz : Nat) (s : St) (lx : L) (J : St → Prop) (es' : List (List PV)) : Prop :=
  (∀ q ∈ es', q.length = sz) ∧ match lx with
    | .own d0 0 n => match findReg d0 s.regs with
      | some (.row T sz' es) => T = e ∧ sz' = sz ∧ es.length = n ∧ (∃ b, bytesOf' P e = some b ∧ (n + es'.length) * b ≤ 140737488355328) ∧ n + es'.length ≤ 9223372036854775807 ∧
          J (((s.forget d0).newReg d (.row e sz (es ++ es'))).put (some d) (.own d 0 (n + es'.length)))
      | _ => False
    | .p .snil => (∃ b, bytesOf' P e = some b ∧ es'.length * b ≤ 140737488355328) ∧ es'.length ≤ 9223372036854775807 ∧ J ((s.newReg d (.row e sz es')).put (some d) (.own d 0 es'.length))
    | _ => False
def apR (b : Option Nat) (d : Nat) (e sz : Nat) (s : St) (d0 n : Nat) (J : St → Prop) (es' : List (List PV)) (q : Option Reg) : Prop :=
  match q with
  | some (.row T sz' es) => T = e ∧ sz' = sz ∧ es.length = n ∧ fitsN b (n + es'.length) ∧ n + es'.length ≤ 9223372036854775807 ∧
          J (((s.forget d0).newReg d (.row e sz (es ++ es'))).put (some d) (.own d 0 (n + es'.length)))
  | _ => False
def apT (P : Program) (t1 t2 : TypeId) (d : Nat) (o : Option (TypeId × Nat)) (s : St) (lx ly : L) (J : St → Prop) : Prop :=
  match o with
  | some (e, sz) => zok (zeroPV P e) sz ∧ whenS (appSrc P t1 t2 e s ly) (apX P d e sz s lx J)
  | none => False
theorem u_append {t1 t2 : TypeId} {o q : Operand} : lappend P d t1 t2 ⟨t, r⟩ o q J = (d < 1000 ∧ apT P t1 t2 d (slE P t1) ⟨t, r⟩ ((St.mk t r).get o) ((St.mk t r).get q) J) := by
  unfold lappend apT apX zok whenS
  rfl
theorem u_apT {t1 t2 : TypeId} {lx ly : L} : apT P t1 t2 d (some (e, sz)) ⟨t, r⟩ lx ly J = (zok (zeroPV P e) sz ∧ whenS (appSrc P t1 t2 e ⟨t, r⟩ ly) (apX P d e sz ⟨t, r⟩ lx J)) := (rfl)
def strSrc (o1 o2 : Option TypeDesc) (b : Option Nat) (z : Option PV) (bs : List UInt8) : Option (List (List PV)) :=
  match o1, o2, b, z with
  | some .string, some (.int .u8), some 1, some (.int .u8 0) => some (bs.map fun c => [.int .u8 c.toNat])
  | _, _, _, _ => none
theorem u_appSrc_str {t1 t2 : TypeId} : appSrc P t1 t2 e ⟨t, r⟩ (.p (.str x)) = strSrc (P.underlying t2) (P.underlying e) (bytesOf' P e) (zeroOne P e) x := (rfl)
theorem u_strSrc : strSrc (some .string) (some (.int .u8)) (some 1) (some (.int .u8 0)) x = some (x.map fun c => [.int .u8 c.toNat]) := (rfl)
theorem u_appSrc_sl {t1 t2 : TypeId} : appSrc P t1 t2 e ⟨t, r⟩ (.p (.sl es)) = if t1 = t2 then some es else none := (rfl)
theorem u_appSrc_nil {t1 t2 : TypeId} : appSrc P t1 t2 e ⟨t, r⟩ (.p .snil) = if t1 = t2 then some [] else none := (rfl)
theorem u_appSrc_own {t1 t2 : TypeId} {o m : Nat} : appSrc P t1 t2 e ⟨t, r⟩ (.own d o m) = if t1 = t2 then srcOf ⟨t, r⟩ (.own d o m) else none := (rfl)
theorem u_apX_own {d0 : Nat} : apX P d e sz ⟨t, r⟩ (.own d0 0 n) J es = ((∀ q ∈ es, q.length = sz) ∧ apR (bytesOf' P e) d e sz ⟨t, r⟩ d0 n J es (findReg d0 r)) := by
  unfold apX apR fitsN
  rfl
theorem u_apX_nil : apX P d e sz ⟨t, r⟩ (.p .snil) J es = ((∀ q ∈ es, q.length = sz) ∧ fitsN (bytesOf' P e) es.length ∧ es.length ≤ 9223372036854775807 ∧ J ((St.newReg d (.row e sz es) ⟨t, r⟩).put (some d) (.own d 0 es.length))) := (rfl)
theorem u_apR {bb : Option Nat} {es' : List (List PV)} {d0 sz' : Nat} : apR bb d e sz ⟨t, r⟩ d0 n J es' (some (.row T sz' es)) = (T = e ∧ sz' = sz ∧ es.length = n ∧ fitsN bb (n + es'.length) ∧ n + es'.length ≤ 9223372036854775807 ∧
          J ((St.newReg d (.row e sz (es ++ es')) (St.forget d0 ⟨t, r⟩)).put (some d) (.own d 0 (n + es'.length)))) := (rfl)
theorem u_src_sl : srcOf ⟨t, r⟩ (.p (.sl es)) = some es := (rfl)
theorem u_src_nil : srcOf ⟨t, r⟩ (.p .snil) = some [] := (rfl)
def srcR (off len : Nat) : Option Reg → Option (List (List PV))
  | some (.row _ _ es) => if off + len ≤ es.length then some ((es.drop off).take len) else none
  | _ => none
theorem u_src_own {o m : Nat} : srcOf ⟨t, r⟩ (.own d o m) = srcR o m (findReg d r) := by
  unfold srcOf srcR
  simp only
  cases findReg d r with
  | none => rfl
  | some g => cases g <;> rfl
theorem u_srcR {o m : Nat} : srcR o m (some (.row T sz es)) = if o + m ≤ es.length then some ((es.drop o).take m) else none := (rfl)

/-! ### Results -/
theorem u_kpure {C : PV → Prop} {v : PV} : kpure C (.p v) = C v := (rfl)
def kr2 (C : List PV → Prop) (x : PV) (xs : List PV) : Prop := C (x :: xs)
def kr1 (P : Program) (s : St) (l : List ResultVar) (C : List PV → Prop) (x : PV) : Prop := resPV P s l (kr2 C x)
theorem u_kr2 {C : List PV → Prop} {v : PV} : kr2 C v cs = C (v :: cs) := (rfl)
theorem u_kr1 {C : List PV → Prop} {v : PV} {l : List ResultVar} : kr1 P ⟨t, r⟩ l C v = resPV P ⟨t, r⟩ l (kr2 C v) := (rfl)
theorem u_res_nil {C : List PV → Prop} : resPV P ⟨t, r⟩ [] C = C [] := (rfl)
theorem u_res_tmp {C : List PV → Prop} {l : List ResultVar} : resPV P ⟨t, r⟩ (.tmp i :: l) C = kpure (kr1 P ⟨t, r⟩ l C) (t.getD i .junk) := (rfl)
theorem u_res_cell {C : List PV → Prop} {l : List ResultVar} : resPV P ⟨t, r⟩ (.cell i T :: l) C = lload P r T (t.getD i .junk) (kpure (kr1 P ⟨t, r⟩ l C)) := (rfl)
theorem u_kres {keys : List Nat} {Post : L → Regs → Prop} : kres keys Post r cs = Post (asRes cs) (normRegs (900 :: keys) r) := (rfl)
theorem u_kresO {keys : List Nat} {Post : L → Regs → Prop} {l : L} : kresO keys Post r l = Post l (normRegs (900 :: keys) r) := (rfl)
theorem u_norm_nil : normRegs [] r = [] := (rfl)
def normF (d : Nat) (rest : Regs) : Option Reg → Regs
  | some q => (d, q) :: rest
  | none => rest
theorem u_norm_cons {ids : List Nat} : normRegs (d :: ids) r = normF d (normRegs ids r) (findReg d r) := by
  simp only [normRegs, normF]; cases findReg d r <;> rfl
theorem u_normF_some {rest : Regs} {q : Reg} : normF d rest (some q) = (d, q) :: rest := (rfl)
theorem u_normF_none {rest : Regs} : normF d rest none = rest := (rfl)
def lret3 (P : Program) (rvs : List ResultVar) (keys : List Nat) (Post : L → Regs → Prop) (s : St) : Prop := resPV P s rvs (kres keys Post s.regs)
theorem u_retF {rvs : List ResultVar} {keys : List Nat} {Post : L → Regs → Prop} : lret2 P false rvs keys Post ⟨t, r⟩ = lret3 P rvs keys Post (St.freezeOps ⟨t, r⟩ (resOps rvs)) := (rfl)
theorem u_retO {rvs : List ResultVar} {keys : List Nat} {Post : L → Regs → Prop} : lret2 P true rvs keys Post ⟨t, r⟩ = lretO P rvs keys Post ⟨t, r⟩ := (rfl)
theorem u_retO_tmp {keys : List Nat} {Post : L → Regs → Prop} : lretO P [.tmp i] keys Post ⟨t, r⟩ = kresO keys Post r (t.getD i .junk) := (rfl)
theorem u_retO_cell {keys : List Nat} {Post : L → Regs → Prop} : lretO P [.cell i T] keys Post ⟨t, r⟩ = lload P r T (t.getD i .junk) (kresO keys Post r) := (rfl)
theorem u_ret3 {rvs : List ResultVar} {keys : List Nat} {Post : L → Regs → Prop} : lret3 P rvs keys Post ⟨t, r⟩ = resPV P ⟨t, r⟩ rvs (kres keys Post r) := (rfl)
theorem u_renAll_nil : renAll [] ⟨t, r⟩ = ⟨t, r⟩ := (rfl)
theorem u_renAll_cons {a b : Nat} {l : List (Nat × Nat)} : renAll ((a, b) :: l) ⟨t, r⟩ = renAll l (renIf a b ⟨t, r⟩) := (rfl)
def renB (a b : Nat) (s : St) : Bool → St
  | true => s.ren a b
  | false => s
theorem u_renIf {a b : Nat} : renIf a b ⟨t, r⟩ = renB a b ⟨t, r⟩ (findKey a r) := by
  simp only [renIf, renB]; cases findKey a r <;> rfl
theorem u_renB_f {a b : Nat} : renB a b ⟨t, r⟩ false = ⟨t, r⟩ := (rfl)
theorem u_renB_t {a b : Nat} : renB a b ⟨t, r⟩ true = ⟨t.map (L.map (renId a b)), renRegs a b r⟩ := (rfl)
theorem u_renR_nil {a b : Nat} : renRegs a b [] = [] := (rfl)
def renF (a b : Nat) (q : Reg) (rest : Regs) : Option Nat → Regs
  | some n => (n, q.map (renId a b)) :: rest
  | none => rest
theorem u_renR_cons {a b e : Nat} {q : Reg} : renRegs a b ((e, q) :: r) = renF a b q (renRegs a b r) (renId a b e) := by
  simp only [renRegs, renF]; cases renId a b e <;> rfl
theorem u_renF_some {a b e : Nat} {q : Reg} {rest : Regs} : renF a b q rest (some e) = (e, q.map (renId a b)) :: rest := (rfl)
theorem u_renF_none {a b : Nat} {q : Reg} {rest : Regs} : renF a b q rest none = rest := (rfl)
theorem u_resOps_nil : resOps [] = [] := (rfl)
theorem u_resOps_tmp {l : List ResultVar} : resOps (.tmp i :: l) = .tmp i :: resOps l := (rfl)
theorem u_resOps_cell {l : List ResultVar} : resOps (.cell i T :: l) = resOps l := (rfl)
theorem u_asRes1 {v : PV} : asRes [v] = .p v := (rfl)
theorem u_asRes0 : asRes [] = .tup [] := (rfl)
theorem u_asRes2 {v w : PV} : asRes (v :: w :: cs) = .tup (v :: w :: cs) := (rfl)
/-! ### Regions -/
variable {q : Reg}
theorem u_find_nil : findReg d [] = none := (rfl)
theorem u_find_cons : findReg d ((i, q) :: r) = if i = d then some q else findReg d r := (rfl)
theorem u_drop_nil : dropReg d [] = [] := (rfl)
theorem u_drop_cons : dropReg d ((i, q) :: r) = if i = d then dropReg d r else (i, q.forget d) :: dropReg d r := (rfl)
theorem u_set_nil : setReg d q [] = [] := (rfl)
theorem u_set_cons {q' : Reg} : setReg d q ((i, q') :: r) = if i = d then (i, q) :: r else (i, q') :: setReg d q r := (rfl)
variable {z : Fz}
theorem u_frzR_nil : freezeRegs d z [] = [] := (rfl)
theorem u_frzR_cons : freezeRegs d z ((i, q) :: r) = if i = d then freezeRegs d z r else (i, q.freeze d z) :: freezeRegs d z r := (rfl)
theorem u_fg_var : Reg.forget d (.var T ls) = .var T (ls.map (L.forget d)) := (rfl)
theorem u_fg_row : Reg.forget d (.row T sz es) = .row T sz es := (rfl)
theorem u_fg_obj {o : PObj} : Reg.forget d (.obj o) = .obj o := (rfl)
theorem u_fg_lrow {fu : Bool} {ll : List (List L)} : Reg.forget d (.lrow T sz fu ll) = .lrow T sz fu (ll.map fun e => e.map (L.forget d)) := (rfl)
theorem u_fz_var : Reg.freeze d z (.var T ls) = .var T (ls.map (L.freeze d z)) := (rfl)
theorem u_fz_row {es' : List (List PV)} : Reg.freeze d z (.row T sz es') = .row T sz es' := (rfl)
theorem u_fz_lrow {fu : Bool} {ll : List (List L)} : Reg.freeze d z (.lrow T sz fu ll) = .lrow T sz fu (ll.map fun e => e.map (L.freeze d z)) := (rfl)
theorem u_fz_obj {o : PObj} : Reg.freeze d z (.obj o) = .obj o := (rfl)
theorem u_f_p {v : PV} : L.forget d (.p v) = .p v := (rfl)
theorem u_f_junk : L.forget d .junk = .junk := (rfl)
theorem u_f_tup {xs : List PV} : L.forget d (.tup xs) = .tup xs := (rfl)
theorem u_f_eptr : L.forget d (.eptr cs) = .eptr cs := (rfl)
theorem u_f_ptr {e : Nat} : L.forget d (.ptr e i j) = if e = d then .junk else .ptr e i j := by simp [L.forget, L.mentions]
theorem u_f_own {e : Nat} {o m : Nat} : L.forget d (.own e o m) = if e = d then .junk else .own e o m := by simp [L.forget, L.mentions]
theorem u_f_mref {e : Nat} : L.forget d (.mref e) = if e = d then .junk else .mref e := by simp [L.forget, L.mentions]
theorem u_f_fn {g : FuncId} {ids : List Nat} : L.forget d (.fn g ids) = if ids.contains d = true then .junk else .fn g ids := (rfl)
theorem u_f_cfn {g : FuncId} {ids : List Nat} : L.forget d (.cfn g ids) = if ids.contains d = true then .junk else .cfn g ids := (rfl)
theorem u_f_yld {l : Nat} : L.forget d (.yld l) = .yld l := (rfl)
theorem u_z_p {v : PV} : L.freeze d z (.p v) = .p v := (rfl)
theorem u_z_junk : L.freeze d z .junk = .junk := (rfl)
theorem u_z_tup {xs : List PV} : L.freeze d z (.tup xs) = .tup xs := (rfl)
theorem u_z_eptr : L.freeze d z (.eptr cs) = .eptr cs := (rfl)
theorem u_z_yld {l : Nat} : L.freeze d z (.yld l) = .yld l := (rfl)
theorem u_z_ptr {e : Nat} : L.freeze d z (.ptr e i j) = if e = d then .junk else .ptr e i j := (rfl)
theorem u_z_own {e o m : Nat} : L.freeze d (.rw es) (.own e o m) = if e = d then (if o + m ≤ es.length then .p (.sl ((es.drop o).take m)) else .junk) else .own e o m := (rfl)
theorem u_z_ownm {e o m : Nat} {mm : List (PV × PV)} : L.freeze d (.mp mm) (.own e o m) = if e = d then .junk else .own e o m := (rfl)
theorem u_z_owng {e o m : Nat} : L.freeze d .gone (.own e o m) = if e = d then .junk else .own e o m := (rfl)
theorem u_z_mrefg {e : Nat} : L.freeze d .gone (.mref e) = if e = d then .junk else .mref e := (rfl)
theorem u_z_mref {e : Nat} {mm : List (PV × PV)} : L.freeze d (.mp mm) (.mref e) = if e = d then .p (.mp mm) else .mref e := (rfl)
theorem u_z_mrefr {e : Nat} : L.freeze d (.rw es) (.mref e) = if e = d then .junk else .mref e := (rfl)
theorem u_z_fn {g : FuncId} {ids : List Nat} : L.freeze d z (.fn g ids) = if ids.contains d = true then .junk else .fn g ids := (rfl)
theorem u_z_cfn {g : FuncId} {ids : List Nat} : L.freeze d z (.cfn g ids) = if ids.contains d = true then .junk else .cfn g ids := (rfl)
theorem u_rid_var : Reg.ids (.var T ls) = ls.flatMap L.ids := (rfl)
theorem u_rid_row : Reg.ids (.row T sz es) = [] := (rfl)
theorem u_rid_lrow {fu : Bool} {ll : List (List L)} : Reg.ids (.lrow T sz fu ll) = ll.flatMap fun e => e.flatMap L.ids := (rfl)
theorem u_id_cfn {g : FuncId} {ids : List Nat} : L.ids (.cfn g ids) = ids := (rfl)
theorem u_id_yld {l : Nat} : L.ids (.yld l) = [] := (rfl)
theorem u_rid_obj {o : PObj} : Reg.ids (.obj o) = [] := (rfl)
theorem u_id_p {v : PV} : L.ids (.p v) = [] := (rfl)
theorem u_id_ptr : L.ids (.ptr d i j) = [d] := (rfl)
theorem u_id_own {o m : Nat} : L.ids (.own d o m) = [d] := (rfl)
theorem u_id_mref : L.ids (.mref d) = [d] := (rfl)
theorem u_id_fn {g : FuncId} {ids : List Nat} : L.ids (.fn g ids) = ids := (rfl)
theorem u_id_eptr : L.ids (.eptr cs) = [] := (rfl)
theorem u_id_tup {xs : List PV} : L.ids (.tup xs) = [] := (rfl)
theorem u_id_junk : L.ids .junk = [] := (rfl)
theorem u_all_nil {α γ : Type} {f : α → Option γ} : allSome f [] = some [] := (rfl)
def consO {γ : Type} (o : Option γ) (os : Option (List γ)) : Option (List γ) :=
  match o with
  | some b => match os with
    | some bs => some (b :: bs)
    | none => none
  | none => none
theorem u_consO {γ : Type} {b : γ} {bs : List γ} : consO (some b) (some bs) = some (b :: bs) := (rfl)
theorem u_all_cons {α γ : Type} {f : α → Option γ} {a : α} {l : List α} : allSome f (a :: l) = consO (f a) (allSome f l) := (rfl)
theorem u_pure {v : PV} : L.pure? (.p v) = some v := (rfl)
end
end Go.LX
