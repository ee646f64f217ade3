/- The steps of 'lwp', one lemma each, for states that are written out. -/
import Derived.Test.YteiencnfglbnkaaDoorLxO
set_option linter.unusedSimpArgs false
set_option linter.unusedVariables false
set_option linter.unusedSectionVars false
set_option linter.unnecessarySimpa false
namespace Go.LX
open Go Go.RowKit Go.Proofs

def cvF (P : Program) (a b : TypeId) (x : Operand) (dst : Option Tmp) (K : St → Prop) (s : St) : Prop := lconv P a b (s.get x) (kput dst K s)
/-- A conversion of a value. -/
def cvG (P : Program) (a b : TypeId) (s : St) (x : Operand) (dst : Option Tmp) (K : St → Prop) (l : L) : Prop :=
  match l with
  | .ptr d 0 j => lptrConv P a b d j (findReg d s.regs) (kput dst K s)
  | .p (.str u) => lcvStr P a b u s dst K
  | _ => cvF P a b x dst K (s.freezeOps [x])
def lnil (l : L) (K : L → Prop) : Prop :=
  match l with
  | .ptr d i j => K (.ptr d i j)
  | .eptr cs => K (.eptr cs)
  | .fn f ds => K (.fn f ds)
  | _ => False
def lextract (l : L) (i : Nat) (K : L → Prop) : Prop :=
  match l with
  | .tup xs => ∃ c, xs[i]? = some c ∧ K (.p c)
  | _ => False
def lpick (l a b : L) (K : L → Prop) : Prop :=
  match l with
  | .p (.bool t) => (t = true → K a) ∧ (t = false → K b)
  | _ => False
def lcaps (f : FuncId) (cs : List L) (K : L → Prop) : Prop := ∃ ds, capsOf cs = some ds ∧ K (.fn f ds)
def lqcall (X : Cx) (f : FuncId) (args : List L) (K : L → Prop) : Prop := ∃ l, (LCalls X f args [] (fun m _ => m = l) ∧ l.retOK = true) ∧ K l
def lqvK (P : Program) (r : Regs) (s : St) (op : Op) (K : L → Prop) : Prop := ∃ l, lqv P r s.get op l ∧ K l

section
variable {X : Cx} {ro : Option Nat} {Q : Ex → St → Prop} {K : St → Prop} {t : List L} {r : Regs} {ds : List (Option Tmp)} {rest : List Oper} {ty : TypeId} {ps : String} {af : Array Edge} {dst : Option Tmp}

theorem e_scope {c : Code} : lwp X ro (.scope c) Q ⟨t, r⟩ = lwp X ro c Q ⟨t, r⟩ := (rfl)
theorem e_skip : lwp X ro .skip Q ⟨t, r⟩ = Q .normal ⟨t, r⟩ := (rfl)
theorem e_region {id : Nat} {ops : Array Oper} : lwp X ro (.region id ops false) Q ⟨t, r⟩ = lops X (ops.toList.map (·.dst)) ops.toList (Q .normal) ⟨t, r⟩ := (rfl)
theorem e_seq {a b : Code} : lwp X ro (a.seq b) Q ⟨t, r⟩ = lwp X ro a (kseq (lwp X ro b) Q) ⟨t, r⟩ := (rfl)
theorem e_cond {c : Operand} {a b : Code} : lwp X ro (.cond c a b) Q ⟨t, r⟩ = lcond ((St.mk t r).get c) (lwp X ro a Q) (lwp X ro b Q) ⟨t, r⟩ := (rfl)
theorem e_block {id : Nat} {c : Code} : lwp X ro (.block id c) Q ⟨t, r⟩ = lwp X ro c (kblock id Q) ⟨t, r⟩ := (rfl)
theorem e_loop {c : Code} : lwp X ro (.loop c) Q ⟨t, r⟩ = SWP X ro (.loop c) Q ⟨t, r⟩ := (rfl)
theorem e_exit {id : Nat} : lwp X ro (.exit id) Q ⟨t, r⟩ = Q (.exit id) ⟨t, r⟩ := (rfl)
theorem e_ret : lwp X ro .ret Q ⟨t, r⟩ = Q .ret ⟨t, r⟩ := (rfl)
theorem e_label {l : Nat} : lwp X ro (.label l) Q ⟨t, r⟩ = Q .normal ⟨t, r⟩ := (rfl)
theorem k_seq_normal {B : (Ex → St → Prop) → St → Prop} : kseq B Q .normal ⟨t, r⟩ = B Q ⟨t, r⟩ := (rfl)
theorem k_seq_exit {B : (Ex → St → Prop) → St → Prop} {id : Nat} : kseq B Q (.exit id) ⟨t, r⟩ = Q (.exit id) ⟨t, r⟩ := (rfl)
theorem k_seq_ret {B : (Ex → St → Prop) → St → Prop} : kseq B Q .ret ⟨t, r⟩ = Q .ret ⟨t, r⟩ := (rfl)
theorem k_block_normal {id : Nat} : kblock id Q .normal ⟨t, r⟩ = Q .normal ⟨t, r⟩ := (rfl)
theorem k_block_exit {id id' : Nat} : kblock id Q (.exit id') ⟨t, r⟩ = if id' = id then Q .normal ⟨t, r⟩ else Q (.exit id') ⟨t, r⟩ := (rfl)
theorem k_block_ret {id : Nat} : kblock id Q .ret ⟨t, r⟩ = Q .ret ⟨t, r⟩ := (rfl)
theorem e_cond_bool {b : Bool} {A B : St → Prop} : lcond (.p (.bool b)) A B ⟨t, r⟩ = ((b = true → A ⟨t, r⟩) ∧ (b = false → B ⟨t, r⟩)) := (rfl)

theorem o_nil : lops X ds [] K ⟨t, r⟩ = K ⟨t, r⟩ := (rfl)
theorem o_cons {op : Op} : lops X ds (⟨dst, op, ty, ps, af, none⟩ :: rest) K ⟨t, r⟩ = lop X ⟨dst, op, ty, ps, af, none⟩ (lops X ds rest K) ⟨t, r⟩ := (rfl)
theorem o_guard {op : Op} {g : Nat × Bool} : lops X ds (⟨dst, op, ty, ps, af, some g⟩ :: rest) K ⟨t, r⟩ = lguard ds (some g) (lop X ⟨dst, op, ty, ps, af, some g⟩ (lops X ds rest K)) (kunit dst (lops X ds rest K)) ⟨t, r⟩ := (rfl)
theorem q_nil : lopsQ X ds [] K ⟨t, r⟩ = K ⟨t, r⟩ := (rfl)
theorem q_cons {op : Op} : lopsQ X ds (⟨dst, op, ty, ps, af, none⟩ :: rest) K ⟨t, r⟩ = lqc X ⟨t, r⟩ ⟨dst, op, ty, ps, af, none⟩ (kput dst (lopsQ X ds rest K) ⟨t, r⟩) := (rfl)
theorem q_guard {op : Op} {g : Nat × Bool} : lopsQ X ds (⟨dst, op, ty, ps, af, some g⟩ :: rest) K ⟨t, r⟩ = lguard ds (some g) (kq X ⟨dst, op, ty, ps, af, some g⟩ (lopsQ X ds rest K)) (kunit dst (lopsQ X ds rest K)) ⟨t, r⟩ := (rfl)
theorem q_kq {o : Oper} : kq X o K ⟨t, r⟩ = lqc X ⟨t, r⟩ o (kput o.dst K ⟨t, r⟩) := (rfl)
theorem k_put {d : Tmp} {l : L} : kput (some d) K ⟨t, r⟩ l = K ⟨t.set d l, r⟩ := (rfl)
theorem k_put_none {l : L} : kput none K ⟨t, r⟩ l = K ⟨t, r⟩ := (rfl)
theorem k_unit {d : Tmp} : kunit (some d) K ⟨t, r⟩ = K ⟨t.set d (.tup []), r⟩ := (rfl)
theorem k_unit_none : kunit none K ⟨t, r⟩ = K ⟨t, r⟩ := (rfl)
theorem s_put {d : Tmp} {l : L} : (St.mk t r).put (some d) l = ⟨t.set d l, r⟩ := (rfl)
theorem s_put_none {l : L} : (St.mk t r).put none l = ⟨t, r⟩ := (rfl)
theorem s_tmps : (St.mk t r).tmps = t := (rfl)
theorem s_regs : (St.mk t r).regs = r := (rfl)
theorem s_tmp {i : Nat} : (St.mk t r).get (.tmp i) = t.getD i .junk := (rfl)
theorem s_const {v : Value} : (St.mk t r).get (.const v) = ofVal v := (rfl)
theorem s_func {f : FuncId} : (St.mk t r).get (.func f) = .fn f [] := (rfl)
theorem v_bool {b : Bool} : ofVal (.bool b) = .p (.bool b) := (rfl)
theorem v_int {k : IntKind} {n : Int} : ofVal (.int k n) = .p (.int k n) := (rfl)
theorem v_str {a : Array UInt8} : ofVal (.string ⟨a⟩) = .p (.str a.toList) := (rfl)
theorem v_snil : ofVal (.slice none 0 0) = .p .snil := (rfl)
theorem v_nptr : ofVal (.pointer none) = .p .nptr := (rfl)
theorem v_nmap : ofVal (.map none) = .p .nmap := (rfl)
theorem v_nifc : ofVal .nilIface = .p .nifc := (rfl)
theorem v_nfn : ofVal .nilFunc = .p .nfn := (rfl)
theorem v_agg {cs : List Value} : ofVal (.agg ⟨cs⟩) = (match allSome scalarOf cs with | some ps => .p (.agg ps) | none => .junk) := (rfl)
theorem v_tup : ofVal (.tuple #[]) = .tup [] := (rfl)

/-! The operations, one by one -/
variable {g : Option (Nat × Bool)} {d : Tmp}
theorem p_move {x : Operand} : lop X ⟨dst, .move x, ty, ps, af, g⟩ K ⟨t, r⟩ = kput dst K ⟨t, r⟩ ((St.mk t r).get x) := by cases dst <;> exact (rfl)
theorem p_assign {x : Operand} : lop X ⟨dst, .assign x, ty, ps, af, g⟩ K ⟨t, r⟩ = kput dst K ⟨t, r⟩ ((St.mk t r).get x) := by cases dst <;> exact (rfl)
theorem p_bin {op : BinOp} {tx ty' : TypeId} {x y : Operand} : lop X ⟨dst, .binOp op tx x y ty', ty, ps, af, g⟩ K ⟨t, r⟩ = lbin X.P op tx (isConst x || isConst y) ((St.mk t r).get x) ((St.mk t r).get y) (kput dst K ⟨t, r⟩) := by cases dst <;> exact (rfl)
theorem p_un {op : UnOp} {tx : TypeId} {x : Operand} : lop X ⟨dst, .unOp op tx x, ty, ps, af, g⟩ K ⟨t, r⟩ = lun op ((St.mk t r).get x) (kput dst K ⟨t, r⟩) := by cases dst <;> exact (rfl)
theorem p_conv {a b : TypeId} {x : Operand} : lop X ⟨dst, .convert a b x, ty, ps, af, g⟩ K ⟨t, r⟩ = cvG X.P a b ⟨t, r⟩ x dst K ((St.mk t r).get x) := by cases dst <;> exact (rfl)
theorem p_pick {c a b : Operand} : lop X ⟨dst, .pick c a b, ty, ps, af, g⟩ K ⟨t, r⟩ = lpick ((St.mk t r).get c) ((St.mk t r).get a) ((St.mk t r).get b) (kput dst K ⟨t, r⟩) := by cases dst <;> exact (rfl)
theorem p_nil {x : Operand} : lop X ⟨dst, .nilCheck x, ty, ps, af, g⟩ K ⟨t, r⟩ = lnil ((St.mk t r).get x) (kput dst K ⟨t, r⟩) := by cases dst <;> exact (rfl)
theorem p_load {tx : TypeId} {x : Operand} : lop X ⟨dst, .load tx x, ty, ps, af, g⟩ K ⟨t, r⟩ = lload X.P r tx ((St.mk t r).get x) (kput dst K ⟨t, r⟩) := by cases dst <;> exact (rfl)
theorem p_store {tx : TypeId} {a x : Operand} : lop X ⟨dst, .store tx a x, ty, ps, af, g⟩ K ⟨t, r⟩ = lstore X.P tx ⟨t, r⟩ a x (kunit dst K) := by cases dst <;> exact (rfl)
theorem p_fieldAddr {tx : TypeId} {x : Operand} {f : Nat} : lop X ⟨dst, .fieldAddr tx x f, ty, ps, af, g⟩ K ⟨t, r⟩ = lfieldAddr X.P tx ((St.mk t r).get x) f (kput dst K ⟨t, r⟩) := by cases dst <;> exact (rfl)
theorem p_field {tx : TypeId} {x : Operand} {f : Nat} : lop X ⟨dst, .field tx x f, ty, ps, af, g⟩ K ⟨t, r⟩ = lfield X.P tx ((St.mk t r).get x) f (kput dst K ⟨t, r⟩) := by cases dst <;> exact (rfl)
theorem p_indexAddr {tx : TypeId} {x i : Operand} : lop X ⟨dst, .indexAddr tx x i, ty, ps, af, g⟩ K ⟨t, r⟩ = lindexAddr X.P r tx ((St.mk t r).get x) ((St.mk t r).get i) (kput dst K ⟨t, r⟩) := by cases dst <;> exact (rfl)
theorem p_index {tx : TypeId} {x i : Operand} : lop X ⟨dst, .index tx x i, ty, ps, af, g⟩ K ⟨t, r⟩ = lindex X.P tx ((St.mk t r).get x) ((St.mk t r).get i) (kput dst K ⟨t, r⟩) := by cases dst <;> exact (rfl)
def slG (P : Program) (o : Oper) (tx : TypeId) (x : Operand) (lo hi : Option Operand) (dst : Option Tmp) (K : St → Prop) (s : St) (l : L) : Prop :=
  match l with
  | .ptr d 0 0 => larr P tx s d lo hi (kput dst K) (findReg d s.regs)
  | _ => lslice P s.regs tx s.get x lo hi none (kput dst K s)
theorem p_slice {tx : TypeId} {x : Operand} {lo hi : Option Operand} : lop X ⟨dst, .slice tx x lo hi none, ty, ps, af, g⟩ K ⟨t, r⟩ = slG X.P ⟨dst, .slice tx x lo hi none, ty, ps, af, g⟩ tx x lo hi dst K ⟨t, r⟩ ((St.mk t r).get x) := by cases dst <;> exact (rfl)
theorem p_slice3 {tx : TypeId} {x m : Operand} {lo hi : Option Operand} : lop X ⟨dst, .slice tx x lo hi (some m), ty, ps, af, g⟩ K ⟨t, r⟩ = lslice X.P r tx (St.mk t r).get x lo hi (some m) (kput dst K ⟨t, r⟩) := by cases dst <;> exact (rfl)
theorem p_extract {x : Operand} {i : Nat} : lop X ⟨dst, .extract x i, ty, ps, af, g⟩ K ⟨t, r⟩ = lextract ((St.mk t r).get x) i (kput dst K ⟨t, r⟩) := by cases dst <;> exact (rfl)
theorem p_build {tx : TypeId} {pt : Array (Nat × Operand)} : lop X ⟨dst, .build tx pt, ty, ps, af, g⟩ K ⟨t, r⟩ = lbuild X.P tx (pt.toList.map fun (i, x) => (i, (St.mk t r).get x)) (kput dst K ⟨t, r⟩) := by cases dst <;> exact (rfl)
theorem p_makeFunc {f : FuncId} {caps : Array Operand} : lop X ⟨dst, .makeFunc (.func f) #[] caps, ty, ps, af, g⟩ K ⟨t, r⟩ = lcaps f (caps.toList.map (St.mk t r).get) (kput dst K ⟨t, r⟩) := by cases dst <;> simp only [lop, lq, lcaps, true_and]
theorem p_len {x : Operand} {tx : TypeId} : lop X ⟨dst, .call { callee := .builtin .len, args := #[x], argTypes := #[tx] }, ty, ps, af, g⟩ K ⟨t, r⟩ = llen X.P tx ((St.mk t r).get x) (kput dst K ⟨t, r⟩) := by cases dst <;> exact (rfl)
theorem p_max {args : Array Operand} {ats : Array TypeId} : lop X ⟨dst, .call { callee := .builtin .max, args := args, argTypes := ats }, ty, ps, af, g⟩ K ⟨t, r⟩ = lminmax true (args.toList.map (St.mk t r).get) (kput dst K ⟨t, r⟩) := by cases dst <;> exact (rfl)
theorem p_min {args : Array Operand} {ats : Array TypeId} : lop X ⟨dst, .call { callee := .builtin .min, args := args, argTypes := ats }, ty, ps, af, g⟩ K ⟨t, r⟩ = lminmax false (args.toList.map (St.mk t r).get) (kput dst K ⟨t, r⟩) := by cases dst <;> exact (rfl)
theorem p_alloc {T : TypeId} : lop X ⟨some d, .alloc T, ty, ps, af, g⟩ K ⟨t, r⟩ = lalloc X.P d T ⟨t, r⟩ K := (rfl)
theorem p_box {T : TypeId} {x : Operand} : lop X ⟨some d, .box T x, ty, ps, af, g⟩ K ⟨t, r⟩ = lbox d T ⟨t, r⟩ x K := (rfl)
theorem p_buildSlice {tx : TypeId} {n : Nat} {pt : Array (Nat × Operand)} : lop X ⟨some d, .buildSlice tx n pt, ty, ps, af, g⟩ K ⟨t, r⟩ = lbuildSlice X.P d tx n ⟨t, r⟩ pt.toList K := (rfl)
theorem p_makeSlice {tx : TypeId} {l c : Operand} : lop X ⟨some d, .makeSlice tx l c, ty, ps, af, g⟩ K ⟨t, r⟩ = lmakeSlice X.P d tx ⟨t, r⟩ l c K := (rfl)
theorem p_append {x y : Operand} {t1 t2 : TypeId} : lop X ⟨some d, .call { callee := .builtin .append, args := #[x, y], argTypes := #[t1, t2] }, ty, ps, af, g⟩ K ⟨t, r⟩ = lappend X.P d t1 t2 ⟨t, r⟩ x y K := (rfl)
theorem p_call {f : Operand} {args : Array Operand} {ats : Array TypeId} : lop X ⟨dst, .call { callee := .value f, args := args, argTypes := ats }, ty, ps, af, g⟩ K ⟨t, r⟩ = lcall X ⟨t, r⟩ f args.toList dst K := by cases dst <;> exact (rfl)

theorem p_makeMap {tx : TypeId} : lop X ⟨some d, .makeMap tx none, ty, ps, af, g⟩ K ⟨t, r⟩ = lmakeMap d ⟨t, r⟩ K := (rfl)
theorem p_range {tx : TypeId} {x : Operand} : lop X ⟨some d, .range tx x, ty, ps, af, g⟩ K ⟨t, r⟩ = lrange X.P d tx ⟨t, r⟩ x K := (rfl)
theorem p_next {it : Operand} {b : Bool} : lop X ⟨dst, .next it b, ty, ps, af, g⟩ K ⟨t, r⟩ = lnext ⟨t, r⟩ it b (kput dst K) := by cases dst <;> exact (rfl)
theorem p_entry {it : Operand} : lop X ⟨dst, .entry it, ty, ps, af, g⟩ K ⟨t, r⟩ = lentry ⟨t, r⟩ it (kput dst K ⟨t, r⟩) := by cases dst <;> exact (rfl)
theorem p_mapUpdate {tx : TypeId} {m k v : Operand} : lop X ⟨dst, .mapUpdate tx m k v, ty, ps, af, g⟩ K ⟨t, r⟩ = lmapUpdate X.P tx ⟨t, r⟩ m k v (kunit dst K) := by cases dst <;> exact (rfl)
theorem p_insert {tx : TypeId} {m k v : Operand} : lop X ⟨dst, .insert tx m k v, ty, ps, af, g⟩ K ⟨t, r⟩ = lmapUpdate X.P tx ⟨t, r⟩ m k v (kunit dst K) := by cases dst <;> exact (rfl)
theorem p_delete {m k : Operand} {t1 t2 : TypeId} : lop X ⟨dst, .call { callee := .builtin .delete, args := #[m, k], argTypes := #[t1, t2] }, ty, ps, af, g⟩ K ⟨t, r⟩ = ldelete X.P t1 ⟨t, r⟩ m k (kunit dst K) := by cases dst <;> exact (rfl)
/-- A row that becomes a string, or nothing. -/
def usR (P : Program) (o : Option TypeDesc) (d : Nat) (n : Int) (s : St) (N : St → L → Prop) (q : Option Reg) : Prop :=
  match q with
  | some (.row T 1 es) => o = some (.pointer T) ∧ P.cellsOf T = 1 ∧ ∃ bs, bytesPV es = some bs ∧ n = bs.length ∧ bs ≠ [] ∧ bs.length ≤ 9223372036854775807 ∧ N (s.forget d) (.p (.str bs))
  | _ => False
def usT (P : Program) (o : Option TypeDesc) (d : Nat) (s : St) (N : St → L → Prop) (ly : L) : Prop :=
  match ly with
  | .p (.int .i64 n) => usR P o d n s N (findReg d s.regs)
  | _ => False
def ustrV (X : Cx) (t1 : TypeId) (dst : Option Tmp) (y : Operand) (K : St → Prop) (s : St) (l : L) : Prop :=
  match l with
  | .p .nptr => (∃ k, s.get y = .p (.int k 0)) ∧ K (s.put dst (.p (.str [])))
  | .ptr d 0 0 => usT X.P (X.P.underlying t1) d s (kput dst K) (s.get y)
  | _ => False
theorem p_ustr {x y : Operand} {t1 t2 : TypeId} : lop X ⟨dst, .call { callee := .builtin .unsafeString, args := #[x, y], argTypes := #[t1, t2] }, ty, ps, af, g⟩ K ⟨t, r⟩ = ustrV X t1 dst y K ⟨t, r⟩ ((St.mk t r).get x) := by
  have h : lop X ⟨dst, .call { callee := .builtin .unsafeString, args := #[x, y], argTypes := #[t1, t2] }, ty, ps, af, g⟩ K ⟨t, r⟩ = lustr X ⟨dst, .call { callee := .builtin .unsafeString, args := #[x, y], argTypes := #[t1, t2] }, ty, ps, af, g⟩ dst [x, y] [t1, t2] ⟨t, r⟩ K := by cases dst <;> exact (rfl)
  rw [h]
  unfold lustr ustrV
  simp only
  split
  · rename_i hx
    rw [hx]
    apply propext
    constructor
    · rintro ⟨l, ⟨_, h1, rfl⟩, hK⟩; exact ⟨h1, hK⟩
    · rintro ⟨h1, hK⟩; exact ⟨_, ⟨hx, h1, rfl⟩, hK⟩
  · rename_i hx
    split
    · rename_i hy; exact absurd hy hx
    · rename_i d hy
      unfold lunsafeStr usT usR
      rw [hy]
      cases hq : (St.mk t r).get y with
      | p v =>
        cases v with
        | int k n => cases k <;> rfl
        | _ => rfl
      | _ => rfl
    · rename_i h1 h2
      unfold lunsafeStr
      cases hq : (St.mk t r).get x with
      | ptr d i j =>
        cases i with
        | zero => cases j with
          | zero => exact absurd hq (h2 d)
          | succ j => rfl
        | succ i => rfl
      | _ => rfl
theorem p_iface {tx : TypeId} {x : Operand} : lop X ⟨dst, .makeInterface tx x, ty, ps, af, g⟩ K ⟨t, r⟩ = lqvK X.P r ⟨t, r⟩ (.makeInterface tx x) (kput dst K ⟨t, r⟩) := by cases dst <;> exact (rfl)
theorem p_lookup {tx : TypeId} {x i : Operand} {b : Bool} : lop X ⟨dst, .lookup tx x i b, ty, ps, af, g⟩ K ⟨t, r⟩ = lqvK X.P r ⟨t, r⟩ (.lookup tx x i b) (kput dst K ⟨t, r⟩) := by cases dst <;> exact (rfl)
theorem p_cap {x : Operand} {tx : TypeId} : lop X ⟨dst, .call { callee := .builtin .cap, args := #[x], argTypes := #[tx] }, ty, ps, af, g⟩ K ⟨t, r⟩ = lqvK X.P r ⟨t, r⟩ (.call { callee := .builtin .cap, args := #[x], argTypes := #[tx] }) (kput dst K ⟨t, r⟩) := by cases dst <;> exact (rfl)
theorem p_usd {x : Operand} {tx : TypeId} : lop X ⟨dst, .call { callee := .builtin .unsafeSliceData, args := #[x], argTypes := #[tx] }, ty, ps, af, g⟩ K ⟨t, r⟩ = lqvK X.P r ⟨t, r⟩ (.call { callee := .builtin .unsafeSliceData, args := #[x], argTypes := #[tx] }) (kput dst K ⟨t, r⟩) := by cases dst <;> exact (rfl)

/-! Where the order is drawn -/
variable {C : L → Prop}
theorem q_move {x : Operand} : lqc X ⟨t, r⟩ ⟨dst, .move x, ty, ps, af, g⟩ C = C ((St.mk t r).get x) := (rfl)
theorem q_assign {x : Operand} : lqc X ⟨t, r⟩ ⟨dst, .assign x, ty, ps, af, g⟩ C = C ((St.mk t r).get x) := (rfl)
theorem q_bin {op : BinOp} {tx ty' : TypeId} {x y : Operand} : lqc X ⟨t, r⟩ ⟨dst, .binOp op tx x y ty', ty, ps, af, g⟩ C = lbin X.P op tx (isConst x || isConst y) ((St.mk t r).get x) ((St.mk t r).get y) C := (rfl)
theorem q_un {op : UnOp} {tx : TypeId} {x : Operand} : lqc X ⟨t, r⟩ ⟨dst, .unOp op tx x, ty, ps, af, g⟩ C = lun op ((St.mk t r).get x) C := (rfl)
theorem q_conv {a b : TypeId} {x : Operand} : lqc X ⟨t, r⟩ ⟨dst, .convert a b x, ty, ps, af, g⟩ C = lconv X.P a b ((St.mk t r).get x) C := (rfl)
theorem q_pick {c a b : Operand} : lqc X ⟨t, r⟩ ⟨dst, .pick c a b, ty, ps, af, g⟩ C = lpick ((St.mk t r).get c) ((St.mk t r).get a) ((St.mk t r).get b) C := (rfl)
theorem q_nilCheck {x : Operand} : lqc X ⟨t, r⟩ ⟨dst, .nilCheck x, ty, ps, af, g⟩ C = lnil ((St.mk t r).get x) C := (rfl)
theorem q_load {tx : TypeId} {x : Operand} : lqc X ⟨t, r⟩ ⟨dst, .load tx x, ty, ps, af, g⟩ C = lload X.P r tx ((St.mk t r).get x) C := (rfl)
theorem q_fieldAddr {tx : TypeId} {x : Operand} {f : Nat} : lqc X ⟨t, r⟩ ⟨dst, .fieldAddr tx x f, ty, ps, af, g⟩ C = lfieldAddr X.P tx ((St.mk t r).get x) f C := (rfl)
theorem q_field {tx : TypeId} {x : Operand} {f : Nat} : lqc X ⟨t, r⟩ ⟨dst, .field tx x f, ty, ps, af, g⟩ C = lfield X.P tx ((St.mk t r).get x) f C := (rfl)
theorem q_indexAddr {tx : TypeId} {x i : Operand} : lqc X ⟨t, r⟩ ⟨dst, .indexAddr tx x i, ty, ps, af, g⟩ C = lindexAddr X.P r tx ((St.mk t r).get x) ((St.mk t r).get i) C := (rfl)
theorem q_index {tx : TypeId} {x i : Operand} : lqc X ⟨t, r⟩ ⟨dst, .index tx x i, ty, ps, af, g⟩ C = lindex X.P tx ((St.mk t r).get x) ((St.mk t r).get i) C := (rfl)
theorem q_slice {tx : TypeId} {x : Operand} {lo hi mx : Option Operand} : lqc X ⟨t, r⟩ ⟨dst, .slice tx x lo hi mx, ty, ps, af, g⟩ C = lslice X.P r tx (St.mk t r).get x lo hi mx C := (rfl)
theorem q_extract {x : Operand} {i : Nat} : lqc X ⟨t, r⟩ ⟨dst, .extract x i, ty, ps, af, g⟩ C = lextract ((St.mk t r).get x) i C := (rfl)
theorem q_build {tx : TypeId} {pt : Array (Nat × Operand)} : lqc X ⟨t, r⟩ ⟨dst, .build tx pt, ty, ps, af, g⟩ C = lbuild X.P tx (pt.toList.map fun (i, x) => (i, (St.mk t r).get x)) C := (rfl)
theorem q_makeFunc {f : FuncId} {caps : Array Operand} : lqc X ⟨t, r⟩ ⟨dst, .makeFunc (.func f) #[] caps, ty, ps, af, g⟩ C = lcaps f (caps.toList.map (St.mk t r).get) C := by simp only [lqc, lq, lcaps, true_and]
theorem q_len {x : Operand} {tx : TypeId} : lqc X ⟨t, r⟩ ⟨dst, .call { callee := .builtin .len, args := #[x], argTypes := #[tx] }, ty, ps, af, g⟩ C = llen X.P tx ((St.mk t r).get x) C := (rfl)
theorem q_max {args : Array Operand} {ats : Array TypeId} : lqc X ⟨t, r⟩ ⟨dst, .call { callee := .builtin .max, args := args, argTypes := ats }, ty, ps, af, g⟩ C = lminmax true (args.toList.map (St.mk t r).get) C := (rfl)
theorem q_min {args : Array Operand} {ats : Array TypeId} : lqc X ⟨t, r⟩ ⟨dst, .call { callee := .builtin .min, args := args, argTypes := ats }, ty, ps, af, g⟩ C = lminmax false (args.toList.map (St.mk t r).get) C := (rfl)
theorem q_buildSlice {tx : TypeId} {n : Nat} {pt : Array (Nat × Operand)} : lqc X ⟨t, r⟩ ⟨dst, .buildSlice tx n pt, ty, ps, af, g⟩ C = lqbs X.P ⟨t, r⟩ tx n pt.toList C := (rfl)
theorem q_iface {tx : TypeId} {x : Operand} : lqc X ⟨t, r⟩ ⟨dst, .makeInterface tx x, ty, ps, af, g⟩ C = lqvK X.P r ⟨t, r⟩ (.makeInterface tx x) C := (rfl)
theorem q_lookup {tx : TypeId} {x i : Operand} {b : Bool} : lqc X ⟨t, r⟩ ⟨dst, .lookup tx x i b, ty, ps, af, g⟩ C = lqvK X.P r ⟨t, r⟩ (.lookup tx x i b) C := (rfl)
theorem q_cap {x : Operand} {tx : TypeId} : lqc X ⟨t, r⟩ ⟨dst, .call { callee := .builtin .cap, args := #[x], argTypes := #[tx] }, ty, ps, af, g⟩ C = lqvK X.P r ⟨t, r⟩ (.call { callee := .builtin .cap, args := #[x], argTypes := #[tx] }) C := (rfl)
theorem q_usd {x : Operand} {tx : TypeId} : lqc X ⟨t, r⟩ ⟨dst, .call { callee := .builtin .unsafeSliceData, args := #[x], argTypes := #[tx] }, ty, ps, af, g⟩ C = lqvK X.P r ⟨t, r⟩ (.call { callee := .builtin .unsafeSliceData, args := #[x], argTypes := #[tx] }) C := (rfl)
theorem q_call {f : FuncId} {args : Array Operand} {ats : Array TypeId} : lqc X ⟨t, r⟩ ⟨dst, .call { callee := .value (.func f), args := args, argTypes := ats }, ty, ps, af, g⟩ C = lqcall X f (args.toList.map (St.mk t r).get) C := (rfl)

end
end Go.LX
