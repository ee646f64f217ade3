/- Slots as a list of what was written, the last first. -/
import Derived.Test.YteiencnfglbnkaaDoorLxP
set_option linter.unusedSimpArgs false
set_option linter.unusedVariables false
set_option linter.unusedSectionVars false
set_option linter.unnecessarySimpa false
namespace Go.LX
open Go Go.RowKit Go.Proofs

def slots (n : Nat) : List (Nat × L) → List L
  | [] => List.replicate n .junk
  | (i, l) :: ws => (slots n ws).set i l

theorem slots_length (n : Nat) : ∀ ws, (slots n ws).length = n
  | [] => by simp [slots]
  | (i, l) :: ws => by simp [slots, slots_length n ws]
theorem slots_set {n i : Nat} {l : L} {ws : List (Nat × L)} : (slots n ws).set i l = slots n ((i, l) :: ws) := (rfl)
theorem slots_get {n i j : Nat} {l : L} {ws : List (Nat × L)} : (slots n ((i, l) :: ws)).getD j .junk = if i = j then (if i < n then l else .junk) else (slots n ws).getD j .junk := by
  simp only [slots, List.getD_eq_getElem?_getD, List.getElem?_set, slots_length]
  split
  · rename_i h; subst h; split <;> rfl
  · rfl
theorem slots_get_nil {n j : Nat} : (slots n []).getD j .junk = .junk := by
  simp only [slots, List.getD_eq_getElem?_getD, List.getElem?_replicate]
  split <;> rfl

def mapW (f : L → L) : List (Nat × L) → List (Nat × L)
  | [] => []
  | (i, l) :: ws => (i, f l) :: mapW f ws
theorem slots_map {f : L → L} (h : f .junk = .junk) {n : Nat} : ∀ {ws : List (Nat × L)}, (slots n ws).map f = slots n (mapW f ws)
  | [] => by simp [slots, mapW, h]
  | (i, l) :: ws => by simp only [slots, mapW, List.map_set, slots_map h]
theorem slots_forget {d n : Nat} {ws : List (Nat × L)} : (slots n ws).map (L.forget d) = slots n (mapW (L.forget d) ws) := slots_map rfl
theorem slots_freeze {d n : Nat} {es : Fz} {ws : List (Nat × L)} : (slots n ws).map (L.freeze d es) = slots n (mapW (L.freeze d es) ws) := slots_map rfl
theorem slots_keep {f : Nat → Option Nat} {n : Nat} {ws : List (Nat × L)} : (slots n ws).map (L.map f) = slots n (mapW (L.map f) ws) := slots_map rfl
theorem mapW_nil {f : L → L} : mapW f [] = [] := (rfl)
theorem mapW_cons {f : L → L} {i : Nat} {l : L} {ws : List (Nat × L)} : mapW f ((i, l) :: ws) = (i, f l) :: mapW f ws := (rfl)

/-- The arguments lie in the first slots. -/
def argW : Nat → List L → List (Nat × L)
  | _, [] => []
  | k, l :: ls => (k, l) :: argW (k + 1) ls
theorem slots_arg {n : Nat} : ∀ (k : Nat) (ls : List L) (i : Nat), k + ls.length ≤ n → (slots n (argW k ls))[i]? = if i < n then (if k ≤ i then (ls[i - k]?).orElse fun _ => some .junk else some .junk) else none
  | k, [], i, h => by
    simp only [argW, slots, List.getElem?_replicate]
    split
    · split <;> simp
    · rfl
  | k, l :: ls, i, h => by
    simp only [List.length_cons] at h
    have ih := slots_arg (n := n) (k + 1) ls i (by omega)
    simp only [argW, slots, List.getElem?_set, slots_length, ih]
    by_cases h1 : k = i
    · subst h1; simp
    · simp only [if_neg h1]
      by_cases h2 : i < n
      · simp only [if_pos h2]
        by_cases h3 : k + 1 ≤ i
        · simp only [if_pos h3, if_pos (show k ≤ i by omega)]
          have : i - k = (i - (k + 1)) + 1 := by omega
          rw [this, List.getElem?_cons_succ]
        · simp only [if_neg h3, if_neg (show ¬ k ≤ i by omega)]
      · simp only [if_neg h2]
theorem slots_args {n : Nat} {ls : List L} (h : ls.length ≤ n) : ls ++ List.replicate (n - ls.length) .junk = slots n (argW 0 ls) := by
  apply List.ext_getElem?
  intro i
  rw [slots_arg 0 ls i (by omega)]
  by_cases h1 : i < ls.length
  · rw [List.getElem?_append_left h1, if_pos (by omega), if_pos (Nat.zero_le _)]
    simp [h1]
  · rw [List.getElem?_append_right (by omega), List.getElem?_replicate]
    by_cases h2 : i < n
    · rw [if_pos (by omega), if_pos h2, if_pos (Nat.zero_le _)]
      simp [h1]
    · rw [if_neg (by omega), if_neg h2]

def wsLe (n : Nat) (ws : List (Nat × L)) : List (Nat × L) → Prop
  | [] => True
  | (i, l) :: rest => LLe ((slots n ws).getD i .junk) l ∧ wsLe n ws rest
theorem wsLe_nil {n : Nat} {ws : List (Nat × L)} : wsLe n ws [] = True := (rfl)
theorem wsLe_cons {n i : Nat} {l : L} {ws rest : List (Nat × L)} : wsLe n ws ((i, l) :: rest) = (LLe ((slots n ws).getD i .junk) l ∧ wsLe n ws rest) := (rfl)

theorem tmpsLe_iff : ∀ {a b : List L}, a.length = b.length → (∀ i, LLe (a.getD i .junk) (b.getD i .junk)) → tmpsLe a b
  | [], [], _, _ => trivial
  | x :: a, y :: b, h, hi => ⟨by simpa using hi 0, tmpsLe_iff (by simpa using h) fun i => by simpa using hi (i + 1)⟩
  | [], _ :: _, h, _ => by simp at h
  | _ :: _, [], h, _ => by simp at h

theorem wsLe_get {n : Nat} {ws : List (Nat × L)} : ∀ {rest : List (Nat × L)}, wsLe n ws rest → ∀ i, LLe ((slots n ws).getD i .junk) ((slots n rest).getD i .junk)
  | [], _, i => by rw [slots_get_nil]; exact .inl rfl
  | (j, l) :: rest, h, i => by
    rw [slots_get]
    split
    · rename_i hj; subst hj
      split
      · exact h.1
      · exact .inl rfl
    · exact wsLe_get h.2 i

theorem St.le_slots {n : Nat} {ws ws' : List (Nat × L)} {r r' : Regs} (ht : wsLe n ws ws') (hr : regsLe r r') (hk : keysOK r') : St.Le ⟨slots n ws, r⟩ ⟨slots n ws', r'⟩ :=
  St.le_of (tmpsLe_iff (by simp [slots_length]) (wsLe_get ht)) hr hk

theorem LCalls.of_code {X : Cx} {f : FuncId} {fn : Func} {c : Code} {args : List L} {rs : Regs} {Post : L → Regs → Prop} (own : Bool) (rn : List (Nat × Nat)) (hrn : ∀ x ∈ rn, x.2 < 1000 ∨ 500000 ≤ x.2) (hf : X.P.funcs[f]? = some fn) (hname : (fn.name == "runtime.NumGoroutine") = false) (hb : fn.body = some c) (hn : args.length ≤ fn.ntmps)
    (h900 : 900 ∉ rs.map (·.1)) (h : SWP X none c (kret2 X.P own rn fn.results.toList (rs.map (·.1)) Post) ⟨slots fn.ntmps (argW 0 args), rs⟩) : LCalls X f args rs Post :=
  LCalls.of_body2 own rn hrn hf hname hb h900 (by rw [slots_args hn]; exact h)

end Go.LX
