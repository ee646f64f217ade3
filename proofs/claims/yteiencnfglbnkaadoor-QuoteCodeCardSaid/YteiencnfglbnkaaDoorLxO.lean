/- States that say less; names of regions changed. -/
import Derived.Test.YteiencnfglbnkaaDoorLxN
set_option linter.unusedSimpArgs false
set_option linter.unusedVariables false
set_option linter.unusedSectionVars false
set_option linter.unnecessarySimpa false
namespace Go.LX
open Go Go.RowKit Go.Proofs

def LLe (l l' : L) : Prop := l' = .junk ∨ l = l' ∨ (l = .p .snil ∧ l' = .p (.sl []))
def tmpsLe : List L → List L → Prop
  | [], [] => True
  | l :: r, l' :: r' => LLe l l' ∧ tmpsLe r r'
  | _, _ => False
/-- The pure cells of a row. -/
def pureRow : List (List L) → Option (List (List PV))
  | [] => some []
  | e :: es => match allSome L.pure? e with
    | some p => match pureRow es with
      | some ps => some (p :: ps)
      | none => none
    | none => none
def rowsLe : List (List L) → List (List L) → Prop
  | [], [] => True
  | e :: r, e' :: r' => tmpsLe e e' ∧ rowsLe r r'
  | _, _ => False
def RegLe : Reg → Reg → Prop
  | .var T cs, .var T' cs' => T = T' ∧ tmpsLe cs cs'
  | .row T sz es, .row T' sz' es' => T = T' ∧ sz = sz' ∧ es = es'
  | .row T sz es, .lrow T' sz' f es' => T = T' ∧ sz = sz' ∧ f = false ∧ es' = es.map fun e => e.map L.p
  | .lrow T sz f es, .lrow T' sz' f' es' => T = T' ∧ sz = sz' ∧ (f' = true → f = true) ∧ rowsLe es es'
  | .lrow T sz _ es, .row T' sz' es' => T = T' ∧ sz = sz' ∧ pureRow es = some es'
  | .obj o, .obj o' => o = o'
  | _, _ => False
def regsLe (rs : Regs) : Regs → Prop
  | [] => True
  | (d, r') :: rest => (match findReg d rs with | some r => RegLe r r' | none => False) ∧ regsLe rs rest
def keysOK : Regs → Prop
  | [] => True
  | (d, _) :: rest => d ∉ rest.map (·.1) ∧ keysOK rest

theorem LLe_junk (l : L) : LLe l .junk := .inl rfl
theorem LLe_refl (l : L) : LLe l l := .inr (.inl rfl)
theorem LLe_p (x y : PV) : LLe (.p x) (.p y) ↔ (x = y ∨ (x = .snil ∧ y = .sl [])) := by
  simp [LLe]

theorem LLe.rep {β : Env} {w : World} {Im : Nat → Prop} {v : Value} {l l' : L} (h : LLe l l') (hr : LRep β w Im v l) : LRep β w Im v l' := by
  rcases h with rfl | rfl | ⟨rfl, rfl⟩
  · trivial
  · exact hr
  · cases hr; exact PRep.slNil

theorem tmpsLe_spec : ∀ {a b : List L}, tmpsLe a b → a.length = b.length ∧ ∀ (i : Nat) (l' : L), b[i]? = some l' → ∃ l, a[i]? = some l ∧ LLe l l'
  | [], [], _ => ⟨rfl, fun i l' h => by simp at h⟩
  | x :: a, y :: b, h => by
    obtain ⟨h1, h2⟩ := h
    obtain ⟨h3, h4⟩ := tmpsLe_spec h2
    refine ⟨by simp [h3], fun i l' hl => ?_⟩
    cases i with
    | zero => simp at hl; subst hl; exact ⟨x, rfl, h1⟩
    | succ i => simp at hl; simpa using h4 i l' hl
  | [], _ :: _, h => h.elim
  | _ :: _, [], h => h.elim

theorem LLe.cell {l l' : L} (h : LLe l l') (hc : l.cellOK = true ∨ l = .junk) : l'.cellOK = true ∨ l' = .junk := by
  rcases h with rfl | rfl | ⟨rfl, rfl⟩
  · exact .inr rfl
  · exact hc
  · exact .inl rfl

theorem rowsLe_spec : ∀ {a b : List (List L)}, rowsLe a b → a.length = b.length ∧ ∀ (i : Nat) (e' : List L), b[i]? = some e' → ∃ e, a[i]? = some e ∧ tmpsLe e e'
  | [], [], _ => ⟨rfl, fun i l' h => by simp at h⟩
  | x :: a, y :: b, h => by
    obtain ⟨h1, h2⟩ := h
    obtain ⟨h3, h4⟩ := rowsLe_spec h2
    refine ⟨by simp [h3], fun i l' hl => ?_⟩
    cases i with
    | zero => simp at hl; subst hl; exact ⟨x, rfl, h1⟩
    | succ i => simp at hl; simpa using h4 i l' hl
  | [], _ :: _, h => h.elim
  | _ :: _, [], h => h.elim
theorem pureRow_spec : ∀ {es : List (List L)} {ps : List (List PV)}, pureRow es = some ps → es.length = ps.length ∧ ∀ (i : Nat) (p : List PV), ps[i]? = some p → ∃ e, es[i]? = some e ∧ allSome L.pure? e = some p
  | [], ps, h => by simp [pureRow] at h; subst h; exact ⟨rfl, fun i p h => by simp at h⟩
  | e :: es, ps, h => by
    simp only [pureRow] at h
    split at h <;> first | (cases h; done) | skip
    rename_i p hp
    split at h <;> first | (cases h; done) | skip
    rename_i ps' hps
    cases h
    obtain ⟨h1, h2⟩ := pureRow_spec hps
    refine ⟨by simp [h1], fun i q hq => ?_⟩
    cases i with
    | zero => simp at hq; subst hq; exact ⟨e, rfl, hp⟩
    | succ i => simp at hq; simpa using h2 i q hq

theorem RegLe.rep {β : Env} {w : World} {Im : Nat → Prop} {d : Nat} {r r' : Reg} (h : RegLe r r') (hr : RegRep β w Im d r) : RegRep β w Im d r' := by
  cases r <;> cases r' <;> simp only [RegLe] at h
  · obtain ⟨rfl, h⟩ := h
    obtain ⟨h1, h2⟩ := tmpsLe_spec h
    obtain ⟨loc, cur, g1, g2, g3, g4, g5, g6⟩ := hr
    refine ⟨loc, cur, g1, by rw [← h1]; exact g2, g3, g4, by rw [← h1]; exact g5, fun j v l hv hl => ?_⟩
    obtain ⟨l0, hl0, hle⟩ := h2 j l hl
    exact ⟨hle.rep (g6 j v l0 hv hl0).1, hle.cell (g6 j v l0 hv hl0).2⟩
  · obtain ⟨rfl, rfl, rfl⟩ := h
    exact hr
  · obtain ⟨rfl, rfl, rfl, rfl⟩ := h
    rcases hr with ⟨g1, g2⟩ | ⟨loc, cur, g1, g2, g3, g4, g5, g6, g7, g8⟩
    · exact .inl ⟨g1, by simp [g2]⟩
    · refine .inr ⟨loc, cur, g1, g2, g3, g4, by simpa using g5, fun h => (by cases h), g6, fun e he => ?_, fun i e j l hi hj => ?_⟩
      · obtain ⟨x, hx, rfl⟩ := List.mem_map.1 he
        simpa using (g7 x hx).1
      · rw [List.getElem?_map] at hi
        obtain ⟨x, hx, rfl⟩ := Option.map_eq_some_iff.1 hi
        rw [List.getElem?_map] at hj
        obtain ⟨p, hp, rfl⟩ := Option.map_eq_some_iff.1 hj
        obtain ⟨v, hv, hpr⟩ := g8 i x j p hx hp
        exact ⟨v, hv, hpr, .inl ((g7 x (List.mem_of_getElem? hx)).2 p (List.mem_of_getElem? hp))⟩
  · obtain ⟨rfl, rfl, h⟩ := h
    obtain ⟨h1, h2⟩ := pureRow_spec h
    rcases hr with ⟨g1, g2⟩ | ⟨loc, cur, g1, g2, g3, g4, g5, g6, g7, g8, g9⟩
    · subst g2
      exact .inl ⟨g1, List.eq_nil_of_length_eq_zero (by simpa using h1.symm)⟩
    · have key : ∀ (i : Nat) (q : List PV) (j : Nat) (p : PV), ‹List (List PV)›[i]? = some q → q[j]? = some p → ∃ e, ‹List (List L)›[i]? = some e ∧ e[j]? = some (.p p) ∧ e.length = q.length := by
        intro i q j p hi hj
        obtain ⟨e, he, ha⟩ := h2 i q hi
        obtain ⟨k1, k2⟩ := allSome_spec ha
        obtain ⟨l, hl⟩ := getElem?_of_length k1 hj
        have := pure?_spec (k2 j l p hl hj)
        subst this
        exact ⟨e, he, hl, k1⟩
      refine .inr ⟨loc, cur, g1, g2, g3, g4, by rw [← h1]; exact g5, g7, fun q hq => ?_, fun i q j p hi hj => ?_⟩
      · obtain ⟨i, hi, rfl⟩ := List.getElem_of_mem hq
        obtain ⟨e, he, ha⟩ := h2 i _ (List.getElem?_eq_getElem hi)
        obtain ⟨k1, k2⟩ := allSome_spec ha
        refine ⟨by rw [← k1]; exact g8 e (List.mem_of_getElem? he), fun p hp => ?_⟩
        obtain ⟨j, hj, rfl⟩ := List.getElem_of_mem hp
        obtain ⟨e', he', hl', _⟩ := key i _ j _ (List.getElem?_eq_getElem hi) (List.getElem?_eq_getElem hj)
        obtain ⟨v, _, _, hc⟩ := g9 i e' j _ he' hl'
        rcases hc with hc | hc
        · exact hc
        · cases hc
      · obtain ⟨e', he', hl', _⟩ := key i q j p hi hj
        obtain ⟨v, hv, hp, _⟩ := g9 i e' j _ he' hl'
        exact ⟨v, hv, hp⟩
  · obtain ⟨rfl, rfl, hf, h⟩ := h
    obtain ⟨h1, h2⟩ := rowsLe_spec h
    rcases hr with ⟨g1, g2⟩ | ⟨loc, cur, g1, g2, g3, g4, g5, g6, g7, g8, g9⟩
    · subst g2
      exact .inl ⟨g1, List.eq_nil_of_length_eq_zero (by simpa using h1.symm)⟩
    · refine .inr ⟨loc, cur, g1, g2, g3, g4, by rw [← h1]; exact g5, fun h => by rw [← h1]; exact g6 (hf h), g7, fun q hq => ?_, fun i q j l hi hj => ?_⟩
      · obtain ⟨i, hi, rfl⟩ := List.getElem_of_mem hq
        obtain ⟨e, he, hle⟩ := h2 i _ (List.getElem?_eq_getElem hi)
        rw [← (tmpsLe_spec hle).1]
        exact g8 e (List.mem_of_getElem? he)
      · obtain ⟨e, he, hle⟩ := h2 i q hi
        obtain ⟨l0, hl0, hl⟩ := (tmpsLe_spec hle).2 j l hj
        obtain ⟨v, hv, hr, hc⟩ := g9 i e j l0 he hl0
        exact ⟨v, hv, hl.rep hr, hl.cell hc⟩
  · subst h
    exact hr

theorem regsLe_spec {rs : Regs} : ∀ {rs' : Regs}, regsLe rs rs' → ∀ d r', (d, r') ∈ rs' → ∃ r, (d, r) ∈ rs ∧ RegLe r r'
  | [], _, d, r', h => by cases h
  | (e, q) :: rest, h, d, r', hm => by
    obtain ⟨h1, h2⟩ := h
    rcases List.mem_cons.1 hm with hm | hm
    · cases hm
      split at h1
      · rename_i r hr; exact ⟨r, findReg_mem hr, h1⟩
      · exact h1.elim
    · exact regsLe_spec h2 d r' hm

theorem keysOK_nodup : ∀ {rs : Regs}, keysOK rs → (rs.map (·.1)).Nodup
  | [], _ => .nil
  | (d, r) :: rest, h => by simp only [List.map_cons, List.nodup_cons]; exact ⟨h.1, keysOK_nodup h.2⟩

/-- Less is said of slots and regions. -/
theorem St.le_of {s s' : St} (ht : tmpsLe s.tmps s'.tmps) (hr : regsLe s.regs s'.regs) (hk : keysOK s'.regs) : s.Le s' := by
  rintro Γ a w ⟨ms, hdef, β, Im, hx⟩
  obtain ⟨h1, h2⟩ := tmpsLe_spec ht
  refine ⟨ms, hdef, β, Im, { hx with fit := { size := by rw [← h1]; exact hx.fit.size, tmps := fun i l hl => ?_, regs := fun d r hd => ?_, nodup := keysOK_nodup hk, live := fun d r loc hd hl => ?_, apart := fun d r d' r' l1 l2 hd hd' hne hl hl' => ?_, im := hx.fit.im }, regnew := fun d r loc hd hl => ?_, marks := fun D hD => ?_ }⟩
  · obtain ⟨l0, hl0, hle⟩ := h2 i l hl
    exact hle.rep (hx.fit.tmps i l0 hl0)
  · obtain ⟨r0, h3, h4⟩ := regsLe_spec hr d r hd
    exact h4.rep (hx.fit.regs d r0 h3)
  · obtain ⟨r0, h3, h4⟩ := regsLe_spec hr d r hd
    exact hx.fit.live d r0 loc h3 hl
  · obtain ⟨r0, h3, _⟩ := regsLe_spec hr d r hd
    obtain ⟨r1, h4, _⟩ := regsLe_spec hr d' r' hd'
    exact hx.fit.apart d r0 d' r1 l1 l2 h3 h4 hne hl hl'
  · obtain ⟨r0, h3, h4⟩ := regsLe_spec hr d r hd
    exact hx.regnew d r0 loc h3 hl
  · obtain ⟨m1, m2, m3, m4⟩ := hx.marks D hD
    refine ⟨m1, m2, m3, fun d r loc hd hl => ?_⟩
    obtain ⟨r0, h3, _⟩ := regsLe_spec hr d r hd
    exact m4 d r0 loc h3 hl

/-! ### Another name for a region -/
def renId (d d' e : Nat) : Option Nat := if e = d then some d' else if e = d' then none else some e
def renRegs (d d' : Nat) : Regs → Regs
  | [] => []
  | (e, r) :: rest => match renId d d' e with
    | some n => (n, r.map (renId d d')) :: renRegs d d' rest
    | none => renRegs d d' rest
def St.ren (d d' : Nat) (s : St) : St := ⟨s.tmps.map (L.map (renId d d')), renRegs d d' s.regs⟩

theorem mem_renRegs {d d' n : Nat} {q : Reg} : ∀ {rs : Regs}, (n, q) ∈ renRegs d d' rs → ∃ e r, (e, r) ∈ rs ∧ renId d d' e = some n ∧ q = r.map (renId d d')
  | [], h => by cases h
  | (e, r) :: rest, h => by
    simp only [renRegs] at h
    split at h
    · rename_i m hm
      rcases List.mem_cons.1 h with h | h
      · cases h; exact ⟨e, r, List.mem_cons_self, hm, rfl⟩
      · obtain ⟨e', r', h1, h2, h3⟩ := mem_renRegs h; exact ⟨e', r', List.mem_cons_of_mem _ h1, h2, h3⟩
    · obtain ⟨e', r', h1, h2, h3⟩ := mem_renRegs h; exact ⟨e', r', List.mem_cons_of_mem _ h1, h2, h3⟩

theorem renId_inj {d d' e e' n : Nat} (h : renId d d' e = some n) (h' : renId d d' e' = some n) : e = e' := by
  unfold renId at h h'
  split at h <;> split at h'
  · omega
  · split at h' <;> simp_all
  · split at h <;> simp_all
  · split at h <;> split at h' <;> simp_all

theorem renRegs_nodup {d d' : Nat} : ∀ {rs : Regs}, (rs.map (·.1)).Nodup → ((renRegs d d' rs).map (·.1)).Nodup
  | [], _ => .nil
  | (e, r) :: rest, h => by
    simp only [List.map_cons, List.nodup_cons] at h
    simp only [renRegs]
    split
    · rename_i n hn
      simp only [List.map_cons, List.nodup_cons]
      refine ⟨fun hm => ?_, renRegs_nodup h.2⟩
      obtain ⟨⟨n', q⟩, hq, he⟩ := List.mem_map.1 hm
      simp only at he
      subst he
      obtain ⟨e', r', h1, h2, _⟩ := mem_renRegs hq
      exact h.1 (List.mem_map.2 ⟨(e', r'), h1, renId_inj h2 hn⟩)
    · exact renRegs_nodup h.2

theorem St.le_ren (s : St) {d d' : Nat} (hd' : d' < 1000 ∨ 500000 ≤ d') : s.Le (s.ren d d') := by
  rintro Γ a w ⟨ms, hdef, β, Im, hx⟩
  have hf : ∀ e n, renId d d' e = some n → Env.upd β d' (β d) n = β e := by
    intro e n h
    unfold renId at h
    split at h
    · rename_i he; subst he; cases h; exact upd_eq
    · split at h
      · cases h
      · rename_i h1 h2; cases h; exact upd_ne h2
  refine ⟨ms, hdef, Env.upd β d' (β d), Im, { hx with fit := { size := by simpa [St.ren] using hx.fit.size, tmps := fun i l hl => ?_, regs := fun n q hm => ?_, nodup := renRegs_nodup hx.fit.nodup, live := fun n q loc hm hl => ?_, apart := fun n q n' q' l1 l2 hm hm' hne hl hl' => ?_, im := hx.fit.im }, regnew := fun n q loc hm hl => ?_, fixed := fun e he he' => by rw [upd_ne (by omega)]; exact hx.fixed e he he', marks := fun D hD => ?_ }⟩
  · simp only [St.ren, List.getElem?_map] at hl
    obtain ⟨l1, hl1, rfl⟩ := Option.map_eq_some_iff.1 hl
    exact (hx.fit.tmps i l1 hl1).map hf
  · obtain ⟨e, r, h1, h2, rfl⟩ := mem_renRegs hm
    exact (hx.fit.regs e r h1).map hf (hf e n h2)
  · obtain ⟨e, r, h1, h2, rfl⟩ := mem_renRegs hm
    rw [hf e n h2] at hl
    exact hx.fit.live e r loc h1 hl
  · obtain ⟨e, r, h1, h2, rfl⟩ := mem_renRegs hm
    obtain ⟨e', r', k1, k2, rfl⟩ := mem_renRegs hm'
    rw [hf e n h2] at hl
    rw [hf e' n' k2] at hl'
    exact hx.fit.apart e r e' r' l1 l2 h1 k1 (fun hc => hne (by subst hc; rw [h2] at k2; exact Option.some.inj k2)) hl hl'
  · obtain ⟨e, r, h1, h2, rfl⟩ := mem_renRegs hm
    rw [hf e n h2] at hl
    exact hx.regnew e r loc h1 hl
  · obtain ⟨m1, m2, m3, m4⟩ := hx.marks D hD
    refine ⟨m1, m2, m3, fun n q loc hm hl => ?_⟩
    obtain ⟨e, r, h1, h2, rfl⟩ := mem_renRegs hm
    rw [hf e n h2] at hl
    exact m4 e r loc h1 hl

/-- A region that is not there: the row of no elements. -/
def St.nilReg (d : Nat) (T : TypeId) (sz : Nat) (s : St) : St := ⟨s.tmps.map (L.forget d), (d, .row T sz []) :: dropReg d s.regs⟩
theorem RRx.nilReg {Γ : Base} {β : Env} {Im : Nat → Prop} {s : St} {tmps : Array Value} {w : World} (h : RRx Γ β Im s tmps w) {d : Nat} (hd : d < 1000 ∨ 500000 ≤ d) (T : TypeId) (sz : Nat) : RRx Γ (Env.upd β d none) Im (s.nilReg d T sz) tmps w := by
  have hβ : ∀ e, e ≠ d → Env.upd β d none e = β e := fun e he => upd_ne he
  have h2 := h.fit.forget (d := d) hβ
  refine { h with fit := { h2 with regs := fun e q hq => ?_, nodup := ?_, live := fun e q loc hq hl => ?_, apart := fun e q e' q' loc loc' hq hq' hne hl hl' => ?_ }, regnew := fun e q loc hq hl => ?_, fixed := fun e he he' => by rw [hβ e (by omega)]; exact h.fixed e he he', marks := fun D hD => ?_ }
  · rcases List.mem_cons.1 hq with hq | hq
    · cases hq; exact .inl ⟨upd_eq, rfl⟩
    · exact h2.regs e q hq
  · simp only [St.nilReg, List.map_cons, List.nodup_cons]
    refine ⟨fun hm => ?_, h2.nodup⟩
    obtain ⟨⟨e, q⟩, hq, he⟩ := List.mem_map.1 hm
    exact (mem_dropReg hq).1 he
  · rcases List.mem_cons.1 hq with hq | hq
    · cases hq; rw [upd_eq] at hl; cases hl
    · exact h2.live e q loc hq hl
  · rcases List.mem_cons.1 hq with hq | hq
    · cases hq; rw [upd_eq] at hl; cases hl
    · rcases List.mem_cons.1 hq' with hq' | hq'
      · cases hq'; rw [upd_eq] at hl'; cases hl'
      · exact h2.apart e q e' q' loc loc' hq hq' hne hl hl'
  · rcases List.mem_cons.1 hq with hq | hq
    · cases hq; rw [upd_eq] at hl; cases hl
    · obtain ⟨h3, q', h4, rfl⟩ := mem_dropReg hq
      rw [hβ e h3] at hl
      exact h.regnew e q' loc h4 hl
  · obtain ⟨m1, m2, m3, m4⟩ := h.marks D hD
    refine ⟨m1, m2, m3, fun e q loc hq hl => ?_⟩
    rcases List.mem_cons.1 hq with hq | hq
    · cases hq; rw [upd_eq] at hl; cases hl
    · obtain ⟨h3, q', h4, rfl⟩ := mem_dropReg hq
      rw [hβ e h3] at hl
      exact m4 e q' loc h4 hl

/-- A nil slice in a slot is a row of no elements. -/
def St.nilOwn (i d : Nat) (T : TypeId) (sz : Nat) (s : St) : St := (s.nilReg d T sz).put (some i) (.own d 0 0)

theorem St.le_nilOwn (s : St) {i d : Nat} (T : TypeId) (sz : Nat) (hd : d < 1000 ∨ 500000 ≤ d) (hi : s.tmps[i]? = some (.p .snil)) : s.Le (s.nilOwn i d T sz) := by
  rintro Γ a w ⟨ms, hdef, β, Im, hx⟩
  have h1 := hx.nilReg hd T sz
  have hrep := hx.fit.tmps i _ hi
  have hlt := (List.getElem?_eq_some_iff.1 hi).1
  have hv : a.tmps.getD i undef = .slice none 0 0 := by generalize a.tmps.getD i undef = v at hrep; cases hrep; rfl
  have h2 : RRx (Γ.wm ms) (Env.upd β d none) Im (s.nilOwn i d T sz) (a.put (some i) (.slice none 0 0)).tmps w := h1.put (some i) (l := .own d 0 0) (.inr ⟨upd_eq, rfl, rfl, rfl⟩)
  have e : (a.put (some i) (.slice none 0 0)).tmps = a.tmps := by
    simp only [Act.put]
    have hsz : i < a.tmps.size := by rw [hx.fit.size]; exact hlt
    have : a.tmps[i] = .slice none 0 0 := by rw [← hv]; simp [Array.getD_eq_getD_getElem?, hsz]
    rw [← Array.toList_inj]
    simp only [Array.toList_setIfInBounds]
    rw [← this]
    exact List.set_getElem_self (by simpa using hsz)
  rw [e] at h2
  exact ⟨ms, hdef, _, _, h2⟩

/-- A nil slice in a variable is a row of no elements. -/
def setCell (j : Nat) (l : L) : Reg → Reg
  | .var T cs => .var T (cs.set j l)
  | r => r
def St.nilCell (b j d : Nat) (T : TypeId) (sz : Nat) (s : St) : St :=
  match findReg b (s.nilReg d T sz).regs with
  | some r => { (s.nilReg d T sz) with regs := setReg b (setCell j (.own d 0 0) r) (s.nilReg d T sz).regs }
  | none => s.nilReg d T sz

theorem St.le_nilCell (s : St) {b j d : Nat} (T : TypeId) (sz : Nat) (hd : d < 1000 ∨ 500000 ≤ d) {T' : TypeId} {cs : List L} (hb : findReg b (s.nilReg d T sz).regs = some (.var T' cs)) (hj : cs[j]? = some (.p .snil)) : s.Le (s.nilCell b j d T sz) := by
  rintro Γ a w ⟨ms, hdef, β, Im, hx⟩
  have h1 := hx.nilReg hd T sz
  have hmem := findReg_mem hb
  obtain ⟨loc, cur, g1, g2, g3, g4, g5, g6⟩ := h1.fit.regs b _ hmem
  have hreg : RegRep (Env.upd β d none) w Im b (.var T' (cs.set j (.own d 0 0))) := by
    refine ⟨loc, cur, g1, by simpa using g2, g3, g4, by simpa using g5, fun k v l hv hl => ?_⟩
    rw [List.getElem?_set] at hl
    split at hl
    · rename_i hk
      subst hk
      split at hl
      · cases hl
        obtain ⟨h3, _⟩ := g6 j v _ hv hj
        refine ⟨?_, .inl rfl⟩
        have h3' : PRep w Im v .snil := h3
        cases h3'
        exact .inr ⟨upd_eq, rfl, rfl, rfl⟩
      · cases hl
    · exact g6 k v l hv hl
  refine ⟨ms, hdef, Env.upd β d none, Im, ?_⟩
  have := h1.store hmem g1 (w' := w) rfl rfl rfl rfl (fun _ _ => rfl) hreg
  simp only [St.nilCell, hb, setCell]
  exact this

theorem St.le_freeze (s : St) {d : Nat} : s.Le (s.freeze d) := by
  rintro Γ a w ⟨ms, hdef, β, Im, hx⟩
  obtain ⟨Im', h⟩ := hx.freeze d
  exact ⟨ms, hdef, β, Im', h⟩

end Go.LX
