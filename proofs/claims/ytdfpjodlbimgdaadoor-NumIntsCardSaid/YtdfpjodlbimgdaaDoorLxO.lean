/- States that say less; names of regions changed. -/
import Derived.Test.YtdfpjodlbimgdaaDoorLxN
set_option linter.unusedSimpArgs false
set_option linter.unusedVariables false
set_option linter.unusedSectionVars false
set_option linter.unnecessarySimpa false
namespace Go.LX
open Go Go.RowKit Go.Proofs

def LLe (l l' : L) : Prop := l' = .junk ∨ l = l' ∨ (l = .p .snil ∧ l' = .p (.sl []))
def tmpsLe : List L → List L → Prop
  | [], [] => True
  | l :: r, l' :: r' => LLe l l' ∧ tmpsLe r r'
  | _, _ => False
def RegLe : Reg → Reg → Prop
  | .var T cs, .var T' cs' => T = T' ∧ tmpsLe cs cs'
  | .row T sz es, .row T' sz' es' => T = T' ∧ sz = sz' ∧ es = es'
  | _, _ => False
def regsLe (rs : Regs) : Regs → Prop
  | [] => True
  | (d, r') :: rest => (match findReg d rs with | some r => RegLe r r' | none => False) ∧ regsLe rs rest
def keysOK : Regs → Prop
  | [] => True
  | (d, _) :: rest => d ∉ rest.map (·.1) ∧ keysOK rest

theorem LLe_junk (l : L) : LLe l .junk := .inl rfl
theorem LLe_refl (l : L) : LLe l l := .inr (.inl rfl)
theorem LLe_p (x y : PV) : LLe (.p x) (.p y) ↔ (x = y ∨ (x = .snil ∧ y = .sl [])) := by
  simp [LLe]

theorem LLe.rep {β : Env} {w : World} {Im : Nat → Prop} {v : Value} {l l' : L} (h : LLe l l') (hr : LRep β w Im v l) : LRep β w Im v l' := by
  rcases h with rfl | rfl | ⟨rfl, rfl⟩
  · trivial
  · exact hr
  · cases hr; exact PRep.slNil

theorem tmpsLe_spec : ∀ {a b : List L}, tmpsLe a b → a.length = b.length ∧ ∀ (i : Nat) (l' : L), b[i]? = some l' → ∃ l, a[i]? = some l ∧ LLe l l'
  | [], [], _ => ⟨rfl, fun i l' h => by simp at h⟩
  | x :: a, y :: b, h => by
    obtain ⟨h1, h2⟩ := h
    obtain ⟨h3, h4⟩ := tmpsLe_spec h2
    refine ⟨by simp [h3], fun i l' hl => ?_⟩
    cases i with
    | zero => simp at hl; subst hl; exact ⟨x, rfl, h1⟩
    | succ i => simp at hl; simpa using h4 i l' hl
  | [], _ :: _, h => h.elim
  | _ :: _, [], h => h.elim

theorem LLe.cell {l l' : L} (h : LLe l l') (hc : l.cellOK = true ∨ l = .junk) : l'.cellOK = true ∨ l' = .junk := by
  rcases h with rfl | rfl | ⟨rfl, rfl⟩
  · exact .inr rfl
  · exact hc
  · exact .inl rfl

theorem RegLe.rep {β : Env} {w : World} {Im : Nat → Prop} {d : Nat} {r r' : Reg} (h : RegLe r r') (hr : RegRep β w Im d r) : RegRep β w Im d r' := by
  cases r <;> cases r' <;> simp only [RegLe] at h
  · obtain ⟨rfl, h⟩ := h
    obtain ⟨h1, h2⟩ := tmpsLe_spec h
    obtain ⟨loc, cur, g1, g2, g3, g4, g5, g6⟩ := hr
    refine ⟨loc, cur, g1, by rw [← h1]; exact g2, g3, g4, by rw [← h1]; exact g5, fun j v l hv hl => ?_⟩
    obtain ⟨l0, hl0, hle⟩ := h2 j l hl
    exact ⟨hle.rep (g6 j v l0 hv hl0).1, hle.cell (g6 j v l0 hv hl0).2⟩
  · obtain ⟨rfl, rfl, rfl⟩ := h
    exact hr

theorem regsLe_spec {rs : Regs} : ∀ {rs' : Regs}, regsLe rs rs' → ∀ d r', (d, r') ∈ rs' → ∃ r, (d, r) ∈ rs ∧ RegLe r r'
  | [], _, d, r', h => by cases h
  | (e, q) :: rest, h, d, r', hm => by
    obtain ⟨h1, h2⟩ := h
    rcases List.mem_cons.1 hm with hm | hm
    · cases hm
      split at h1
      · rename_i r hr; exact ⟨r, findReg_mem hr, h1⟩
      · exact h1.elim
    · exact regsLe_spec h2 d r' hm

theorem keysOK_nodup : ∀ {rs : Regs}, keysOK rs → (rs.map (·.1)).Nodup
  | [], _ => .nil
  | (d, r) :: rest, h => by simp only [List.map_cons, List.nodup_cons]; exact ⟨h.1, keysOK_nodup h.2⟩

/-- Less is said of slots and regions. -/
theorem St.le_of {s s' : St} (ht : tmpsLe s.tmps s'.tmps) (hr : regsLe s.regs s'.regs) (hk : keysOK s'.regs) : s.Le s' := by
  rintro Γ a w ⟨hdef, β, Im, hx⟩
  obtain ⟨h1, h2⟩ := tmpsLe_spec ht
  refine ⟨hdef, β, Im, { hx with fit := { size := by rw [← h1]; exact hx.fit.size, tmps := fun i l hl => ?_, regs := fun d r hd => ?_, nodup := keysOK_nodup hk, live := fun d r loc hd hl => ?_, apart := fun d r d' r' l1 l2 hd hd' hne hl hl' => ?_, im := hx.fit.im }, regnew := fun d r loc hd hl => ?_ }⟩
  · obtain ⟨l0, hl0, hle⟩ := h2 i l hl
    exact hle.rep (hx.fit.tmps i l0 hl0)
  · obtain ⟨r0, h3, h4⟩ := regsLe_spec hr d r hd
    exact h4.rep (hx.fit.regs d r0 h3)
  · obtain ⟨r0, h3, h4⟩ := regsLe_spec hr d r hd
    exact hx.fit.live d r0 loc h3 hl
  · obtain ⟨r0, h3, _⟩ := regsLe_spec hr d r hd
    obtain ⟨r1, h4, _⟩ := regsLe_spec hr d' r' hd'
    exact hx.fit.apart d r0 d' r1 l1 l2 h3 h4 hne hl hl'
  · obtain ⟨r0, h3, h4⟩ := regsLe_spec hr d r hd
    exact hx.regnew d r0 loc h3 hl

/-! ### Another name for a region -/
def L.ren (d d' : Nat) : L → L
  | .ptr e i j => if e = d then .ptr d' i j else .ptr e i j
  | .own e off len => if e = d then .own d' off len else .own e off len
  | .fn f ds => if ds.contains d = true then .junk else .fn f ds
  | l => l
def Reg.ren (d d' : Nat) : Reg → Reg
  | .var T cs => .var T (cs.map (L.ren d d'))
  | .row T sz es => .row T sz es
def renRegs (d d' : Nat) : Regs → Regs
  | [] => []
  | (e, r) :: rest => (if e = d then d' else e, r.ren d d') :: renRegs d d' rest
def St.ren (d d' : Nat) (s : St) : St := ⟨(s.forget d').tmps.map (L.ren d d'), renRegs d d' (s.forget d').regs⟩

theorem mem_renRegs {d d' e : Nat} {r : Reg} : ∀ {rs : Regs}, (e, r) ∈ renRegs d d' rs → ∃ e0 r0, (e0, r0) ∈ rs ∧ e = (if e0 = d then d' else e0) ∧ r = r0.ren d d'
  | [], h => by cases h
  | (x, q) :: rest, h => by
    simp only [renRegs] at h
    rcases List.mem_cons.1 h with h | h
    · cases h; exact ⟨x, q, List.mem_cons_self, rfl, rfl⟩
    · obtain ⟨e0, r0, h1, h2⟩ := mem_renRegs h; exact ⟨e0, r0, List.mem_cons_of_mem _ h1, h2⟩
theorem keys_renRegs {d d' : Nat} : ∀ (rs : Regs), (renRegs d d' rs).map (·.1) = (rs.map (·.1)).map fun e => if e = d then d' else e
  | [] => rfl
  | (x, q) :: rest => by simp only [renRegs, List.map_cons, keys_renRegs rest]

theorem LRep.ren {β : Env} {w : World} {Im : Nat → Prop} {d d' : Nat} {v : Value} {l : L} (hm : l.mentions d' = false) (h : LRep β w Im v l) : LRep (Env.upd β d' (β d)) w Im v (l.ren d d') := by
  have keep : ∀ {l : L}, l.mentions d' = false → LRep β w Im v l → LRep (Env.upd β d' (β d)) w Im v l := fun hm h => h.mono ⟨fun _ h => h, fun _ _ => rfl⟩ fun e he => upd_ne fun hed => by subst hed; rw [hm] at he; cases he
  cases l with
  | ptr e i j =>
    simp only [L.ren]
    split
    · rename_i he; subst he; simpa only [LRep, upd_eq] using h
    · exact keep hm h
  | own e off len =>
    simp only [L.ren]
    split
    · rename_i he; subst he; simpa only [LRep, upd_eq] using h
    · exact keep hm h
  | fn f ds => simp only [L.ren]; split; trivial; exact keep hm h
  | p x => exact keep hm h
  | eptr cs => exact keep hm h
  | tup xs => exact keep hm h
  | junk => trivial

theorem ren_cell (d d' : Nat) (l : L) (h : l.cellOK = true ∨ l = .junk) : (l.ren d d').cellOK = true ∨ l.ren d d' = .junk := by
  rcases h with h | rfl
  · cases l <;> simp only [L.ren] <;> first | exact .inl h | (split <;> first | exact .inl rfl | exact .inr rfl)
  · exact .inr rfl

theorem forget_mentions (d : Nat) (l : L) : (l.forget d).mentions d = false := by
  unfold L.forget
  split
  · rfl
  · rename_i h; simpa using h

theorem nodup_map_on {α γ : Type} {f : α → γ} : ∀ {l : List α}, (∀ x, x ∈ l → ∀ y, y ∈ l → f x = f y → x = y) → l.Nodup → (l.map f).Nodup
  | [], _, _ => .nil
  | a :: l, h, hn => by
    simp only [List.map_cons, List.nodup_cons] at hn ⊢
    refine ⟨fun hm => ?_, nodup_map_on (fun x hx y hy => h x (List.mem_cons_of_mem _ hx) y (List.mem_cons_of_mem _ hy)) hn.2⟩
    obtain ⟨b, hb, he⟩ := List.mem_map.1 hm
    have := h b (List.mem_cons_of_mem _ hb) a List.mem_cons_self he
    exact hn.1 (this ▸ hb)

theorem St.le_ren (s : St) {d d' : Nat} (hd : d < 1000) (hd' : d' < 1000) (hne : d ≠ d') : s.Le (s.ren d d') := by
  rintro Γ a w ⟨hdef, β, Im, hx⟩
  have hf := hx.fit.forget (d := d') (β' := β) (fun _ _ => rfl)
  have key : ∀ e r, (e, r) ∈ renRegs d d' (s.forget d').regs → ∃ e0 r0, (e0, r0) ∈ (s.forget d').regs ∧ e0 ≠ d' ∧ e = (if e0 = d then d' else e0) ∧ r = r0.ren d d' ∧ Env.upd β d' (β d) e = β e0 ∧ ∃ r1, (e0, r1) ∈ s.regs := by
    intro e r hm
    obtain ⟨e0, r0, h1, h2, h3⟩ := mem_renRegs hm
    obtain ⟨h4, r1, h5, _⟩ := mem_dropReg h1
    refine ⟨e0, r0, h1, h4, h2, h3, ?_, r1, h5⟩
    rw [h2]
    split
    · rename_i he; subst he; exact upd_eq
    · exact upd_ne h4
  refine ⟨hdef, Env.upd β d' (β d), Im, { hx with fit := { size := by simpa [St.ren] using hf.size, tmps := fun i l hl => ?_, regs := fun e r hm => ?_, nodup := ?_, live := fun e r loc hm hl => ?_, apart := fun e r e' r' l1 l2 hm hm' hne' hl hl' => ?_, im := hx.fit.im }, regnew := fun e r loc hm hl => ?_, fixed := fun e he => by rw [upd_ne (by omega)]; exact hx.fixed e he }⟩
  · simp only [St.ren, List.getElem?_map] at hl
    obtain ⟨l1, hl1, rfl⟩ := Option.map_eq_some_iff.1 hl
    have hl2 := hl1
    simp only [St.forget, List.getElem?_map] at hl2
    obtain ⟨l0, _, rfl⟩ := Option.map_eq_some_iff.1 hl2
    exact (hf.tmps i _ hl1).ren (forget_mentions d' l0)
  · obtain ⟨e0, r0, h1, h2, h3, rfl, hβ, _⟩ := key e r hm
    have hr := hf.regs e0 r0 h1
    obtain ⟨_, r1, _, hr1⟩ := mem_dropReg h1
    cases r0 with
    | var T cs =>
      obtain ⟨loc, cur, g1, g2, g3, g4, g5, g6⟩ := hr
      refine ⟨loc, cur, by rw [hβ]; exact g1, by simpa using g2, g3, g4, by simpa using g5, fun j v l hv hl => ?_⟩
      rw [List.getElem?_map] at hl
      obtain ⟨l1, hl1, rfl⟩ := Option.map_eq_some_iff.1 hl
      refine ⟨(g6 j v l1 hv hl1).1.ren ?_, ren_cell d d' l1 (g6 j v l1 hv hl1).2⟩
      cases r1 with
      | var T' cs' =>
        simp only [Reg.forget] at hr1
        cases hr1
        rw [List.getElem?_map] at hl1
        obtain ⟨l0, _, rfl⟩ := Option.map_eq_some_iff.1 hl1
        exact forget_mentions d' l0
      | row T' sz' es' => simp [Reg.forget] at hr1
    | row T sz es =>
      rcases hr with ⟨g1, g2⟩ | ⟨loc, cur, g1, g2⟩
      · exact .inl ⟨by rw [hβ]; exact g1, g2⟩
      · exact .inr ⟨loc, cur, by rw [hβ]; exact g1, g2⟩
  · simp only [St.ren, keys_renRegs]
    refine nodup_map_on ?_ hf.nodup
    intro x hx' y hy hxy
    have hxd : x ≠ d' := by
      obtain ⟨⟨x0, q⟩, hq, rfl⟩ := List.mem_map.1 hx'
      exact (mem_dropReg hq).1
    have hyd : y ≠ d' := by
      obtain ⟨⟨x0, q⟩, hq, rfl⟩ := List.mem_map.1 hy
      exact (mem_dropReg hq).1
    split at hxy <;> split at hxy
    · omega
    · exact absurd hxy.symm hyd
    · exact absurd hxy hxd
    · exact hxy
  · obtain ⟨e0, r0, h1, h2, h3, rfl, hβ, r1, _⟩ := key e r hm
    rw [hβ] at hl
    exact hf.live e0 r0 loc h1 hl
  · obtain ⟨e0, r0, h1, h2, h3, rfl, hβ, _⟩ := key e r hm
    obtain ⟨e1, r1, k1, k2, k3, rfl, kβ, _⟩ := key e' r' hm'
    rw [hβ] at hl
    rw [kβ] at hl'
    exact hf.apart e0 r0 e1 r1 l1 l2 h1 k1 (fun h => hne' (by rw [h3, k3, h])) hl hl'
  · obtain ⟨e0, r0, h1, h2, h3, rfl, hβ, r1, h5⟩ := key e r hm
    rw [hβ] at hl
    rcases hx.regnew e0 r1 loc h5 hl with g | ⟨g1, g2⟩
    · exact .inl g
    · refine .inr ⟨?_, g2⟩
      rw [h3, if_neg (by omega)]
      exact g1

/-- A nil slice in a slot is a row of no elements. -/
def St.nilOwn (i d : Nat) (T : TypeId) (sz : Nat) (s : St) : St := (s.newReg d (.row T sz [])).put (some i) (.own d 0 0)

theorem St.le_nilOwn (s : St) {i d : Nat} (T : TypeId) (sz : Nat) (hd : d < 1000) (hi : s.tmps[i]? = some (.p .snil)) : s.Le (s.nilOwn i d T sz) := by
  rintro Γ a w ⟨hdef, β, Im, hx⟩
  have h1 := hx.newReg hd (r := .row T sz []) (x := none) (Grow.refl hx.fit.im) (fun loc hl => by cases hl) (.inl ⟨upd_eq, rfl⟩)
  have hrep := hx.fit.tmps i _ hi
  have hlt := (List.getElem?_eq_some_iff.1 hi).1
  have hv : a.tmps.getD i undef = .slice none 0 0 := by generalize a.tmps.getD i undef = v at hrep; cases hrep; rfl
  have h2 : RRx Γ (Env.upd β d none) Im (s.nilOwn i d T sz) (a.put (some i) (.slice none 0 0)).tmps w := h1.put (some i) (l := .own d 0 0) (.inr ⟨upd_eq, rfl, rfl, rfl⟩)
  have e : (a.put (some i) (.slice none 0 0)).tmps = a.tmps := by
    simp only [Act.put]
    have hsz : i < a.tmps.size := by rw [hx.fit.size]; exact hlt
    have : a.tmps[i] = .slice none 0 0 := by rw [← hv]; simp [Array.getD_eq_getD_getElem?, hsz]
    rw [← Array.toList_inj]
    simp only [Array.toList_setIfInBounds]
    rw [← this]
    exact List.set_getElem_self (by simpa using hsz)
  rw [e] at h2
  exact ⟨hdef, _, _, h2⟩

theorem St.le_freeze (s : St) {d : Nat} (hd : d < 1000) : s.Le (s.freeze d) := by
  rintro Γ a w ⟨hdef, β, Im, hx⟩
  obtain ⟨Im', h⟩ := hx.freeze d hd
  exact ⟨hdef, β, Im', h⟩

end Go.LX
