/- Maps, as what is in them. -/
import Derived.Test.YteiencnfglbnkaaDoorLxU
set_option linter.unusedSimpArgs false
set_option linter.unusedVariables false
set_option linter.unusedSectionVars false
set_option linter.unnecessarySimpa false
namespace Go.LX
open Go

/-- Keys that can be told apart. -/
def KeyClass (K : PV → Prop) : Prop := ∀ a b, K a → K b → ∃ t, keyEq a b = some t ∧ (t = true ↔ a = b)
def isIntKey (q : IntKind) (k : PV) : Prop := ∃ n, k = .int q n
def isStrKey (k : PV) : Prop := ∃ s, k = .str s
theorem intKeys (q : IntKind) : KeyClass (isIntKey q) := by
  rintro a b ⟨x, rfl⟩ ⟨y, rfl⟩
  exact ⟨x == y, by simp [keyEq], by simp⟩
theorem strKeys : KeyClass isStrKey := by
  rintro a b ⟨x, rfl⟩ ⟨y, rfl⟩
  exact ⟨x == y, by simp [keyEq], by simp⟩
structure MapF (K : PV → Prop) (es : List (PV × PV)) : Prop where
  keys : ∀ p ∈ es, K p.1
  nodup : (es.map (·.1)).Nodup
theorem MapF.nil {K : PV → Prop} : MapF K [] := ⟨fun p h => by simp at h, by simp⟩
variable {K : PV → Prop} {es : List (PV × PV)}
theorem MapF.tail {p : PV × PV} (h : MapF K (p :: es)) : MapF K es := ⟨fun q hq => h.keys q (List.mem_cons_of_mem _ hq), (List.nodup_cons.1 h.nodup).2⟩
theorem MapF.one (h : MapF K es) {k v w : PV} (h1 : (k, v) ∈ es) (h2 : (k, w) ∈ es) : v = w := by
  induction es with
  | nil => simp at h1
  | cons p es ih =>
    have hn := List.nodup_cons.1 h.nodup
    have key : ∀ {u : PV}, (k, u) ∈ es → p.1 ≠ k := fun {u} hu e => hn.1 (by show p.1 ∈ _; rw [e]; exact List.mem_map_of_mem (f := (·.1)) hu)
    rcases List.mem_cons.1 h1 with h1 | h1
    · rcases List.mem_cons.1 h2 with h2 | h2
      · rw [← h1] at h2; exact (Prod.mk.inj h2).2.symm
      · exact absurd (by rw [← h1]) (key h2)
    · rcases List.mem_cons.1 h2 with h2 | h2
      · exact absurd (by rw [← h2]) (key h1)
      · exact ih h.tail h1 h2
theorem mfind_spec (hK : KeyClass K) {k : PV} (hk : K k) : ∀ (es : List (PV × PV)) (i : Nat), MapF K es →
    (mfind k es i = some none ∧ ∀ v, (k, v) ∉ es) ∨ ∃ j v, mfind k es i = some (some (i + j, v)) ∧ es[j]? = some (k, v)
  | [], i, _ => .inl ⟨rfl, fun v h => by simp at h⟩
  | (x, u) :: es, i, h => by
    obtain ⟨t, h1, h2⟩ := hK k x hk (h.keys (x, u) List.mem_cons_self)
    cases t with
    | true =>
      have e : k = x := h2.1 rfl
      subst e
      exact .inr ⟨0, u, by simp [mfind, h1], rfl⟩
    | false =>
      have hne : k ≠ x := fun e => by have := h2.2 e; cases this
      rcases mfind_spec hK hk es (i + 1) h.tail with ⟨g1, g2⟩ | ⟨j, v, g1, g2⟩
      · refine .inl ⟨by simp [mfind, h1, g1], fun v hv => ?_⟩
        rcases List.mem_cons.1 hv with hv | hv
        · exact hne (Prod.mk.inj hv).1
        · exact g2 v hv
      · exact .inr ⟨j + 1, v, by simp [mfind, h1, g1]; omega, by simpa using g2⟩
theorem mfind_in (hK : KeyClass K) {k v : PV} (h : MapF K es) (hv : (k, v) ∈ es) : ∃ j, mfind k es 0 = some (some (j, v)) := by
  have hk := h.keys _ hv
  rcases mfind_spec hK hk es 0 h with ⟨_, g⟩ | ⟨j, u, g1, g2⟩
  · exact absurd hv (g v)
  · have := h.one hv (List.mem_of_getElem? g2)
    subst this
    exact ⟨0 + j, g1⟩
theorem mfind_out (hK : KeyClass K) {k : PV} (hk : K k) (h : MapF K es) (hv : ∀ v, (k, v) ∉ es) : mfind k es 0 = some none := by
  rcases mfind_spec hK hk es 0 h with ⟨g, _⟩ | ⟨j, u, g1, g2⟩
  · exact g
  · exact absurd (List.mem_of_getElem? g2) (hv u)
theorem key_at (h : MapF K es) {i j : Nat} {p q : PV × PV} (hi : es[i]? = some p) (hj : es[j]? = some q) (e : p.1 = q.1) : i = j := by
  have h1 : (es.map (·.1))[i]? = some p.1 := by simp [hi]
  have h2 : (es.map (·.1))[j]? = some p.1 := by simp [hj, e]
  have hil := (List.getElem?_eq_some_iff.1 h1).1
  exact (List.getElem?_inj hil h.nodup).1 (h1.trans h2.symm)
theorem mput_spec (hK : KeyClass K) {k v : PV} (hk : K k) (h : MapF K es) :
    ∃ es', mput k v es = some es' ∧ MapF K es' ∧ (∀ k' v', (k', v') ∈ es' ↔ (k' = k ∧ v' = v) ∨ (k' ≠ k ∧ (k', v') ∈ es)) := by
  rcases mfind_spec hK hk es 0 h with ⟨g1, g2⟩ | ⟨j, u, g1, g2⟩
  · refine ⟨es ++ [(k, v)], by simp [mput, g1], ⟨fun p hp => ?_, ?_⟩, fun k' v' => ?_⟩
    · rcases List.mem_append.1 hp with hp | hp
      · exact h.keys p hp
      · simp at hp; subst hp; exact hk
    · rw [List.map_append, List.nodup_append]
      refine ⟨h.nodup, by simp, fun a ha b hb => ?_⟩
      simp at hb; subst hb
      rintro rfl
      obtain ⟨q, hq, rfl⟩ := List.mem_map.1 ha
      exact g2 q.2 hq
    · simp only [List.mem_append, List.mem_singleton, Prod.mk.injEq]
      constructor
      · rintro (hm | hm)
        · exact .inr ⟨fun e => g2 v' (e ▸ hm), hm⟩
        · exact .inl hm
      · rintro (hm | hm)
        · exact .inr hm
        · exact .inl hm.2
  · have hj := (List.getElem?_eq_some_iff.1 g2).1
    refine ⟨es.set j (k, v), by simp [mput, g1], ⟨fun p hp => ?_, ?_⟩, fun k' v' => ?_⟩
    · rcases List.mem_or_eq_of_mem_set hp with hp | rfl
      · exact h.keys p hp
      · exact hk
    · have e : (es.set j (k, v)).map (·.1) = es.map (·.1) := by
        rw [List.map_set]
        apply List.ext_getElem?
        intro i
        rw [List.getElem?_set]
        split
        · rename_i hij; subst hij
          have := (List.getElem?_eq_some_iff.1 g2).2
          simp [hj, this]
        · rfl
      rw [e]; exact h.nodup
    · constructor
      · intro hm
        obtain ⟨i, hi⟩ := List.getElem?_of_mem hm
        rw [List.getElem?_set] at hi
        split at hi
        · first
            | (have e := Option.some.inj hi; exact .inl ⟨(Prod.mk.inj e).1.symm, (Prod.mk.inj e).2.symm⟩)
            | (split at hi
               · have e := Option.some.inj hi; exact .inl ⟨(Prod.mk.inj e).1.symm, (Prod.mk.inj e).2.symm⟩
               · cases hi)
        · rename_i hij
          refine .inr ⟨fun e => hij ?_, List.mem_of_getElem? hi⟩
          exact key_at h g2 hi (by simp [e])
      · rintro (⟨rfl, rfl⟩ | ⟨hne, hm⟩)
        · exact List.mem_of_getElem? (i := j) (by simp [hj])
        · obtain ⟨i, hi⟩ := List.getElem?_of_mem hm
          refine List.mem_of_getElem? (i := i) ?_
          rw [List.getElem?_set, if_neg (fun e => ?_)]
          · exact hi
          · subst e; rw [g2] at hi; exact hne (Prod.mk.inj (Option.some.inj hi)).1.symm
theorem mdel_spec (hK : KeyClass K) {k : PV} (hk : K k) (h : MapF K es) :
    ∃ es', mdel k es = some es' ∧ MapF K es' ∧ (∀ k' v', (k', v') ∈ es' ↔ k' ≠ k ∧ (k', v') ∈ es) := by
  rcases mfind_spec hK hk es 0 h with ⟨g1, g2⟩ | ⟨j, u, g1, g2⟩
  · refine ⟨es, by simp [mdel, g1], h, fun k' v' => ⟨fun hm => ⟨fun e => g2 v' (e ▸ hm), hm⟩, fun hm => hm.2⟩⟩
  · have hs : (es.eraseIdx j).Sublist es := List.eraseIdx_sublist ..
    refine ⟨es.eraseIdx j, by simp [mdel, g1], ⟨fun p hp => h.keys p (hs.subset hp), ?_⟩, fun k' v' => ⟨fun hm => ⟨fun e => ?_, hs.subset hm⟩, fun hm => ?_⟩⟩
    · exact (hs.map _).nodup h.nodup
    · obtain ⟨i, hij, hi⟩ := List.mem_eraseIdx_iff_getElem?.1 hm
      exact hij (key_at h hi g2 (by simp [e]))
    · obtain ⟨i, hi⟩ := List.getElem?_of_mem hm.2
      refine List.mem_eraseIdx_iff_getElem?.2 ⟨i, fun e => ?_, hi⟩
      subst e; rw [g2] at hi; exact hm.1 (Prod.mk.inj (Option.some.inj hi)).1.symm
/-- How many of the first n are not seen. -/
def unseen (seen : List Nat) : Nat → Nat
  | 0 => 0
  | n + 1 => unseen seen n + (if n ∈ seen then 0 else 1)
theorem unseen_le (seen : List Nat) (i : Nat) : ∀ n, unseen (seen ++ [i]) n ≤ unseen seen n
  | 0 => Nat.le_refl _
  | n + 1 => by
    have := unseen_le seen i n
    simp only [unseen, List.mem_append, List.mem_singleton]
    by_cases h1 : n ∈ seen
    · rw [if_pos (.inl h1), if_pos h1]; omega
    · rw [if_neg h1]; split <;> omega
theorem unseen_lt {seen : List Nat} {i : Nat} (hi : i ∉ seen) : ∀ {n}, i < n → unseen (seen ++ [i]) n < unseen seen n
  | 0, h => by omega
  | n + 1, h => by
    simp only [unseen, List.mem_append, List.mem_singleton]
    by_cases h2 : n = i
    · subst h2
      have := unseen_le seen n n
      rw [if_pos (.inr rfl), if_neg hi]; omega
    · have := unseen_lt hi (n := n) (by omega)
      by_cases h1 : n ∈ seen
      · rw [if_pos (.inl h1), if_pos h1]; omega
      · rw [if_neg (fun h => h.elim h1 h2), if_neg h1]; omega
end Go.LX
/- Runes and their bytes. -/
namespace Go.LX
open Go

/-- The rune at a place of a text, and how many bytes it has. -/
def dec (s : List UInt8) (i : Nat) : Nat × Nat := Utf8.decode ⟨⟨s⟩⟩ i
def ct (s : List UInt8) (k : Nat) : Bool := decide (k < s.length) && (decide (128 ≤ at_ s k) && decide (at_ s k < 192))
/-- How many bytes the rune at a place has; 0: there is none that is valid. -/
def rlen (s : List UInt8) (i : Nat) : Nat :=
  if at_ s i < 128 then 1
  else if 194 ≤ at_ s i ∧ at_ s i < 224 ∧ ct s (i + 1) = true then 2
  else if 224 ≤ at_ s i ∧ at_ s i < 240 ∧ ct s (i + 1) = true ∧ ct s (i + 2) = true then
    (if (at_ s i = 224 ∧ at_ s (i + 1) < 160) ∨ (at_ s i = 237 ∧ 160 ≤ at_ s (i + 1)) then 0 else 3)
  else if 240 ≤ at_ s i ∧ at_ s i < 245 ∧ ct s (i + 1) = true ∧ ct s (i + 2) = true ∧ ct s (i + 3) = true then
    (if (at_ s i = 240 ∧ at_ s (i + 1) < 144) ∨ (at_ s i = 244 ∧ 144 ≤ at_ s (i + 1)) then 0 else 4)
  else 0
def code (s : List UInt8) (i : Nat) : Nat :=
  if at_ s i < 128 then at_ s i
  else if at_ s i < 224 then at_ s i % 32 * 64 + at_ s (i + 1) % 64
  else if at_ s i < 240 then at_ s i % 16 * 4096 + at_ s (i + 1) % 64 * 64 + at_ s (i + 2) % 64
  else at_ s i % 8 * 262144 + at_ s (i + 1) % 64 * 4096 + at_ s (i + 2) % 64 * 64 + at_ s (i + 3) % 64
theorem get_at (s : List UInt8) (k : Nat) : ((⟨⟨s⟩⟩ : ByteArray).get! k).toNat = at_ s k := by
  simp only [ByteArray.get!, at_, List.getD_eq_getElem?_getD]
  by_cases h : k < s.length
  · simp [h]
  · simp [h]; rfl
theorem ct_iff {s : List UInt8} {k : Nat} : ct s k = true ↔ k < s.length ∧ at_ s k / 64 = 2 := by
  simp only [ct, Bool.and_eq_true, decide_eq_true_eq]
  omega
theorem valid_iff (c : Nat) : Utf8.valid (c : Int) = true ↔ c < 55296 ∨ (57344 ≤ c ∧ c ≤ 1114111) := by
  simp only [Utf8.valid, Bool.or_eq_true, Bool.and_eq_true, decide_eq_true_eq]
  omega
theorem dec_rlen (s : List UInt8) (i : Nat) : dec s i = if rlen s i = 0 then (65533, 1) else (code s i, rlen s i) := by
  have hb := at_lt s i
  unfold dec Utf8.decode
  simp only [get_at, Nat.add_zero]
  have hsz : (⟨⟨s⟩⟩ : ByteArray).size = s.length := rfl
  simp only [hsz, Bool.and_eq_true, beq_iff_eq, decide_eq_true_eq, Utf8.runeError, valid_iff]
  unfold rlen code
  simp only [ct_iff]
  by_cases h1 : at_ s i < 128
  · simp [h1]
  by_cases h2 : at_ s i < 224
  · by_cases h2' : i + 1 < s.length ∧ at_ s (i + 1) / 64 = 2
    · have e5 : ¬ 224 ≤ at_ s i := by omega
      have e6 : ¬ 240 ≤ at_ s i := by omega
      by_cases h194 : 194 ≤ at_ s i
      · have e1 : at_ s i / 32 = 6 := by omega
        have e2 : 128 ≤ at_ s i % 32 * 64 + at_ s (i + 1) % 64 := by omega
        simp [h1, h2, h2', h194, e1, e2]
      · by_cases h192 : 192 ≤ at_ s i
        · have e1 : at_ s i / 32 = 6 := by omega
          have e2 : ¬ 128 ≤ at_ s i % 32 * 64 + at_ s (i + 1) % 64 := by omega
          simp [h1, h2, h2', h194, e1, e2, e5, e6]
        · have e1 : ¬ at_ s i / 32 = 6 := by omega
          have e3 : ¬ at_ s i / 16 = 14 := by omega
          have e4 : ¬ at_ s i / 8 = 30 := by omega
          simp [h1, h2, h2', h194, e1, e3, e4, e5, e6]
    · have e3 : ¬ at_ s i / 16 = 14 := by omega
      have e4 : ¬ at_ s i / 8 = 30 := by omega
      have e5 : ¬ 224 ≤ at_ s i := by omega
      have e6 : ¬ 240 ≤ at_ s i := by omega
      simp [h1, h2, h2', e3, e4, e5, e6]
  have e1 : ¬ at_ s i / 32 = 6 := by omega
  by_cases h3 : at_ s i < 240
  · have e3 : at_ s i / 16 = 14 := by omega
    have e4 : ¬ at_ s i / 8 = 30 := by omega
    have e5 : 224 ≤ at_ s i := by omega
    have e6 : ¬ 240 ≤ at_ s i := by omega
    by_cases c1 : i + 1 < s.length ∧ at_ s (i + 1) / 64 = 2
    · by_cases c2 : i + 2 < s.length ∧ at_ s (i + 2) / 64 = 2
      · by_cases hb2 : (at_ s i = 224 ∧ at_ s (i + 1) < 160) ∨ (at_ s i = 237 ∧ 160 ≤ at_ s (i + 1))
        · have : ¬ (2048 ≤ at_ s i % 16 * 4096 + at_ s (i + 1) % 64 * 64 + at_ s (i + 2) % 64 ∧ (at_ s i % 16 * 4096 + at_ s (i + 1) % 64 * 64 + at_ s (i + 2) % 64 < 55296 ∨ 57344 ≤ at_ s i % 16 * 4096 + at_ s (i + 1) % 64 * 64 + at_ s (i + 2) % 64 ∧ at_ s i % 16 * 4096 + at_ s (i + 1) % 64 * 64 + at_ s (i + 2) % 64 ≤ 1114111)) := by omega
          simp only [h1, h2, e1, e3, e5, h3, c1, c2, hb2, and_true, true_and, if_true, if_false, false_and, and_false, and_self, ge_iff_le, this]
        · have : (2048 ≤ at_ s i % 16 * 4096 + at_ s (i + 1) % 64 * 64 + at_ s (i + 2) % 64 ∧ (at_ s i % 16 * 4096 + at_ s (i + 1) % 64 * 64 + at_ s (i + 2) % 64 < 55296 ∨ 57344 ≤ at_ s i % 16 * 4096 + at_ s (i + 1) % 64 * 64 + at_ s (i + 2) % 64 ∧ at_ s i % 16 * 4096 + at_ s (i + 1) % 64 * 64 + at_ s (i + 2) % 64 ≤ 1114111)) := by omega
          simp only [h1, h2, e1, e3, e5, h3, c1, c2, hb2, and_true, true_and, if_true, if_false, false_and, and_false, and_self, ge_iff_le, this]
          simp
      · simp [h1, h2, e1, e3, e4, e5, e6, h3, c2]
    · simp [h1, h2, e1, e3, e4, e5, e6, h3, c1]
  · have e3 : ¬ at_ s i / 16 = 14 := by omega
    have e5 : 240 ≤ at_ s i := by omega
    by_cases h4 : at_ s i < 248
    · have e4 : at_ s i / 8 = 30 := by omega
      by_cases c1 : i + 1 < s.length ∧ at_ s (i + 1) / 64 = 2
      · by_cases c2 : i + 2 < s.length ∧ at_ s (i + 2) / 64 = 2
        · by_cases c3 : i + 3 < s.length ∧ at_ s (i + 3) / 64 = 2
          · by_cases h5 : at_ s i < 245
            · by_cases hb2 : (at_ s i = 240 ∧ at_ s (i + 1) < 144) ∨ (at_ s i = 244 ∧ 144 ≤ at_ s (i + 1))
              · have : ¬ (65536 ≤ at_ s i % 8 * 262144 + at_ s (i + 1) % 64 * 4096 + at_ s (i + 2) % 64 * 64 + at_ s (i + 3) % 64 ∧ (at_ s i % 8 * 262144 + at_ s (i + 1) % 64 * 4096 + at_ s (i + 2) % 64 * 64 + at_ s (i + 3) % 64 < 55296 ∨ 57344 ≤ at_ s i % 8 * 262144 + at_ s (i + 1) % 64 * 4096 + at_ s (i + 2) % 64 * 64 + at_ s (i + 3) % 64 ∧ at_ s i % 8 * 262144 + at_ s (i + 1) % 64 * 4096 + at_ s (i + 2) % 64 * 64 + at_ s (i + 3) % 64 ≤ 1114111)) := by omega
                simp only [h1, h2, h3, e1, e3, e4, e5, h5, c1, c2, c3, hb2, and_true, true_and, if_true, if_false, false_and, and_false, and_self, ge_iff_le, this]
              · have : (65536 ≤ at_ s i % 8 * 262144 + at_ s (i + 1) % 64 * 4096 + at_ s (i + 2) % 64 * 64 + at_ s (i + 3) % 64 ∧ (at_ s i % 8 * 262144 + at_ s (i + 1) % 64 * 4096 + at_ s (i + 2) % 64 * 64 + at_ s (i + 3) % 64 < 55296 ∨ 57344 ≤ at_ s i % 8 * 262144 + at_ s (i + 1) % 64 * 4096 + at_ s (i + 2) % 64 * 64 + at_ s (i + 3) % 64 ∧ at_ s i % 8 * 262144 + at_ s (i + 1) % 64 * 4096 + at_ s (i + 2) % 64 * 64 + at_ s (i + 3) % 64 ≤ 1114111)) := by omega
                simp only [h1, h2, h3, e1, e3, e4, e5, h5, c1, c2, c3, hb2, and_true, true_and, if_true, if_false, false_and, and_false, and_self, ge_iff_le, this]
                simp
            · have : ¬ (65536 ≤ at_ s i % 8 * 262144 + at_ s (i + 1) % 64 * 4096 + at_ s (i + 2) % 64 * 64 + at_ s (i + 3) % 64 ∧ (at_ s i % 8 * 262144 + at_ s (i + 1) % 64 * 4096 + at_ s (i + 2) % 64 * 64 + at_ s (i + 3) % 64 < 55296 ∨ 57344 ≤ at_ s i % 8 * 262144 + at_ s (i + 1) % 64 * 4096 + at_ s (i + 2) % 64 * 64 + at_ s (i + 3) % 64 ∧ at_ s i % 8 * 262144 + at_ s (i + 1) % 64 * 4096 + at_ s (i + 2) % 64 * 64 + at_ s (i + 3) % 64 ≤ 1114111)) := by omega
              simp only [h1, h2, h3, e1, e3, e4, e5, h5, c1, c2, c3, and_true, true_and, if_true, if_false, false_and, and_false, and_self, ge_iff_le, this]
          · simp [h1, h2, h3, e1, e3, e4, e5, c3]
        · simp [h1, h2, h3, e1, e3, e4, e5, c2]
      · simp [h1, h2, h3, e1, e3, e4, e5, c1]
    · have e4 : ¬ at_ s i / 8 = 30 := by omega
      have h5 : ¬ at_ s i < 245 := by omega
      simp [h1, h2, h3, e1, e3, e4, e5, h5]
end Go.LX
