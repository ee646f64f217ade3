/- Strings that are written: plain lemmas on runes, what is written of them, and what is read. -/
import Derived.Test.YteiencnfglbnkaaDoorLxQQuo
set_option linter.unusedSimpArgs false
set_option linter.unusedVariables false
set_option linter.unusedSectionVars false
set_option linter.unnecessarySimpa false
set_option linter.unusedSimpArgs false
set_option maxRecDepth 100000
set_option maxHeartbeats 2000000
namespace Go.LX
open Go Go.RowKit Go.Proofs
attribute [local irreducible] LCalls SWP lqcall

def utfs (rs : List Int) : List UInt8 := rs.flatMap utf
def wq (rs : List Int) : List UInt8 := rs.flatMap qr
def AllR (rs : List Int) : Prop := ∀ r ∈ rs, isRune r
theorem utfs_cons (r : Int) (rs : List Int) : utfs (r :: rs) = utf r ++ utfs rs := rfl
theorem wq_cons (r : Int) (rs : List Int) : wq (r :: rs) = qr r ++ wq rs := rfl
theorem utfs_app (a b : List Int) : utfs (a ++ b) = utfs a ++ utfs b := by simp [utfs]
theorem wq_app (a b : List Int) : wq (a ++ b) = wq a ++ wq b := by simp [wq]
theorem AllR.app {a b : List Int} (h1 : AllR a) (h2 : AllR b) : AllR (a ++ b) := fun r h => (List.mem_append.1 h).elim (h1 r) (h2 r)
theorem AllR.tail {r : Int} {rs : List Int} (h : AllR (r :: rs)) : AllR rs := fun x hx => h x (List.mem_cons_of_mem _ hx)
theorem AllR.head {r : Int} {rs : List Int} (h : AllR (r :: rs)) : isRune r := h r List.mem_cons_self
theorem vF_of_runes : ∀ (rs : List Int) (s : List UInt8) (f i : Nat), AllR rs → s.drop i = utfs rs → vF s f i = true
  | _, _, 0, _, _, _ => rfl
  | [], s, f + 1, i, _, h => by
    have hl := congrArg List.length h
    simp [utfs] at hl
    rw [vF, if_neg (by omega)]
  | r :: rs, s, f + 1, i, ha, h => by
    rw [utfs_cons] at h
    obtain ⟨h1, _⟩ := rlen_utf ha.head (utfs rs)
    rw [← h, rlen_drop, Nat.add_zero] at h1
    have hp := utf_pos r
    have hd : s.drop (i + rlen s i) = utfs rs := by
      rw [← List.drop_drop, h, h1, List.drop_left]
    rw [vF]
    split
    · rw [if_neg (by omega)]
      exact vF_of_runes rs s f _ ha.tail hd
    · rfl
theorem runes_of_vF : ∀ (f : Nat) (s : List UInt8) (i : Nat), s.length < i + f → vF s f i = true → ∃ rs, AllR rs ∧ s.drop i = utfs rs
  | 0, s, i, hf, _ => ⟨[], by simp [AllR], List.drop_eq_nil_of_le (by omega)⟩
  | f + 1, s, i, hf, h => by
    rw [vF] at h
    split at h
    · rename_i hlt
      split at h
      · cases h
      · rename_i hr
        obtain ⟨rs, ha, hd⟩ := runes_of_vF f s _ (by omega) h
        refine ⟨(code s i : Int) :: rs, ?_, ?_⟩
        · intro r hm
          rcases List.mem_cons.1 hm with rfl | hm
          · exact code_isRune hr
          · exact ha r hm
        · rw [utfs_cons, utf_code hr hlt, ← hd, ← List.drop_drop, List.take_append_drop]
    · exact ⟨[], by simp [AllR], List.drop_eq_nil_of_le (by omega)⟩
theorem valid_iff_runes {s : List UInt8} : valid s = true ↔ ∃ rs, AllR rs ∧ s = utfs rs :=
  ⟨fun h => by
    obtain ⟨rs, ha, hd⟩ := runes_of_vF (s.length + 1) s 0 (by omega) h
    exact ⟨rs, ha, hd⟩, fun ⟨rs, ha, e⟩ => vF_of_runes rs s _ 0 ha (by rw [List.drop_zero]; exact e)⟩
theorem valid_app {a b : List UInt8} (h1 : valid a = true) (h2 : valid b = true) : valid (a ++ b) = true := by
  obtain ⟨x, hx, rfl⟩ := valid_iff_runes.1 h1
  obtain ⟨y, hy, rfl⟩ := valid_iff_runes.1 h2
  exact valid_iff_runes.2 ⟨x ++ y, hx.app hy, (utfs_app x y).symm⟩
theorem wrs_utf {r : Int} (h : isRune r) : wrs (utf r) = qr r := by
  obtain ⟨h1, h2⟩ := rlen_utf h []
  rw [List.append_nil] at h1 h2
  have hp := utf_pos r
  have := qr_chunk (s := utf r) (i := 0) (by omega) (by omega)
  rw [h1, List.drop_zero, List.take_length, h2] at this
  exact this
theorem wrs_utfs : ∀ rs : List Int, AllR rs → wrs (utfs rs) = wq rs
  | [], _ => rfl
  | r :: rs, h => by rw [utfs_cons, wq_cons, wrs_app, wrs_utf h.head, wrs_utfs rs h.tail]
theorem qr_pos (r : Int) : 1 ≤ (qr r).length := by
  have := utf_pos r
  unfold qr
  split
  · simp
  · split
    · simp
    · exact this
theorem letR_spec (r : Int) : (letR r = none ∧ r ≠ 34 ∧ r ≠ 92) ∨ ∃ c, letR r = some c ∧ shortR c = some r.toNat ∧ 0 ≤ r ∧ c < 256 := by
  unfold letR
  by_cases c1 : r = 34
  · subst c1; exact .inr ⟨34, rfl, rfl, by decide, by decide⟩
  by_cases c2 : r = 92
  · subst c2; exact .inr ⟨92, rfl, rfl, by decide, by decide⟩
  by_cases c3 : r = 8
  · subst c3; exact .inr ⟨98, rfl, rfl, by decide, by decide⟩
  by_cases c4 : r = 12
  · subst c4; exact .inr ⟨102, rfl, rfl, by decide, by decide⟩
  by_cases c5 : r = 10
  · subst c5; exact .inr ⟨110, rfl, rfl, by decide, by decide⟩
  by_cases c6 : r = 13
  · subst c6; exact .inr ⟨114, rfl, rfl, by decide, by decide⟩
  by_cases c7 : r = 9
  · subst c7; exact .inr ⟨116, rfl, rfl, by decide, by decide⟩
  refine .inl ⟨by simp [*], c1, c2⟩
theorem tk_drop (s : List UInt8) (i : Nat) : tk (s.drop i) 0 = tk s i := by
  unfold tk
  simp only [at_drop, rlen_drop, Nat.add_zero, List.drop_zero]
theorem u4_cons {a b c d : UInt8} (t : List UInt8) : u4 (92 :: 117 :: a :: b :: c :: d :: t) = (match hexN [a, b, c, d] 0 with | some n => (n : Int) | none => -1) := by
  unfold u4
  rw [if_pos ⟨by simp, rfl, rfl⟩]
  rfl
theorem escR_two {c r : Nat} {t : List UInt8} (h : shortR c = some r) (hc : c < 256) : escR (92 :: UInt8.ofNat c :: t) = ((r : Int), 2) := by
  unfold escR
  rw [if_neg (by simp)]
  have e : at_ (92 :: UInt8.ofNat c :: t) 1 = c := by
    show (UInt8.ofNat c).toNat = c
    simp; omega
  rw [e, h]
theorem escR_six {s : List UInt8} (h2 : 2 ≤ s.length) (h1 : shortR (at_ s 1) = none) (h : (0 ≤ u4 s ∧ u4 s < 55296) ∨ 57344 ≤ u4 s) : escR s = (u4 s, 6) := by
  unfold escR
  rw [if_neg (by omega), h1]
  simp only
  rw [if_neg (by omega), if_pos (by omega)]
/-- A rune that is written is taken as it was. -/
theorem tk_qr {r : Int} (h : isRune r) (t : List UInt8) : tk (qr r ++ t) 0 = (utf r, (qr r).length) ∧ at_ (qr r ++ t) 0 ≠ 34 ∧ 32 ≤ at_ (qr r ++ t) 0 := by
  have h' := h
  unfold isRune at h'
  rcases letR_spec r with ⟨hl, n1, n2⟩ | ⟨c, hl, hs, h0, hc⟩
  · by_cases h32 : r < 32
    · have e : qr r = [92, 117, 48, 48] ++ (hex3 (r.toNat + 256)).drop 1 := by unfold qr; rw [hl]; simp only; rw [if_pos h32]
      obtain ⟨n, rfl⟩ := Int.eq_ofNat_of_zero_le (show 0 ≤ r by omega)
      have hn : n < 32 := by omega
      have key : ∀ m : Fin 32, hexN ([48, 48] ++ (hex3 (m.val + 256)).drop 1) 0 = some m.val := by decide
      have k := key ⟨n, hn⟩
      rw [show ((n : Int)).toNat = n from rfl] at e
      have eu : u4 (qr n ++ t) = n := by
        rw [e]
        show u4 (92 :: 117 :: 48 :: 48 :: hexd ((n + 256) / 16 % 16) :: hexd ((n + 256) % 16) :: t) = n
        rw [u4_cons]
        have k' : hexN [48, 48, hexd ((n + 256) / 16 % 16), hexd ((n + 256) % 16)] 0 = some n := k
        rw [k']
      have e1 : at_ (qr n ++ t) 1 = 117 := by rw [e]; rfl
      have e0 : at_ (qr n ++ t) 0 = 92 := by rw [e]; rfl
      have el : (qr n).length = 6 := by rw [e]; rfl
      refine ⟨?_, by rw [e0]; decide, by rw [e0]; decide⟩
      unfold tk
      rw [if_pos e0, List.drop_zero, escS_some (escR_six (by simp [el]; omega) (by rw [e1]; rfl) (by rw [eu]; omega)) (by decide), eu, el]
    · have e : qr r = utf r := by unfold qr; rw [hl]; simp only; rw [if_neg h32]
      obtain ⟨h1, h2⟩ := rlen_utf h t
      have hp := utf_pos r
      have hcs := code_small (s := utf r ++ t) (i := 0) (by omega)
      rw [e]
      refine ⟨?_, by omega, by omega⟩
      unfold tk
      rw [if_neg (by omega), h1, List.drop_zero, List.take_left]
  · have e : qr r = [92, UInt8.ofNat c] := by unfold qr; rw [hl]
    have e0 : at_ (qr r ++ t) 0 = 92 := by rw [e]; rfl
    have el : (qr r).length = 2 := by rw [e]; rfl
    refine ⟨?_, by rw [e0]; decide, by rw [e0]; decide⟩
    unfold tk
    rw [if_pos e0, List.drop_zero, el, e]
    rw [show [92, UInt8.ofNat c] ++ t = 92 :: UInt8.ofNat c :: t from rfl, escS_some (escR_two hs hc) (by decide), Int.toNat_of_nonneg h0]
theorem uqF_wq : ∀ (rs : List Int) (s t : List UInt8) (f i : Nat) (out : List UInt8), AllR rs → s.drop i = wq rs ++ 34 :: t → s.length < i + f → uqF s f i out = (out ++ utfs rs, i + (wq rs).length + 1, 0)
  | rs, s, t, 0, i, out, _, hd, hf => by
    have hl := congrArg List.length hd
    simp at hl
    omega
  | [], s, t, f + 1, i, out, _, hd, hf => by
    have hl := congrArg List.length hd
    simp [wq] at hl
    have e : at_ s i = 34 := by
      rw [show i = i + 0 from rfl, ← at_drop, hd]; rfl
    rw [uqF, if_pos (by omega), if_pos e]
    simp [utfs, wq]
  | r :: rs, s, t, f + 1, i, out, ha, hd, hf => by
    have hl := congrArg List.length hd
    rw [wq_cons, List.append_assoc] at hd
    simp at hl
    have hp := qr_pos r
    obtain ⟨k1, k2, k3⟩ := tk_qr ha.head (wq rs ++ 34 :: t)
    rw [← hd, tk_drop] at k1
    rw [← hd, at_drop, Nat.add_zero] at k2 k3
    have hd2 : s.drop (i + (qr r).length) = wq rs ++ 34 :: t := by rw [← List.drop_drop, hd, List.drop_left]
    have ih := uqF_wq rs s t f (i + (qr r).length) (out ++ utf r) ha.tail hd2 (by omega)
    rw [uqF, if_pos (by omega), if_neg k2, k1, if_neg (by simp only; omega)]
    simp only
    rw [ih, utfs_cons, wq_cons, List.append_assoc, List.length_append, Nat.add_assoc i]
theorem uq_wq {rs : List Int} (h : AllR rs) (t : List UInt8) : uq (34 :: wq rs ++ 34 :: t) = (utfs rs, (wq rs).length + 2, 0) := by
  have e : at_ (34 :: wq rs ++ 34 :: t) 0 = 34 := rfl
  unfold uq
  rw [if_neg (by rw [e]; simp), uqF_wq rs _ t _ 1 [] h rfl (by omega)]
  simp only [List.nil_append]
  congr 2; omega
theorem refQ_app (s t : List UInt8) : refQ s ++ t = 34 :: wrs s ++ 34 :: t := by simp [refQ]
theorem refQ_len (s : List UInt8) : (refQ s).length = (wrs s).length + 2 := by simp [refQ]
/-- What is written is read as it was, whatever stands behind it. -/
theorem uq_refQ {s : List UInt8} (h : valid s = true) (t : List UInt8) : uq (refQ s ++ t) = (s, (refQ s).length, 0) := by
  obtain ⟨rs, ha, rfl⟩ := valid_iff_runes.1 h
  rw [refQ_app, refQ_len, wrs_utfs rs ha, uq_wq ha]

/-! ### What has been read stays so when more stands behind it -/
theorem rlen_app {s : List UInt8} {i : Nat} (t : List UInt8) (h : rlen s i ≠ 0) (hi : i < s.length) : rlen (s ++ t) i = rlen s i := by
  have h1 := utf_code h hi
  have h2 := rlen_utf_len h hi
  have e : (s ++ t).drop i = utf (code s i) ++ (s.drop (i + rlen s i) ++ t) := by
    rw [List.drop_append_of_le_length (by omega), h1, ← List.append_assoc, ← List.drop_drop, List.take_append_drop]
  have h3 := (rlen_utf (code_isRune h) (s.drop (i + rlen s i) ++ t)).1
  rw [← e, rlen_drop, Nat.add_zero] at h3
  omega
theorem u4_app {s : List UInt8} (t : List UInt8) (h : 0 ≤ u4 s) : u4 (s ++ t) = u4 s := by
  have h6 := u4_six h
  unfold u4
  rw [at_app_left (by omega), at_app_left (by omega), List.drop_append_of_le_length (by omega), List.take_append_of_le_length (by simp; omega)]
  have e : (6 ≤ (s ++ t).length ∧ at_ s 0 = 92 ∧ at_ s 1 = 117) = (6 ≤ s.length ∧ at_ s 0 = 92 ∧ at_ s 1 = 117) := by
    rw [List.length_append]; apply propext; omega
  simp only [e]
theorem escR_app {s : List UInt8} (t : List UInt8) (h : (escR s).2 ≠ 0) : escR (s ++ t) = escR s := by
  by_cases h2 : s.length < 2
  · exact absurd (by unfold escR; rw [if_pos h2]) h
  unfold escR at h ⊢
  rw [if_neg h2] at h ⊢
  rw [if_neg (by rw [List.length_append]; omega), at_app_left (by omega)]
  cases hs : shortR (at_ s 1) with
  | some r => rfl
  | none =>
    rw [hs] at h
    simp only at h ⊢
    by_cases c1 : u4 s < 0 ∨ (56320 ≤ u4 s ∧ u4 s < 57344)
    · rw [if_pos c1] at h; exact absurd rfl h
    rw [if_neg c1] at h
    have hu := u4_app t (s := s) (by omega)
    by_cases c2 : u4 s < 55296 ∨ 57344 ≤ u4 s
    · rw [hu]; simp only [if_neg c1, if_pos c2]
    rw [if_neg c2] at h
    by_cases c3 : u4 (s.drop 6) < 56320 ∨ 57344 ≤ u4 (s.drop 6)
    · rw [if_pos c3] at h; exact absurd rfl h
    have hv := u4_app t (s := s.drop 6) (by omega)
    have h6 := u4_six (s := s) (by omega)
    rw [hu, List.drop_append_of_le_length h6, hv]
theorem tk_app {s : List UInt8} {i : Nat} (t : List UInt8) (h : (tk s i).2 ≠ 0) (hi : i < s.length) : tk (s ++ t) i = tk s i := by
  unfold tk at h ⊢
  rw [at_app_left hi]
  split
  · rename_i h92
    rw [if_pos h92] at h
    rw [List.drop_append_of_le_length (by omega)]
    have h2 : (escR (s.drop i)).2 ≠ 0 := fun e => h (by unfold escS; rw [if_pos e])
    unfold escS
    rw [escR_app t h2]
  · rename_i h92
    rw [if_neg h92] at h
    simp only at h
    rw [rlen_app t h hi]
    have := rlen_le s i hi
    rw [List.drop_append_of_le_length (by omega), List.take_append_of_le_length (by rw [List.length_drop]; omega)]
theorem uqF_app : ∀ (f g : Nat) (s t : List UInt8) (i : Nat) (out x : List UInt8) (n : Nat), (s ++ t).length < i + g → uqF s f i out = (x, n, 0) → uqF (s ++ t) g i out = (x, n, 0)
  | 0, g, s, t, i, out, x, n, _, h => by simp [uqF] at h
  | f + 1, 0, s, t, i, out, x, n, hg, h => by
    rw [List.length_append] at hg
    rw [uqF, if_neg (by omega)] at h
    simp at h
  | f + 1, g + 1, s, t, i, out, x, n, hg, h => by
    rw [List.length_append] at hg
    rw [uqF] at h
    by_cases hi : i < s.length
    · rw [if_pos hi] at h
      rw [uqF, if_pos (by rw [List.length_append]; omega), at_app_left hi]
      by_cases h34 : at_ s i = 34
      · rw [if_pos h34] at h ⊢; exact h
      rw [if_neg h34] at h ⊢
      by_cases hb : (tk s i).2 = 0 ∨ at_ s i < 32
      · rw [if_pos hb] at h; simp at h
      rw [if_neg hb] at h
      rw [tk_app t (by omega) hi, if_neg hb]
      exact uqF_app f g s t _ _ x n (by rw [List.length_append]; omega) h
    · rw [if_neg hi] at h; simp at h
theorem uq_app {s x : List UInt8} {n : Nat} (t : List UInt8) (h : uq s = (x, n, 0)) : uq (s ++ t) = (x, n, 0) := by
  unfold uq at h ⊢
  by_cases hc : s.length = 0 ∨ at_ s 0 ≠ 34
  · rw [if_pos hc] at h; simp at h
  rw [if_neg hc] at h
  rw [if_neg (by rw [List.length_append, at_app_left (by omega)]; omega)]
  exact uqF_app _ _ s t 1 [] x n (by omega) h
theorem uqF_ends : ∀ (f : Nat) (s : List UInt8) (i : Nat) (out : List UInt8), 1 ≤ i → ((uqF s f i out).2.2 = 0 ∧ 2 ≤ (uqF s f i out).2.1 ∧ (uqF s f i out).2.1 ≤ s.length) ∨ ((uqF s f i out).2.2 = 1 ∧ (uqF s f i out).1 = [] ∧ (uqF s f i out).2.1 ≤ s.length)
  | 0, s, i, out, _ => .inr ⟨rfl, rfl, Nat.le_refl _⟩
  | f + 1, s, i, out, h1 => by
    rw [uqF]
    split
    · split
      · exact .inl ⟨rfl, by simp only; omega, by simp only; omega⟩
      · split
        · exact .inr ⟨rfl, rfl, by simp only; omega⟩
        · exact uqF_ends f s _ _ (by omega)
    · exact .inr ⟨rfl, rfl, Nat.le_refl _⟩
theorem uq_ends (s : List UInt8) : ((uq s).2.2 = 0 ∧ 2 ≤ (uq s).2.1 ∧ (uq s).2.1 ≤ s.length) ∨ ((uq s).2.2 = 1 ∧ (uq s).1 = [] ∧ (uq s).2.1 ≤ s.length) := by
  unfold uq
  split
  · exact .inr ⟨rfl, rfl, Nat.zero_le _⟩
  · exact uqF_ends _ _ _ _ (by omega)
/-- A text that is cut before the closing mark is no string. -/
theorem uq_cut {s : List UInt8} (h : valid s = true) {m : Nat} (hm : m < (refQ s).length) : (uq ((refQ s).take m)).2.2 = 1 ∧ (uq ((refQ s).take m)).1 = [] ∧ (uq ((refQ s).take m)).2.1 ≤ ((refQ s).take m).length := by
  rcases uq_ends ((refQ s).take m) with ⟨h0, h1, h2⟩ | h1
  · exfalso
    have e : uq ((refQ s).take m) = ((uq ((refQ s).take m)).1, (uq ((refQ s).take m)).2.1, 0) := by rw [← h0]
    have e2 := uq_app ((refQ s).drop m) e
    rw [List.take_append_drop] at e2
    have e3 := uq_refQ h []
    rw [List.append_nil, e2] at e3
    have e4 : (uq ((refQ s).take m)).2.1 = (refQ s).length := congrArg (fun x => x.2.1) e3
    rw [List.length_take] at h2
    omega
  · exact h1

/-! ### What is read is a row of runes -/
theorem qr_utf {r : Int} (h : 93 ≤ r) : qr r = utf r := by
  unfold qr
  rw [letR_high h]
  simp only
  rw [if_neg (by omega)]
theorem qr_utf' {r : Int} (h : 32 ≤ r) (h1 : r ≠ 34) (h2 : r ≠ 92) : qr r = utf r := by
  rcases letR_spec r with ⟨hl, _⟩ | ⟨c, hl, _⟩
  · unfold qr
    rw [hl]
    simp only
    rw [if_neg (by omega)]
  · exfalso
    unfold letR at hl
    rw [if_neg (by omega), if_neg (by omega), if_neg (by omega), if_neg (by omega), if_neg (by omega), if_neg (by omega), if_neg (by omega)] at hl
    cases hl
theorem qr_len6 (r : Int) : (qr r).length ≤ 6 := by
  have := utf_le r
  unfold qr
  split
  · simp
  · split
    · simp [hex3]
    · omega
theorem utf_len1 {r : Int} (h0 : 0 ≤ r) (h : r < 128) : (utf r).length = 1 := by rw [utf_len, utfC_1 ⟨h0, h⟩]; rfl
theorem shortR_qr {c r : Nat} (h : shortR c = some r) : (qr r).length ≤ 2 ∧ r < 128 := by
  unfold shortR at h
  repeat' split at h
  all_goals first | (cases h; done) | (obtain rfl := Option.some.inj h; exact ⟨by decide, by decide⟩)
theorem tk_rune {s : List UInt8} {i : Nat} (hi : i < s.length) (h0 : (tk s i).2 ≠ 0) (h1 : at_ s i ≠ 34) (h2 : 32 ≤ at_ s i) : ∃ r, isRune r ∧ (tk s i).1 = utf r ∧ (utf r).length ≤ (tk s i).2 ∧ (qr r).length ≤ (tk s i).2 := by
  unfold tk at h0 ⊢
  split
  · rename_i h92
    rw [if_pos h92] at h0
    generalize s.drop i = d at *
    have e2 : (escR d).2 ≠ 0 := fun e => h0 (by unfold escS; rw [if_pos e])
    have eS : escS d = (utf (escR d).1, (escR d).2) := by unfold escS; rw [if_neg e2]
    refine ⟨(escR d).1, escR_isRune e2, by rw [eS], ?_⟩
    rw [eS]
    simp only
    have hu := utf_le (escR d).1
    have hq := qr_len6 (escR d).1
    unfold escR at e2 hu hq ⊢
    split at e2
    · exact absurd rfl e2
    rename_i hl
    rw [if_neg hl] at hu hq ⊢
    cases hs : shortR (at_ d 1) with
    | some r =>
      obtain ⟨k1, k2⟩ := shortR_qr hs
      simp only
      rw [utf_len1 (by omega) (by omega)]
      exact ⟨by decide, k1⟩
    | none =>
      rw [hs] at e2 hu hq
      simp only at e2 hu hq ⊢
      split at e2
      · exact absurd rfl e2
      rename_i c1
      rw [if_neg c1] at hu hq ⊢
      split at e2
      · rename_i c2
        rw [if_pos c2] at hu hq ⊢
        simp only at hu hq ⊢
        omega
      rename_i c2
      rw [if_neg c2] at hu hq ⊢
      split at e2
      · exact absurd rfl e2
      rename_i c3
      rw [if_neg c3] at hu hq ⊢
      simp only at hu hq ⊢
      omega
  · rename_i h92
    rw [if_neg h92] at h0
    simp only at h0 ⊢
    have hcs := code_small (s := s) (i := i) h0
    have hl := rlen_utf_len h0 hi
    refine ⟨code s i, code_isRune h0, (utf_code h0 hi).symm, by omega, ?_⟩
    rw [qr_utf' (by omega) (by omega) (by omega)]
    omega
theorem uqF_runes : ∀ (f : Nat) (s : List UInt8) (i : Nat) (rs : List Int) (x : List UInt8) (n : Nat), 1 ≤ i → AllR rs → (utfs rs).length + 1 ≤ i → (wq rs).length + 1 ≤ i → uqF s f i (utfs rs) = (x, n, 0) → ∃ ts, AllR ts ∧ x = utfs ts ∧ (utfs ts).length + 2 ≤ n ∧ (wq ts).length + 2 ≤ n
  | 0, s, i, rs, x, n, _, _, _, _, h => by simp [uqF] at h
  | f + 1, s, i, rs, x, n, h1, ha, hu, hw, h => by
    rw [uqF] at h
    split at h
    · rename_i hi
      split at h
      · simp only [Prod.mk.injEq] at h
        obtain ⟨rfl, rfl, _⟩ := h
        exact ⟨rs, ha, rfl, by omega, by omega⟩
      · rename_i h34
        split at h
        · simp at h
        · rename_i hb
          obtain ⟨r, k1, k2, k3, k4⟩ := tk_rune hi (by omega) h34 (by omega)
          rw [k2, show utfs rs ++ utf r = utfs (rs ++ [r]) by simp [utfs]] at h
          have eu : utfs (rs ++ [r]) = utfs rs ++ utf r := by simp [utfs]
          have ew : wq (rs ++ [r]) = wq rs ++ qr r := by simp [wq]
          refine uqF_runes f s _ (rs ++ [r]) x n (by omega) (ha.app fun y hy => ?_) (by rw [eu, List.length_append]; omega) (by rw [ew, List.length_append]; omega) h
          rw [List.mem_singleton.1 hy]
          exact k1
    · simp at h
/-- What is read is UTF-8, and, written again, it is no longer than it was. -/
theorem uq_runes {s x : List UInt8} {n : Nat} (h : uq s = (x, n, 0)) : valid x = true ∧ x.length + 2 ≤ n ∧ (refQ x).length ≤ n ∧ n ≤ s.length := by
  have he := uq_ends s
  rw [h] at he
  simp only at he
  unfold uq at h
  split at h
  · simp at h
  · obtain ⟨ts, ha, rfl, h1, h2⟩ := uqF_runes _ s 1 [] x n (by omega) (by simp [AllR]) (by simp [utfs]) (by simp [wq]) h
    refine ⟨valid_iff_runes.2 ⟨ts, ha, rfl⟩, h1, ?_, by omega⟩
    rw [refQ_len, wrs_utfs ts ha]
    exact h2

/-! ### The marks in what is written -/
def Marks (l : List UInt8) : Prop := ∀ i, i < l.length → 32 ≤ at_ l i ∧ (at_ l i = 34 → 1 ≤ i ∧ at_ l (i - 1) = 92)
theorem Marks.app {a b : List UInt8} (h1 : Marks a) (h2 : Marks b) : Marks (a ++ b) := by
  intro i hi
  rw [List.length_append] at hi
  by_cases h : i < a.length
  · rw [at_app_left h]
    refine ⟨(h1 i h).1, fun e => ?_⟩
    obtain ⟨k1, k2⟩ := (h1 i h).2 e
    exact ⟨k1, by rw [at_app_left (by omega)]; exact k2⟩
  · rw [at_app_right (by omega)]
    have hb := h2 (i - a.length) (by omega)
    refine ⟨hb.1, fun e => ?_⟩
    obtain ⟨k1, k2⟩ := hb.2 e
    refine ⟨by omega, ?_⟩
    rw [at_app_right (by omega), show i - 1 - a.length = i - a.length - 1 by omega]
    exact k2
def marksB (l : List UInt8) : Bool := (List.range l.length).all fun i => decide (32 ≤ at_ l i) && (!decide (at_ l i = 34) || (decide (1 ≤ i) && decide (at_ l (i - 1) = 92)))
theorem marks_of {l : List UInt8} (h : marksB l = true) : Marks l := by
  intro i hi
  unfold marksB at h
  rw [List.all_eq_true] at h
  have := h i (List.mem_range.2 hi)
  simp only [Bool.and_eq_true, Bool.or_eq_true, Bool.not_eq_true', decide_eq_false_iff_not, decide_eq_true_eq] at this
  refine ⟨this.1, fun e => ?_⟩
  rcases this.2 with k | k
  · exact absurd e k
  · exact k
theorem marks_wr (c : UInt8) : Marks (wr c.toNat) := by
  have key : ∀ m : Fin 256, marksB (wr m.val) = true := by decide
  exact marks_of (key ⟨c.toNat, c.toNat_lt⟩)
theorem marks_wrs : ∀ s : List UInt8, Marks (wrs s)
  | [] => fun i hi => by simp at hi
  | c :: s => (marks_wr c).app (marks_wrs s)

/-! ### A code, written in figures of sixteen -/
def figs (great : Bool) : List UInt8 := if great then [48, 49, 50, 51, 52, 53, 54, 55, 56, 57, 65, 66, 67, 68, 69, 70] else [48, 49, 50, 51, 52, 53, 54, 55, 56, 57, 97, 98, 99, 100, 101, 102]
def fig (great : Bool) (d : Nat) : UInt8 := (figs great).getD d 0
theorem hexv_fig (great : Bool) (d : Nat) (h : d < 16) : hexv (fig great d).toNat = some d := by
  have key : ∀ (b : Bool) (m : Fin 16), hexv (fig b m.val).toNat = some m.val := by decide
  exact key great ⟨d, h⟩
def codeS (n : Nat) (great : Bool) : List UInt8 := [92, 117, fig great (n / 4096 % 16), fig great (n / 256 % 16), fig great (n / 16 % 16), fig great (n % 16)]
theorem u4_code (n : Nat) (great : Bool) (t : List UInt8) (h : n < 65536) : u4 (codeS n great ++ t) = n := by
  show u4 (92 :: 117 :: _ :: _ :: _ :: _ :: t) = n
  rw [u4_cons]
  simp only [hexN, hexv_fig great _ (Nat.mod_lt _ (by decide : 0 < 16))]
  have e : (((0 * 16 + n / 4096 % 16) * 16 + n / 256 % 16) * 16 + n / 16 % 16) * 16 + n % 16 = n := by omega
  rw [e]
theorem at_code (n : Nat) (great : Bool) (t : List UInt8) : at_ (codeS n great ++ t) 0 = 92 ∧ at_ (codeS n great ++ t) 1 = 117 ∧ 2 ≤ (codeS n great ++ t).length := ⟨rfl, rfl, by simp [codeS]⟩
theorem uq_one {s : List UInt8} (h : (tk s 1).2 ≠ 0) (h0 : at_ s 0 = 34) (h1 : at_ s 1 = 92) (hl : 1 + (tk s 1).2 < s.length) (h2 : at_ s (1 + (tk s 1).2) = 34) : uq s = ((tk s 1).1, 2 + (tk s 1).2, 0) := by
  unfold uq
  rw [if_neg (by omega)]
  obtain ⟨m, hm⟩ : ∃ m, s.length = m + 2 := ⟨s.length - 2, by omega⟩
  rw [hm, uqF, if_pos (by omega), if_neg (by omega), if_neg (by omega), uqF, if_pos hl, if_pos h2, List.nil_append]
  congr 2; omega
theorem uq_bad {s : List UInt8} (h : (tk s 1).2 = 0) (h0 : at_ s 0 = 34) (h1 : at_ s 1 = 92) (hl : 1 < s.length) : uq s = ([], 1, 1) := by
  unfold uq
  rw [if_neg (by omega), uqF, if_pos hl, if_neg (by omega), if_pos (.inl h)]
theorem tk_code {n : Nat} {great : Bool} {t : List UInt8} : tk (34 :: (codeS n great ++ t)) 1 = escS (codeS n great ++ t) := by
  unfold tk
  rw [if_pos (show at_ (34 :: (codeS n great ++ t)) 1 = 92 from rfl)]
  rfl
theorem uq_code {n : Nat} {great : Bool} (h : n < 55296 ∨ (57344 ≤ n ∧ n < 65536)) : uq (34 :: (codeS n great ++ [34])) = (utf n, 8, 0) := by
  have hu := u4_code n great [34] (by omega)
  have e : tk (34 :: (codeS n great ++ [34])) 1 = (utf n, 6) := by
    rw [tk_code, escS_some (escR_six (at_code n great [34]).2.2 (by rw [(at_code n great [34]).2.1]; rfl) (by omega)) (by decide), hu]
  rw [uq_one (by rw [e]; simp) rfl rfl (by rw [e]; simp [codeS]) (by rw [e]; rfl), e]
  rfl
theorem uq_half {n : Nat} {great : Bool} (h : 55296 ≤ n ∧ n < 57344) : uq (34 :: (codeS n great ++ [34])) = ([], 1, 1) := by
  have hu := u4_code n great [34] (by omega)
  have e : escR (codeS n great ++ [34]) = (0, 0) := by
    unfold escR
    rw [if_neg (by have := (at_code n great [34]).2.2; omega), (at_code n great [34]).2.1, show shortR 117 = none from rfl]
    simp only
    by_cases c : 56320 ≤ n
    · rw [if_pos (by omega)]
    · rw [if_neg (by omega), if_neg (by omega), show (codeS n great ++ ([34] : List UInt8)).drop 6 = [34] from rfl, show u4 [34] = -1 from rfl, if_pos (by decide)]
  exact uq_bad (by rw [tk_code, escS_none e]) rfl rfl (by simp [codeS])
theorem uq_pair {n : Nat} {great : Bool} (h : 65536 ≤ n ∧ n ≤ 1114111) : uq (34 :: (codeS (55296 + (n - 65536) / 1024) great ++ (codeS (56320 + (n - 65536) % 1024) great ++ [34]))) = (utf n, 14, 0) := by
  have hu := u4_code (55296 + (n - 65536) / 1024) great (codeS (56320 + (n - 65536) % 1024) great ++ [34]) (by omega)
  have hv := u4_code (56320 + (n - 65536) % 1024) great [34] (by omega)
  have hd : (codeS (55296 + (n - 65536) / 1024) great ++ (codeS (56320 + (n - 65536) % 1024) great ++ [34])).drop 6 = codeS (56320 + (n - 65536) % 1024) great ++ [34] := rfl
  have hc := at_code (55296 + (n - 65536) / 1024) great (codeS (56320 + (n - 65536) % 1024) great ++ [34])
  have e : escR (codeS (55296 + (n - 65536) / 1024) great ++ (codeS (56320 + (n - 65536) % 1024) great ++ [34])) = ((n : Int), 12) := by
    unfold escR
    rw [if_neg (by omega), hc.2.1, show shortR 117 = none from rfl]
    simp only
    rw [hd, hu, hv, if_neg (by omega), if_neg (by omega), if_neg (by omega)]
    congr 1
    omega
  have e2 : tk (34 :: (codeS (55296 + (n - 65536) / 1024) great ++ (codeS (56320 + (n - 65536) % 1024) great ++ [34]))) 1 = (utf n, 12) := by
    rw [tk_code, escS_some e (by decide)]
  rw [uq_one (by rw [e2]; simp) rfl rfl (by rw [e2]; simp [codeS]) (by rw [e2]; rfl), e2]
  rfl
end Go.LX
