/- Figures without noughts: plain lemmas. -/
import Derived.Test.YtdfpjodlbimgdaaDoorLxV
import Derived.Shelf.Strings.FuncGrows
import Derived.Lib.TrimUEq
import Derived.Lib.TrimAscii
import Derived.Lib.ItoaNum
import Derived.Lib.Repeat
import Derived.Lib.Bytealg
import Derived.Lib.AtoiAllCases
set_option linter.unusedSimpArgs false
set_option linter.unusedVariables false
set_option linter.unusedSectionVars false
set_option linter.unnecessarySimpa false
namespace Go.LX

def stripL (s : List UInt8) : List UInt8 := s.dropWhile (· == 48)
def stripR (s : List UInt8) : List UInt8 := (s.reverse.dropWhile (· == 48)).reverse

theorem toNat_48 {c : UInt8} : c.toNat = 48 ↔ c = 48 := by
  constructor
  · intro h; exact UInt8.toNat_inj.1 (by simpa using h)
  · intro h; subst h; rfl
theorem at_cons (c : UInt8) (l : List UInt8) : at_ (c :: l) 0 = c.toNat := by simp [at_]
theorem at_last (l : List UInt8) (c : UInt8) : at_ (l ++ [c]) l.length = c.toNat := by simp [at_, List.getD_eq_getElem?_getD]

theorem stripL_nil : stripL [] = [] := rfl
theorem stripL_step {u : List UInt8} (h0 : 0 < u.length) (h : at_ u 0 = 48) : stripL (u.drop 1) = stripL u := by
  cases u with
  | nil => simp at h0
  | cons c l =>
    rw [at_cons, toNat_48] at h
    subst h
    simp [stripL]
theorem stripL_stop {u : List UInt8} (h : at_ u 0 ≠ 48) : stripL u = u := by
  cases u with
  | nil => rfl
  | cons c l =>
    rw [at_cons] at h
    have : c ≠ 48 := fun hc => h (toNat_48.2 hc)
    simp [stripL, List.dropWhile_cons, this]
theorem stripL_zero {u : List UInt8} (h : u.length = 0) : stripL u = u := by
  cases u with
  | nil => rfl
  | cons c l => simp at h
theorem stripL_len (u : List UInt8) : (stripL u).length ≤ u.length := by
  exact (List.dropWhile_sublist _).length_le
theorem stripL_head (u : List UInt8) (h : 0 < (stripL u).length) : at_ (stripL u) 0 ≠ 48 := by
  induction u with
  | nil => simp [stripL] at h
  | cons c l ih =>
    by_cases hc : c = 48
    · subst hc
      have : stripL (48 :: l) = stripL l := by simp [stripL]
      rw [this] at h ⊢
      exact ih h
    · have : stripL (c :: l) = c :: l := by simp [stripL, List.dropWhile_cons, hc]
      rw [this, at_cons]
      exact fun hh => hc (toNat_48.1 hh)

theorem snoc_of {u : List UInt8} (h : 0 < u.length) : ∃ l c, u = l ++ [c] := by
  have hne : u ≠ [] := by intro hu; subst hu; simp at h
  exact ⟨u.dropLast, u.getLast hne, (List.dropLast_concat_getLast hne).symm⟩
theorem stripR_snoc (l : List UInt8) (c : UInt8) : stripR (l ++ [c]) = if c = 48 then stripR l else l ++ [c] := by
  simp only [stripR, List.reverse_append, List.reverse_cons, List.reverse_nil, List.nil_append, List.cons_append, List.dropWhile_cons]
  by_cases h : c = 48
  · simp [h]
  · simp [h]
theorem stripR_step {u : List UInt8} (h0 : 0 < u.length) (h : at_ u (u.length - 1) = 48) : stripR (u.take (u.length - 1)) = stripR u := by
  obtain ⟨l, c, rfl⟩ := snoc_of h0
  have e : (l ++ [c]).length - 1 = l.length := by simp
  rw [e] at h ⊢
  rw [at_last, toNat_48] at h
  rw [stripR_snoc, if_pos h]
  simp
theorem stripR_stop {u : List UInt8} (h0 : 0 < u.length) (h : at_ u (u.length - 1) ≠ 48) : stripR u = u := by
  obtain ⟨l, c, rfl⟩ := snoc_of h0
  have e : (l ++ [c]).length - 1 = l.length := by simp
  rw [e, at_last] at h
  rw [stripR_snoc, if_neg (fun hc => h (toNat_48.2 hc))]
theorem stripR_len (u : List UInt8) : (stripR u).length ≤ u.length := by
  have := (List.dropWhile_sublist (l := u.reverse) (fun x => x == 48)).length_le
  simpa [stripR] using this
theorem at_take {u : List UInt8} {n i : Nat} (h : i < n) : at_ (u.take n) i = at_ u i := by
  simp [at_, List.getD_eq_getElem?_getD, List.getElem?_take, h]
theorem at_drop {u : List UInt8} {n i : Nat} : at_ (u.drop n) i = at_ u (n + i) := by
  simp [at_, List.getD_eq_getElem?_getD, List.getElem?_drop]
/-- What does not begin with a nought does not vanish. -/
theorem stripR_pos : ∀ (n : Nat) (u : List UInt8), u.length = n → 0 < u.length → at_ u 0 ≠ 48 → 0 < (stripR u).length
  | 0, u, hn, h0, _ => by omega
  | n + 1, u, hn, h0, h => by
    by_cases hl : at_ u (u.length - 1) = 48
    · have hn0 : 1 < u.length := by
        by_cases h1 : u.length = 1
        · rw [h1] at hl; exact absurd hl h
        · omega
      rw [← stripR_step h0 hl]
      exact stripR_pos n _ (by simp; omega) (by simp; omega) (by rw [at_take (by omega)]; exact h)
    · rw [stripR_stop h0 hl]; exact h0

theorem trim_eq {s : List UInt8} (h0 : 0 < s.length) : stripL (stripR s) = s ↔ at_ s 0 ≠ 48 ∧ at_ s (s.length - 1) ≠ 48 := by
  constructor
  · intro h
    have hl : at_ s (s.length - 1) ≠ 48 := by
      intro hc
      have h1 := stripL_len (stripR s)
      rw [h, ← stripR_step h0 hc] at h1
      have h2 := stripR_len (s.take (s.length - 1))
      simp only [List.length_take] at h2
      omega
    rw [stripR_stop h0 hl] at h
    have := stripL_head s (by rw [h]; exact h0)
    rw [h] at this
    exact ⟨this, hl⟩
  · rintro ⟨h1, h2⟩
    rw [stripR_stop h0 h2, stripL_stop h1]

end Go.LX
/- Where strings.TrimFunc leaves nothing of a text: where all are figures. -/
namespace Go.LX
open Go Go.RowKit Go.Proofs Go.Lib

def isFig (c : UInt8) : Bool := decide (48 ≤ c.toNat) && decide (c.toNat ≤ 57)
def figures (s : List UInt8) : Bool := s.all isFig
def figR (r : Nat) : Bool := decide (48 ≤ r) && decide (r ≤ 57)

theorem decodeN_hi {n b0 b1 b2 b3 : Nat} (h : 128 ≤ b0) : 128 ≤ (decodeN n b0 b1 b2 b3).1 := by
  unfold decodeN
  repeat' split
  all_goals first | omega | (simp_all; done) | (simp_all; omega)

theorem figR_decode {s : ByteArray} {pos : Nat} (h : figR (Utf8.decode s pos).1 = true) : figR (s.data.toList.getD pos 0).toNat = true ∧ (Utf8.decode s pos).2 = 1 := by
  rw [decode_N] at h ⊢
  by_cases hb : (s.data.toList.getD pos 0).toNat < 128
  · rw [decodeN_ascii _ _ _ _ _ hb] at h ⊢
    exact ⟨h, rfl⟩
  · have := decodeN_hi (n := s.data.toList.length - pos) (b1 := (s.data.toList.getD (pos + 1) 0).toNat) (b2 := (s.data.toList.getD (pos + 2) 0).toNat) (b3 := (s.data.toList.getD (pos + 3) 0).toNat) (by omega : 128 ≤ (s.data.toList.getD pos 0).toNat)
    simp only [figR, Bool.and_eq_true, decide_eq_true_eq] at h
    omega
theorem decode_fig {s : ByteArray} {pos : Nat} (h : figR (s.data.toList.getD pos 0).toNat = true) : Utf8.decode s pos = ((s.data.toList.getD pos 0).toNat, 1) := by
  rw [decode_N, decodeN_ascii]
  simp only [figR, Bool.and_eq_true, decide_eq_true_eq] at h
  omega

theorem idx_none {s : ByteArray} : ∀ (f pos : Nat), s.size ≤ pos + f → idxFuncFrom figR false s f pos = -1 → ∀ j, pos ≤ j → j < s.size → figR (s.data.toList.getD j 0).toNat = true
  | 0, pos, hf, _, j, h1, h2 => by omega
  | f + 1, pos, hf, h, j, h1, h2 => by
    unfold idxFuncFrom at h
    rw [if_pos (by omega)] at h
    split at h
    · omega
    · rename_i hp
      have hp' : figR (Utf8.decode s pos).1 = true := by simpa using hp
      obtain ⟨g1, g2⟩ := figR_decode hp'
      by_cases hj : j = pos
      · subst hj; exact g1
      · rw [g2] at h
        exact idx_none f (pos + 1) (by omega) h j (by omega) h2
theorem idx_some {s : ByteArray} : ∀ (f pos k : Nat), idxFuncFrom figR false s f pos = (k : Int) → k < s.size ∧ figR (s.data.toList.getD k 0).toNat = false
  | 0, pos, k, h => by simp [idxFuncFrom] at h
  | f + 1, pos, k, h => by
    unfold idxFuncFrom at h
    split at h
    · rename_i hlt
      split at h
      · rename_i hp
        have hk : pos = k := by omega
        subst hk
        refine ⟨hlt, ?_⟩
        cases hb : figR (s.data.toList.getD pos 0).toNat with
        | false => rfl
        | true =>
          rw [decode_fig hb] at hp
          simp only at hp
          rw [hb] at hp
          cases hp
      · exact idx_some f _ k h
    · omega

theorem decodeLast_fig {l : List UInt8} (hl : l ≠ []) (h : figR (decodeLastL l).1 = true) : figR (l.getD (l.length - 1) 0).toNat = true ∧ (decodeLastL l).2 = 1 := by
  unfold decodeLastL at h ⊢
  rw [if_neg hl] at h ⊢
  split
  · rename_i hb
    rw [if_pos hb] at h
    exact ⟨h, rfl⟩
  · rename_i hb
    rw [if_neg hb] at h
    simp only at h
    split at h
    · rename_i hd
      exfalso
      have hlen : 0 < l.length := List.length_pos_iff.2 hl
      have hfig : (decodeL (l.drop (lastStart l))).1 < 128 := by simp [figR] at h; omega
      generalize hq : l.drop (lastStart l) = q at hfig hd
      cases q with
      | nil =>
        have := congrArg List.length hq
        simp only [List.length_drop, List.length_nil] at this
        rw [show (decodeL []).2 = 1 from by decide] at hd
        omega
      | cons c r =>
        have hc : c.toNat < 128 := by
          by_cases hc : c.toNat < 128
          · exact hc
          · exfalso
            simp only [decodeL] at hfig
            rw [decode_N] at hfig
            simp only [List.getD_cons_zero] at hfig
            have := fun n b1 b2 b3 => decodeN_hi (n := n) (b1 := b1) (b2 := b2) (b3 := b3) (by omega : 128 ≤ c.toNat)
            exact absurd hfig (Nat.not_lt.2 (this _ _ _ _))
        rw [decodeL_ascii c r hc] at hd
        simp only at hd
        have hlr : r = [] := by
          have := congrArg List.length hq
          simp at this
          exact List.eq_nil_of_length_eq_zero (by omega)
        subst hlr
        have e : l.getD (l.length - 1) 0 = c := by
          have h1 : l[lastStart l]? = some c := by
            have := congrArg (fun x => x[0]?) hq
            simpa using this
          have h2 : l.length - 1 = lastStart l := by omega
          rw [h2]; simp [List.getD_eq_getElem?_getD, h1]
        rw [e] at hb
        exact hb hc
    · exfalso; simp [figR, Utf8.runeError] at h

theorem last_none {s : ByteArray} : ∀ (f i : Nat), i ≤ f → i ≤ s.size → lastIdxFuncFrom figR false s f i = -1 → ∀ j, j < i → figR (s.data.toList.getD j 0).toNat = true
  | 0, i, hf, _, h, j, hj => by omega
  | f + 1, i, hf, hs, h, j, hj => by
    unfold lastIdxFuncFrom at h
    rw [if_pos (by omega)] at h
    split at h
    · omega
    · rename_i hp
      have hsz : s.data.toList.length = s.size := by simp
      have hl : (s.data.toList.take i).length = i := by rw [List.length_take]; omega
      have hp' : figR (decodeLastL (s.data.toList.take i)).1 = true := by simpa using hp
      obtain ⟨g1, g2⟩ := decodeLast_fig (by intro hn; rw [hn] at hl; simp at hl; omega) hp'
      rw [hl] at g1
      rw [g2] at h
      by_cases hji : j = i - 1
      · subst hji
        have : (s.data.toList.take i).getD (i - 1) 0 = s.data.toList.getD (i - 1) 0 := by
          simp [List.getD_eq_getElem?_getD, List.getElem?_take, show i - 1 < i by omega]
        rw [← this]; exact g1
      · exact last_none f (i - 1) (by omega) (by omega) h j (by omega)

theorem figures_iff {l : List UInt8} : figures l = true ↔ ∀ j, j < l.length → figR (l.getD j 0).toNat = true := by
  simp only [figures, List.all_eq_true]
  constructor
  · intro h j hj
    have := h l[j] (List.getElem_mem hj)
    simpa [List.getD_eq_getElem?_getD, hj, figR, isFig] using this
  · intro h x hx
    obtain ⟨j, hj, rfl⟩ := List.getElem_of_mem hx
    simpa [List.getD_eq_getElem?_getD, hj, figR, isFig] using h j hj

theorem size_list (s : ByteArray) : s.data.toList.length = s.size := by simp

theorem trimF_figures (s : ByteArray) : ((trimF figR s).data.toList == []) = figures s.data.toList := by
  unfold trimF
  by_cases hk : idxFunc figR false s = -1
  · have h1 : figures s.data.toList = true := by
      rw [figures_iff]
      intro j hj
      rw [size_list] at hj
      exact idx_none s.size 0 (by omega) hk j (Nat.zero_le _) hj
    rw [h1]
    unfold trimLeftF
    rw [if_pos hk]
    unfold trimRightF
    simp [ByteArray.data_extract]
  · obtain ⟨k, hk2⟩ : ∃ k : Nat, idxFunc figR false s = k := by
      rcases idxFunc_range figR false s with h | ⟨h, _⟩
      · exact absurd h hk
      · exact ⟨_, (Int.toNat_of_nonneg h).symm⟩
    obtain ⟨h1, h2⟩ := idx_some _ _ _ hk2
    have h3 : figures s.data.toList = false := by
      cases hf : figures s.data.toList with
      | false => rfl
      | true =>
        rw [figures_iff] at hf
        rw [hf k (by rw [size_list]; exact h1)] at h2
        cases h2
    rw [h3]
    have ht : trimLeftF figR s = s.extract k s.size := by
      unfold trimLeftF
      rw [if_neg hk, hk2]
      simp
    rw [ht]
    generalize hte : s.extract k s.size = t
    have htl : t.data.toList = s.data.toList.drop k := by
      rw [← hte]
      simp [ByteArray.data_extract, Array.toList_extract]
      rw [List.take_of_length_le (by simp)]
    have hts : t.size = s.size - k := by rw [← size_list, htl, List.length_drop, size_list]
    have h0 : figR (t.data.toList.getD 0 0).toNat = false := by
      rw [htl]
      simpa [List.getD_eq_getElem?_getD, List.getElem?_drop] using h2
    have hlast : 0 ≤ lastIdxFunc figR false t := by
      rcases lastIdxFuncFrom_range figR false t t.size t.size with h | ⟨h, _⟩
      · have := last_none t.size t.size (Nat.le_refl _) (Nat.le_refl _) h 0 (by omega)
        rw [h0] at this; cases this
      · exact h
    have hpos : 1 ≤ rightEndF figR t := by
      unfold rightEndF
      rw [if_pos hlast]
      unfold decodeGoB
      by_cases hz : (lastIdxFunc figR false t).toNat = 0
      · rw [hz]
        have hsz : (t.extract 0 t.size).size = t.size := by simp
        rw [if_neg (by rw [hsz]; omega)]
        have := decodeN_ge1
        rw [decode_N]
        have := this ((t.extract 0 t.size).data.toList.length - 0) ((t.extract 0 t.size).data.toList.getD 0 0).toNat ((t.extract 0 t.size).data.toList.getD (0 + 1) 0).toNat ((t.extract 0 t.size).data.toList.getD (0 + 2) 0).toNat ((t.extract 0 t.size).data.toList.getD (0 + 3) 0).toNat
        omega
      · omega
    have : (trimRightF figR t).data.toList ≠ [] := by
      intro hn
      unfold trimRightF at hn
      have e : (t.extract 0 (rightEndF figR t)).data.toList = t.data.toList.take (rightEndF figR t) := by simp [ByteArray.data_extract, Array.toList_extract]
      rw [e] at hn
      have hl := congrArg List.length hn
      rw [List.length_take, size_list] at hl
      simp only [List.length_nil] at hl
      omega
    simpa using this

end Go.LX
/- Where figures go on to: plain lemmas. -/
namespace Go.LX

/-- the place behind the figures from a place on. -/
def runTo (s : List UInt8) (i : Nat) : Nat := i + ((s.drop i).takeWhile isFig).length

theorem isFig_at {s : List UInt8} {i : Nat} (h : i < s.length) : isFig s[i] = (decide (48 ≤ at_ s i) && decide (at_ s i ≤ 57)) := by
  rw [at_get h]; rfl
theorem runTo_step {s : List UInt8} {i : Nat} (h : i < s.length) (h1 : 48 ≤ at_ s i) (h2 : at_ s i ≤ 57) : runTo s i = runTo s (i + 1) := by
  unfold runTo
  rw [List.drop_eq_getElem_cons h, List.takeWhile_cons_of_pos (by rw [isFig_at h]; simp [h1, h2])]
  simp
  omega
theorem runTo_stop {s : List UInt8} {i : Nat} (h : i < s.length) (h1 : at_ s i < 48 ∨ 57 < at_ s i) : runTo s i = i := by
  unfold runTo
  rw [List.drop_eq_getElem_cons h, List.takeWhile_cons_of_neg (by rw [isFig_at h]; simp; omega)]
  rfl
theorem runTo_end {s : List UInt8} {i : Nat} (h : s.length ≤ i) : runTo s i = i := by
  unfold runTo
  rw [List.drop_eq_nil_of_le h]
  rfl
theorem runTo_ge (s : List UInt8) (i : Nat) : i ≤ runTo s i := Nat.le_add_right _ _
theorem runTo_le {s : List UInt8} {i : Nat} (h : i ≤ s.length) : runTo s i ≤ s.length := by
  unfold runTo
  have := (List.takeWhile_sublist (l := s.drop i) isFig).length_le
  simp at this
  omega
/-! Numbers that are no less than 0, as such. -/
theorem nc_eq {a n : Nat} : ((a : Int) = @OfNat.ofNat Int n (@instOfNat n)) = (a = @OfNat.ofNat Nat n (instOfNatNat n)) := propext ⟨fun h => Int.ofNat.inj h, fun h => congrArg Int.ofNat h⟩
theorem nc_lt {a n : Nat} : ((a : Int) < @OfNat.ofNat Int n (@instOfNat n)) = (a < @OfNat.ofNat Nat n (instOfNatNat n)) := propext Int.ofNat_lt
theorem nc_le {a n : Nat} : ((a : Int) ≤ @OfNat.ofNat Int n (@instOfNat n)) = (a ≤ @OfNat.ofNat Nat n (instOfNatNat n)) := propext Int.ofNat_le
theorem lt_nc {a n : Nat} : (@OfNat.ofNat Int n (@instOfNat n) < (a : Int)) = (@OfNat.ofNat Nat n (instOfNatNat n) < a) := propext Int.ofNat_lt
theorem le_nc {a n : Nat} : (@OfNat.ofNat Int n (@instOfNat n) ≤ (a : Int)) = (@OfNat.ofNat Nat n (instOfNatNat n) ≤ a) := propext Int.ofNat_le
theorem cc_eq {a b : Nat} : ((a : Int) = b) = (a = b) := propext ⟨fun h => Int.ofNat.inj h, fun h => congrArg Int.ofNat h⟩
theorem cc_lt {a b : Nat} : ((a : Int) < b) = (a < b) := propext Int.ofNat_lt
theorem cc_le {a b : Nat} : ((a : Int) ≤ b) = (a ≤ b) := propext Int.ofNat_le

end Go.LX
/- Numbers: what the functions compute, in plain words. -/
namespace Go.LX
open Go Go.Proofs

structure Node where
  kind : Int
  many : Int
  name : List UInt8
  s : List UInt8
  neg : Bool
  e : Int
  deriving DecidableEq

def Node.pv (n : Node) : List PV := [.int .i64 n.kind, .int .i64 n.many, .str n.name, .str n.s, .bool n.neg, .int .i64 n.e]
theorem pv_eq (n : Node) : n.pv = [.int .i64 n.kind, .int .i64 n.many, .str n.name, .str n.s, .bool n.neg, .int .i64 n.e] := (rfl)

def isPower (many e : Int) : Bool := decide (-1000 ≤ e) && decide (e ≤ 1000) && decide (many + e ≤ 1000)
theorem isPower_f {m e : Int} : isPower m e = false ↔ e < -1000 ∨ 1000 < e ∨ 1000 < m + e := by
  simp only [isPower]
  by_cases h1 : -1000 ≤ e <;> by_cases h2 : e ≤ 1000 <;> by_cases h3 : m + e ≤ 1000 <;> simp [h1, h2, h3] <;> omega

def numRight (n : Node) : Bool :=
  if ¬ n.kind = 3 then false else if ¬ n.many = 0 then false else if ¬ n.name.length = 0 then false else if figures n.s = false then false else if 100 < (n.s.length : Int) then false else
  if n.e < -1000 then false else if 1000 < n.e then false else if 1000 < (n.s.length : Int) + n.e then false else
  if n.s.length = 0 then (if n.neg = false then n.e == 0 else false) else (if ¬ (at_ n.s 0 : Int) = 48 then ((at_ n.s (n.s.length - 1) : Int) != 48) else false)

def cmpI (a b : Int) : Int := if a < b then -1 else if b < a then 1 else 0
def cmpS (a b : List UInt8) : Int := if Op.bytesLess a b = true then -1 else if (Op.bytesLess a b || a == b) = false then 1 else 0

def node0 : Node := ⟨0, 0, [], [], false, 0⟩
/-- A number of figures and a power: the number, and the error. -/
def make (neg : Bool) (s : List UInt8) (e : Int) : Node × Int :=
  if figures s = false then (node0, 4) else
  if (stripL s).length = 0 then ({ node0 with kind := 3 }, 0) else
  if e < -100000000 then (node0, 2) else if 100000000 < e then (node0, 2) else
  let t := stripR (stripL s)
  let e' := e + ((stripL s).length - t.length)
  if 100 < (t.length : Int) then (node0, 2) else if e' < -1000 then (node0, 2) else if 1000 < (t.length : Int) + e' then (node0, 2) else
  ({ node0 with kind := 3, s := t, neg := neg, e := e' }, 0)

def numSize (a b : Node) : Int :=
  if a.s.length = 0 then cmpI a.s.length b.s.length else if b.s.length = 0 then cmpI a.s.length b.s.length else
  if ¬ cmpI (a.s.length + a.e) (b.s.length + b.e) = 0 then cmpI (a.s.length + a.e) (b.s.length + b.e) else cmpS a.s b.s
def numCmp (a b : Node) : Int :=
  if a.neg = true ∧ b.neg = false then -1 else if b.neg = true ∧ a.neg = false then 1 else if a.neg = true then numSize b a else numSize a b
/-- Of a size that no sum of which is too great. -/
structure Node.small (n : Node) : Prop where
  s : n.s.length ≤ 1000000
  e1 : -1000000 ≤ n.e
  e2 : n.e ≤ 1000000

def refAt (n : Node) (p : Int) : Int :=
  let i := (n.s.length : Int) - 1 - (p - n.e)
  if i < 0 then 0 else if (n.s.length : Int) ≤ i then 0 else ((at_ n.s i.toNat : Int) - 48) % 256
def cmpDown (f g : Int → Int) (side : Int) : Nat → Int → Int
  | 0, _ => 0
  | n + 1, p => if f p < g p then -side else if g p < f p then side else cmpDown f g side n (p - 1)
def refCmp (a b : Node) : Int :=
  let side := if a.neg = true then -1 else 1
  if a.neg != b.neg then side else
  let top := max ((a.s.length : Int) + a.e) (b.s.length + b.e)
  cmpDown (refAt a) (refAt b) side (top - min a.e b.e + 1).toNat top

def signOf (n : Node) : List UInt8 := if n.neg = true then [45] else []
def numPrint (n : Node) : List UInt8 :=
  if n.s.length = 0 then [48] else
  if 0 ≤ n.e ∧ (n.s.length : Int) + n.e ≤ 20 then signOf n ++ n.s ++ Lib.repeatL [48] n.e.toNat else
  if n.e < 0 ∧ -20 ≤ n.e then
    signOf n ++ (Lib.repeatL [48] (1 - n.e - n.s.length).toNat ++ n.s).take (((Lib.repeatL [48] (1 - n.e - n.s.length).toNat ++ n.s).length : Int) + n.e).toNat ++ [46] ++ (Lib.repeatL [48] (1 - n.e - n.s.length).toNat ++ n.s).drop (((Lib.repeatL [48] (1 - n.e - n.s.length).toNat ++ n.s).length : Int) + n.e).toNat
  else signOf n ++ n.s ++ [101] ++ Lib.itoa n.e

def fromOf (s : List UInt8) : Nat := if 0 < s.length then (if at_ s 0 = 45 then 1 else 0) else 0
theorem fromOf_le (s : List UInt8) : fromOf s ≤ s.length := by unfold fromOf; split; split <;> omega; omega
def toOf (s : List UInt8) : Nat := if runTo s (fromOf s) = fromOf s then fromOf s else if (at_ s (fromOf s) : Int) = 48 then fromOf s + 1 else runTo s (fromOf s)
/-- what stands behind e, and where it can't go on, if it can't. -/
def isE (s : List UInt8) (i : Nat) : Prop := i ≠ s.length ∧ ((at_ s i : Int) = 101 ∨ (at_ s i : Int) = 69)
instance (s : List UInt8) (i : Nat) : Decidable (isE s i) := by unfold isE; infer_instance
def pFrom (s : List UInt8) (i : Nat) : Nat := if i + 1 < s.length ∧ ((at_ s (i + 1) : Int) = 43 ∨ (at_ s (i + 1) : Int) = 45) then i + 2 else i + 1
def pSide (s : List UInt8) (i : Nat) : Int := if isE s i then (if i + 1 < s.length ∧ (at_ s (i + 1) : Int) = 45 then -1 else 1) else 0
def pTxt (s : List UInt8) (i : Nat) : List UInt8 := if isE s i then (s.drop (pFrom s i)).take (runTo s (pFrom s i) - pFrom s i) else []
def pEnd (s : List UInt8) (i : Nat) : Nat := if isE s i then runTo s (pFrom s i) else i

def val (l : List UInt8) : Int := l.foldl (fun n c => n * 10 + ((c.toNat : Int) - 48)) 0
def isDot (s : List UInt8) (i : Nat) : Prop := i < s.length ∧ (at_ s i : Int) = 46
instance (s : List UInt8) (i : Nat) : Decidable (isDot s i) := by unfold isDot; infer_instance
def rFigs (s : List UInt8) : List UInt8 := if isDot s (toOf s) then (s.drop (fromOf s)).take (toOf s - fromOf s) ++ (s.drop (toOf s + 1)).take (runTo s (toOf s + 1) - (toOf s + 1)) else (s.drop (fromOf s)).take (toOf s - fromOf s)
def rE (s : List UInt8) : Int := if isDot s (toOf s) then (toOf s : Int) + 1 - runTo s (toOf s + 1) else 0
def rAt (s : List UInt8) : Nat := if isDot s (toOf s) then runTo s (toOf s + 1) else toOf s
/-- What a text is read as: the number, the place where it is none, the error. -/
def tailNum (s : List UInt8) : Node × Int × Int :=
  if 6 < ((stripL (pTxt s (rAt s))).length : Int) then (node0, 0, 2) else
  ((make ((at_ s 0 : Int) == 45) (rFigs s) (rE s + pSide s (rAt s) * val (stripL (pTxt s (rAt s))))).1, 0, (make ((at_ s 0 : Int) == 45) (rFigs s) (rE s + pSide s (rAt s) * val (stripL (pTxt s (rAt s))))).2)
def readNum (s : List UInt8) : Node × Int × Int :=
  if runTo s (fromOf s) = fromOf s then (node0, fromOf s, 1) else
  if isDot s (toOf s) ∧ runTo s (toOf s + 1) = toOf s + 1 then (node0, runTo s (toOf s + 1), 1) else
  if pEnd s (rAt s) < s.length then (node0, pEnd s (rAt s), 1) else
  if pSide s (rAt s) ≠ 0 ∧ (pTxt s (rAt s)).length = 0 then (node0, pEnd s (rAt s), 1) else tailNum s

end Go.LX
/- Numbers, plain: their values; what is greater. -/
namespace Go.LX
open Go Go.Proofs

/-- The whole number of figures. -/
def dig (s : List UInt8) : Nat := s.foldl (fun n c => n * 10 + (c.toNat - 48)) 0
def digF (n : Nat) (s : List UInt8) : Nat := s.foldl (fun n c => n * 10 + (c.toNat - 48)) n
theorem digF_eq : ∀ (s : List UInt8) (n : Nat), digF n s = n * 10 ^ s.length + dig s
  | [], n => by simp [digF, dig]
  | c :: s, n => by
    have h1 := digF_eq s (n * 10 + (c.toNat - 48))
    have h2 := digF_eq s (0 * 10 + (c.toNat - 48))
    have e : dig (c :: s) = digF (0 * 10 + (c.toNat - 48)) s := rfl
    have e' : digF n (c :: s) = digF (n * 10 + (c.toNat - 48)) s := rfl
    rw [e, e', h1, h2, List.length_cons, Nat.pow_succ]
    have : (n * 10 + (c.toNat - 48)) * 10 ^ s.length = n * (10 ^ s.length * 10) + (c.toNat - 48) * 10 ^ s.length := by
      rw [Nat.add_mul, Nat.mul_assoc, Nat.mul_comm 10]
    rw [this]; simp; omega
theorem dig_cons (c : UInt8) (s : List UInt8) : dig (c :: s) = (c.toNat - 48) * 10 ^ s.length + dig s := by
  have e : dig (c :: s) = digF (0 * 10 + (c.toNat - 48)) s := rfl
  rw [e, digF_eq]; simp
theorem dig_append (s t : List UInt8) : dig (s ++ t) = dig s * 10 ^ t.length + dig t := by
  have : dig (s ++ t) = digF (dig s) t := by simp [dig, digF, List.foldl_append]
  rw [this, digF_eq]
theorem figures_cons {c : UInt8} {s : List UInt8} : figures (c :: s) = true ↔ (48 ≤ c.toNat ∧ c.toNat ≤ 57) ∧ figures s = true := by
  simp [figures, isFig]
theorem figures_append {s t : List UInt8} : figures (s ++ t) = true ↔ figures s = true ∧ figures t = true := by
  simp [figures, List.all_append]
theorem dig_lt : ∀ {s : List UInt8}, figures s = true → dig s < 10 ^ s.length
  | [], _ => by simp [dig]
  | c :: s, h => by
    rw [figures_cons] at h
    have := dig_lt h.2
    rw [dig_cons, List.length_cons, Nat.pow_succ]
    have h9 : (c.toNat - 48) ≤ 9 := by omega
    have := Nat.mul_le_mul_right (10 ^ s.length) h9
    omega
theorem dig_ge {c : UInt8} {s : List UInt8} (h : figures (c :: s) = true) (hc : c.toNat ≠ 48) : 10 ^ s.length ≤ dig (c :: s) := by
  rw [figures_cons] at h
  rw [dig_cons]
  have : 1 ≤ c.toNat - 48 := by omega
  have := Nat.mul_le_mul_right (10 ^ s.length) this
  omega
theorem dig_last {s : List UInt8} (h0 : 0 < s.length) (hf : figures s = true) (hl : at_ s (s.length - 1) ≠ 48) : 0 < dig s ∧ dig s % 10 ≠ 0 := by
  obtain ⟨l, c, rfl⟩ := snoc_of h0
  rw [figures_append] at hf
  have hc := (figures_cons.1 hf.2).1
  have e : (l ++ [c]).length - 1 = l.length := by simp
  rw [e, at_last] at hl
  rw [dig_append]
  have : dig [c] = c.toNat - 48 := by simp [dig]
  rw [this]
  simp only [List.length_cons, List.length_nil, Nat.zero_add, Nat.pow_one]
  omega

/-- A right number that is not nought, in words. -/
structure RightN (n : Node) : Prop where
  kind : n.kind = 3
  many : n.many = 0
  name : n.name = []
  figs : figures n.s = true
  len : n.s.length ≤ 100
  e1 : -1000 ≤ n.e
  e2 : n.e ≤ 1000
  top : (n.s.length : Int) + n.e ≤ 1000
  zero : n.s.length = 0 → n.neg = false ∧ n.e = 0
  head : 0 < n.s.length → at_ n.s 0 ≠ 48
  last : 0 < n.s.length → at_ n.s (n.s.length - 1) ≠ 48
theorem rightN_iff (n : Node) : numRight n = true ↔ RightN n := by
  constructor
  · intro h
    unfold numRight at h
    split at h
    · cases h
    split at h
    · cases h
    split at h
    · cases h
    split at h
    · cases h
    split at h
    · cases h
    split at h
    · cases h
    split at h
    · cases h
    split at h
    · cases h
    rename_i h1 h2 h3 h4 h5 h6 h7 h8
    have hn : n.name = [] := List.eq_nil_of_length_eq_zero (by omega)
    have hf : figures n.s = true := by simpa using h4
    split at h
    · split at h
      · exact ⟨by omega, by omega, hn, hf, by omega, by omega, by omega, by omega, fun _ => ⟨by assumption, by simpa using h⟩, fun h => by omega, fun h => by omega⟩
      · cases h
    · split at h
      · exact ⟨by omega, by omega, hn, hf, by omega, by omega, by omega, by omega, fun h => by omega, fun _ => by omega, fun _ hh => by simp [hh] at h⟩
      · cases h
  · intro h
    obtain ⟨g1, g2, g3, g4, g5, g6, g7, g8, g9, g10, g11⟩ := h
    unfold numRight
    rw [if_neg (by omega), if_neg (by omega), if_neg (by simp [g3]), if_neg (by simp [g4]), if_neg (by omega), if_neg (by omega), if_neg (by omega), if_neg (by omega)]
    split
    · rename_i h0
      obtain ⟨k1, k2⟩ := g9 h0
      rw [if_pos k1]; simp [k2]
    · rename_i h0
      have k1 := g10 (by omega)
      have k2 := g11 (by omega)
      rw [if_pos (by omega)]
      simp
      omega

theorem RightN.small {n : Node} (h : RightN n) : n.small := ⟨by have := h.len; omega, by have := h.e1; omega, by have := h.e2; omega⟩

/-- The value, times 10 to the 1000. -/
def mag (n : Node) : Nat := dig n.s * 10 ^ (n.e + 1000).toNat
def sv (n : Node) : Int := if n.neg = true then -(mag n : Int) else mag n

theorem mag_lt {n : Node} (h : RightN n) : mag n < 10 ^ (n.s.length + n.e + 1000).toNat := by
  have e : (n.s.length + n.e + 1000).toNat = n.s.length + (n.e + 1000).toNat := by have := h.e1; omega
  rw [e, Nat.pow_add]
  exact Nat.mul_lt_mul_of_pos_right (dig_lt h.figs) (Nat.pow_pos (by decide))
theorem mag_ge {n : Node} (h : RightN n) (h0 : 0 < n.s.length) : 10 ^ (n.s.length + n.e + 999).toNat ≤ mag n := by
  have e : (n.s.length + n.e + 999).toNat = (n.s.length - 1) + (n.e + 1000).toNat := by have := h.e1; omega
  rw [e, Nat.pow_add]
  refine Nat.mul_le_mul_right _ ?_
  have hh := h.head h0
  have hf := h.figs
  cases hs : n.s with
  | nil => rw [hs] at h0; simp at h0
  | cons c s =>
    rw [hs] at hh hf
    rw [at_cons] at hh
    simpa using dig_ge hf hh
theorem mag_pos {n : Node} (h : RightN n) (h0 : 0 < n.s.length) : 0 < mag n := Nat.lt_of_lt_of_le (Nat.pow_pos (by decide)) (mag_ge h h0)
theorem mag_zero {n : Node} (h0 : n.s.length = 0) : mag n = 0 := by
  have : n.s = [] := List.eq_nil_of_length_eq_zero h0
  simp [mag, this, dig]

/-! ### Figures of the same place -/
theorem less_dig : ∀ (M : Nat) (x y : List UInt8), figures x = true → figures y = true → x.length ≤ M → y.length ≤ M → (0 < y.length → at_ y (y.length - 1) ≠ 48) → Op.bytesLess x y = true → dig x * 10 ^ (M - x.length) < dig y * 10 ^ (M - y.length)
  | M, x, [], _, _, _, _, _, h => by cases x <;> simp [Op.bytesLess] at h
  | M, [], d :: y, _, hy, _, _, hl, _ => by
    have := (dig_last (by simp) hy (hl (by simp))).1
    simp only [dig, List.foldl_nil, Nat.zero_mul]
    exact Nat.mul_pos this (Nat.pow_pos (by decide))
  | M, c :: x, d :: y, hx, hy, h1, h2, hl, h => by
    rw [figures_cons] at hx hy
    simp only [List.length_cons] at h1 h2
    obtain ⟨m, rfl⟩ : ∃ m, M = m + 1 := ⟨M - 1, by omega⟩
    rw [dig_cons, dig_cons, List.length_cons, List.length_cons, Nat.add_sub_add_right, Nat.add_sub_add_right, Nat.add_mul, Nat.add_mul, Nat.mul_assoc, Nat.mul_assoc, ← Nat.pow_add, ← Nat.pow_add,
      show x.length + (m - x.length) = m by omega, show y.length + (m - y.length) = m by omega]
    simp only [Op.bytesLess, Bool.or_eq_true, decide_eq_true_eq, Bool.and_eq_true, beq_iff_eq] at h
    have bx : dig x * 10 ^ (m - x.length) < 10 ^ m := by
      have := Nat.mul_lt_mul_of_pos_right (dig_lt hx.2) (Nat.pow_pos (n := m - x.length) (show 0 < 10 by decide))
      rwa [← Nat.pow_add, show x.length + (m - x.length) = m by omega] at this
    rcases h with h | ⟨h, h'⟩
    · have hcd : c.toNat < d.toNat := h
      have : (c.toNat - 48 + 1) ≤ d.toNat - 48 := by omega
      have := Nat.mul_le_mul_right (10 ^ m) this
      rw [Nat.add_mul] at this
      omega
    · subst h
      have hl' : 0 < y.length → at_ y (y.length - 1) ≠ 48 := fun hp => by
        have := hl (by simp)
        cases y with
        | nil => simp at hp
        | cons a l => simpa [at_] using this
      have := less_dig m x y hx.2 hy.2 (by omega) (by omega) hl' h'
      omega
theorem bytes_total : ∀ (x y : List UInt8), Op.bytesLess x y = true ∨ x = y ∨ Op.bytesLess y x = true
  | [], [] => .inr (.inl rfl)
  | [], _ :: _ => .inl rfl
  | _ :: _, [] => .inr (.inr rfl)
  | a :: x, b :: y => by
    simp only [Op.bytesLess, Bool.or_eq_true, decide_eq_true_eq, Bool.and_eq_true, beq_iff_eq, List.cons.injEq]
    rcases Nat.lt_trichotomy a.toNat b.toNat with h | h | h
    · exact .inl (.inl h)
    · have : a = b := UInt8.toNat_inj.1 h
      subst this
      rcases bytes_total x y with h | h | h
      · exact .inl (.inr ⟨rfl, h⟩)
      · exact .inr (.inl ⟨rfl, h⟩)
      · exact .inr (.inr (.inr ⟨rfl, h⟩))
    · exact .inr (.inr (.inl h))
theorem bytesLess_irrefl : ∀ (x : List UInt8), Op.bytesLess x x = false
  | [] => rfl
  | a :: x => by simp [Op.bytesLess, bytesLess_irrefl x]

theorem cmpI_refl (a : Int) : cmpI a a = 0 := by simp [cmpI]
theorem cmpI_lt {a b : Int} (h : a < b) : cmpI a b = -1 := by simp [cmpI, h]
theorem cmpI_gt {a b : Int} (h : b < a) : cmpI a b = 1 := by simp [cmpI, h]; omega

theorem numSize_eq {a b : Node} (ha : RightN a) (hb : RightN b) : numSize a b = cmpI (mag a) (mag b) := by
  unfold numSize
  by_cases a0 : a.s.length = 0
  · rw [if_pos a0, mag_zero a0]
    by_cases b0 : b.s.length = 0
    · rw [mag_zero b0, a0, b0]
    · have := mag_pos hb (by omega)
      rw [cmpI_lt (by omega), cmpI_lt (by omega)]
  · rw [if_neg a0]
    have pa := mag_pos ha (by omega)
    by_cases b0 : b.s.length = 0
    · rw [if_pos b0, mag_zero b0, cmpI_gt (by omega), cmpI_gt (by omega)]
    · rw [if_neg b0]
      have la := mag_lt ha
      have lb := mag_lt hb
      have ga := mag_ge ha (by omega)
      have gb := mag_ge hb (by omega)
      have ea := ha.e1
      have eb := hb.e1
      rcases Int.lt_trichotomy (a.s.length + a.e) (b.s.length + b.e) with h | h | h
      · rw [cmpI_lt h, if_pos (by decide)]
        have : 10 ^ (a.s.length + a.e + 1000).toNat ≤ 10 ^ (b.s.length + b.e + 999).toNat := Nat.pow_le_pow_right (by decide) (by omega)
        rw [cmpI_lt (by omega)]
      · rw [h, cmpI_refl, if_neg (by decide)]
        let M := max a.s.length b.s.length
        let E := min a.e b.e
        have key : ∀ {x y : Node}, RightN x → RightN y → x.s.length + x.e = y.s.length + y.e → 0 < y.s.length → Op.bytesLess x.s y.s = true → mag x < mag y := by
          intro x y hx hy hxy h0 hl
          have := less_dig (max x.s.length y.s.length) x.s y.s hx.figs hy.figs (by omega) (by omega) hy.last hl
          unfold mag
          have e1 := hx.e1
          have e2 := hy.e1
          have q1 : (x.e + 1000).toNat = (max x.s.length y.s.length - x.s.length) + (min x.e y.e + 1000).toNat := by omega
          have q2 : (y.e + 1000).toNat = (max x.s.length y.s.length - y.s.length) + (min x.e y.e + 1000).toNat := by omega
          rw [q1, q2, Nat.pow_add, Nat.pow_add, ← Nat.mul_assoc, ← Nat.mul_assoc]
          exact Nat.mul_lt_mul_of_pos_right this (Nat.pow_pos (by decide))
        unfold cmpS
        rcases bytes_total a.s b.s with g | g | g
        · rw [if_pos g, cmpI_lt (by have := key ha hb h (by omega) g; omega)]
        · have e : a.e = b.e := by rw [g] at h; omega
          rw [g, bytesLess_irrefl]
          simp [mag, g, e, cmpI]
        · have n1 : Op.bytesLess a.s b.s = false := by
            cases hh : Op.bytesLess a.s b.s with
            | false => rfl
            | true =>
              have := key ha hb h (by omega) hh
              have := key hb ha h.symm (by omega) g
              omega
          have n2 : (a.s == b.s) = false := by
            rw [beq_eq_false_iff_ne]
            intro hh
            rw [hh, bytesLess_irrefl] at g
            cases g
          rw [n1, n2, cmpI_gt (by have := key hb ha h.symm (by omega) g; omega)]
          simp
      · rw [cmpI_gt h, if_pos (by decide)]
        have : 10 ^ (b.s.length + b.e + 1000).toNat ≤ 10 ^ (a.s.length + a.e + 999).toNat := Nat.pow_le_pow_right (by decide) (by omega)
        rw [cmpI_gt (by omega)]

theorem RightN.neg_len {n : Node} (h : RightN n) (hn : n.neg = true) : 0 < n.s.length := by
  by_cases h0 : n.s.length = 0
  · rw [(h.zero h0).1] at hn; cases hn
  · omega
theorem numCmp_eq {a b : Node} (ha : RightN a) (hb : RightN b) : numCmp a b = cmpI (sv a) (sv b) := by
  unfold numCmp sv
  cases na : a.neg <;> cases nb : b.neg <;> simp only [Bool.false_eq_true, false_and, and_false, and_self, and_true, ↓reduceIte, Bool.true_eq_false]
  · exact numSize_eq ha hb
  · have := mag_pos hb (hb.neg_len nb)
    rw [cmpI_gt (by omega)]
  · have := mag_pos ha (ha.neg_len na)
    rw [cmpI_lt (by omega)]
  · rw [numSize_eq hb ha]
    unfold cmpI
    split <;> split <;> (first | rfl | omega | skip)
    all_goals (split <;> first | rfl | omega | skip)
    all_goals (split <;> first | rfl | omega)
end Go.LX
/- Numbers, plain: the document's comparison is that of the values; the order's laws. -/
namespace Go.LX
open Go Go.Proofs

theorem dig_digit {s : List UInt8} (hf : figures s = true) (k : Nat) : dig s / 10 ^ k % 10 = if k < s.length then at_ s (s.length - 1 - k) - 48 else 0 := by
  split
  · rename_i hk
    have h1 : s = s.take (s.length - 1 - k) ++ ([s[s.length - 1 - k]] ++ s.drop (s.length - k)) := by
      have e : s.length - k = (s.length - 1 - k) + 1 := by omega
      rw [e, List.singleton_append, ← List.drop_eq_getElem_cons, List.take_append_drop]
    have hl : (s.drop (s.length - k)).length = k := by simp; omega
    have hv : figures (s.drop (s.length - k)) = true := by
      rw [h1] at hf
      exact (figures_append.1 (figures_append.1 hf).2).2
    have hc : 48 ≤ s[s.length - 1 - k].toNat ∧ s[s.length - 1 - k].toNat ≤ 57 := by
      rw [h1] at hf
      exact (figures_cons.1 (figures_append.1 (figures_append.1 hf).2).1).1
    have hd := dig_lt hv
    rw [hl] at hd
    conv => lhs; rw [h1]
    rw [dig_append, dig_append, List.length_append, hl]
    have e1 : dig [s[s.length - 1 - k]] = s[s.length - 1 - k].toNat - 48 := by simp [dig]
    rw [e1, at_get (show s.length - 1 - k < s.length by omega)]
    have : dig (s.take (s.length - 1 - k)) * 10 ^ ([s[s.length - 1 - k]].length + k) + ((s[s.length - 1 - k].toNat - 48) * 10 ^ k + dig (s.drop (s.length - k))) = (dig (s.take (s.length - 1 - k)) * 10 + (s[s.length - 1 - k].toNat - 48)) * 10 ^ k + dig (s.drop (s.length - k)) := by
      simp only [List.length_cons, List.length_nil]
      rw [Nat.zero_add, Nat.pow_add, Nat.pow_one, Nat.add_mul, Nat.mul_assoc]; omega
    rw [this, Nat.add_comm, Nat.add_mul_div_right _ _ (Nat.pow_pos (by decide)), Nat.div_eq_of_lt hd]
    omega
  · rename_i hk
    have : dig s < 10 ^ k := Nat.lt_of_lt_of_le (dig_lt hf) (Nat.pow_le_pow_right (by decide) (by omega))
    rw [Nat.div_eq_of_lt this]

theorem fig_range {s : List UInt8} (hf : figures s = true) {i : Nat} (h : i < s.length) : 48 ≤ at_ s i ∧ at_ s i ≤ 57 := by
  rw [at_get h]
  simp only [figures, List.all_eq_true] at hf
  have := hf _ (List.getElem_mem h)
  simpa [isFig] using this

theorem refAt_eq {n : Node} (hf : figures n.s = true) (he : -1000 ≤ n.e) (k : Nat) : refAt n ((k : Int) - 1000) = ((mag n / 10 ^ k % 10 : Nat) : Int) := by
  unfold refAt mag
  simp only
  by_cases hp : (k : Int) - 1000 < n.e
  · have e : (n.e + 1000).toNat = ((n.e + 1000).toNat - k - 1) + 1 + k := by omega
    rw [e, Nat.pow_add, ← Nat.mul_assoc, Nat.mul_div_cancel _ (Nat.pow_pos (by decide)), Nat.pow_succ, ← Nat.mul_assoc, Nat.mul_mod_left]
    by_cases h1 : (n.s.length : Int) - 1 - (k - 1000 - n.e) < 0
    · rw [if_pos h1]; rfl
    · rw [if_neg h1, if_pos (by omega)]; rfl
  · have e : k = (n.e + 1000).toNat + (k - (n.e + 1000).toNat) := by omega
    have e2 : dig n.s * 10 ^ (n.e + 1000).toNat / 10 ^ k = dig n.s / 10 ^ (k - (n.e + 1000).toNat) := by
      conv => lhs; rw [e, Nat.pow_add, ← Nat.div_div_eq_div_mul, Nat.mul_div_cancel _ (Nat.pow_pos (by decide))]
    rw [e2, dig_digit hf]
    by_cases h1 : k - (n.e + 1000).toNat < n.s.length
    · rw [if_neg (by omega), if_neg (by omega), if_pos h1]
      have e3 : ((n.s.length : Int) - 1 - (k - 1000 - n.e)).toNat = n.s.length - 1 - (k - (n.e + 1000).toNat) := by omega
      rw [e3]
      have := fig_range hf (show n.s.length - 1 - (k - (n.e + 1000).toNat) < n.s.length by omega)
      omega
    · rw [if_pos (by omega), if_neg h1]
      rfl

def cmp3 (side : Int) (x y : Nat) : Int := if x < y then -side else if y < x then side else 0
theorem cmpDown_eq {f g : Int → Int} {A B : Nat} (side : Int) (hf : ∀ k : Nat, f ((k : Int) - 1000) = ((A / 10 ^ k % 10 : Nat) : Int)) (hg : ∀ k : Nat, g ((k : Int) - 1000) = ((B / 10 ^ k % 10 : Nat) : Int)) (k : Nat) :
    ∀ m, A / 10 ^ (k + m) = B / 10 ^ (k + m) → cmpDown f g side m ((k : Int) + m - 1 - 1000) = cmp3 side (A / 10 ^ k) (B / 10 ^ k)
  | 0, h => by simp only [Nat.add_zero] at h; simp [cmpDown, cmp3, h]
  | m + 1, h => by
    have hp : ((k : Int) + (m + 1 : Nat) - 1 - 1000) = ((k + m : Nat) : Int) - 1000 := by omega
    have hp2 : ((k + m : Nat) : Int) - 1000 - 1 = (k : Int) + m - 1 - 1000 := by omega
    rw [hp, cmpDown, hf, hg, hp2]
    have d1 : A / 10 ^ (k + (m + 1)) = A / 10 ^ (k + m) / 10 := by rw [← Nat.add_assoc, Nat.pow_succ, Nat.div_div_eq_div_mul]
    have d2 : B / 10 ^ (k + (m + 1)) = B / 10 ^ (k + m) / 10 := by rw [← Nat.add_assoc, Nat.pow_succ, Nat.div_div_eq_div_mul]
    rw [d1, d2] at h
    have a1 : A / 10 ^ (k + m) = A / 10 ^ k / 10 ^ m := by rw [Nat.pow_add, Nat.div_div_eq_div_mul]
    have a2 : B / 10 ^ (k + m) = B / 10 ^ k / 10 ^ m := by rw [Nat.pow_add, Nat.div_div_eq_div_mul]
    have mono : ∀ {x y : Nat}, x / 10 ^ m < y / 10 ^ m → x < y := fun {x y} hh => by
      apply Classical.byContradiction
      intro hc
      have := Nat.div_le_div_right (c := 10 ^ m) (show y ≤ x by omega)
      omega
    by_cases c1 : A / 10 ^ (k + m) % 10 < B / 10 ^ (k + m) % 10
    · rw [if_pos (by omega)]
      have : A / 10 ^ k < B / 10 ^ k := mono (by omega)
      simp [cmp3, this]
    · rw [if_neg (by omega)]
      by_cases c2 : B / 10 ^ (k + m) % 10 < A / 10 ^ (k + m) % 10
      · rw [if_pos (by omega)]
        have : B / 10 ^ k < A / 10 ^ k := mono (by omega)
        simp only [cmp3]
        rw [if_neg (by omega), if_pos this]
      · rw [if_neg (by omega)]
        exact cmpDown_eq side hf hg k m (by omega)

theorem mag_dvd {n : Node} {k : Nat} (h : (k : Int) ≤ n.e + 1000) : 10 ^ k ∣ mag n := by
  unfold mag
  exact Nat.dvd_trans (Nat.pow_dvd_pow 10 (show k ≤ (n.e + 1000).toNat by omega)) (Nat.dvd_mul_left _ _)

theorem refCmp_eq {a b : Node} (ha : RightN a) (hb : RightN b) : refCmp a b = cmpI (sv a) (sv b) := by
  unfold refCmp
  simp only
  by_cases hn : a.neg = b.neg
  · rw [if_neg (by simp [hn])]
    have e1 := ha.e1
    have e2 := hb.e1
    generalize hs : (if a.neg = true then (-1 : Int) else 1) = side
    have ta := mag_lt ha
    have tb := mag_lt hb
    obtain ⟨k, hk⟩ : ∃ k : Nat, (k : Int) = min a.e b.e + 1000 := ⟨(min a.e b.e + 1000).toNat, by omega⟩
    obtain ⟨m, hm⟩ : ∃ m : Nat, (m : Int) = max ((a.s.length : Int) + a.e) (b.s.length + b.e) - min a.e b.e + 1 := ⟨(max ((a.s.length : Int) + a.e) (b.s.length + b.e) - min a.e b.e + 1).toNat, by omega⟩
    have g1 : (max ((a.s.length : Int) + a.e) (b.s.length + b.e) - min a.e b.e + 1).toNat = m := by omega
    have g2 : max ((a.s.length : Int) + a.e) (b.s.length + b.e) = (k : Int) + m - 1 - 1000 := by omega
    rw [g1, g2, cmpDown_eq side (refAt_eq ha.figs e1) (refAt_eq hb.figs e2) k m (by
      rw [Nat.div_eq_of_lt (Nat.lt_of_lt_of_le ta (Nat.pow_le_pow_right (by decide) (by omega))), Nat.div_eq_of_lt (Nat.lt_of_lt_of_le tb (Nat.pow_le_pow_right (by decide) (by omega)))])]
    obtain ⟨x, hx⟩ := mag_dvd (n := a) (k := k) (by omega)
    obtain ⟨y, hy⟩ := mag_dvd (n := b) (k := k) (by omega)
    have hpos : 0 < 10 ^ k := Nat.pow_pos (by decide)
    have q1 : mag a / 10 ^ k = x := by rw [hx]; exact Nat.mul_div_cancel_left _ hpos
    have q2 : mag b / 10 ^ k = y := by rw [hy]; exact Nat.mul_div_cancel_left _ hpos
    rw [q1, q2]
    have lt : ∀ {u v : Nat}, u < v → 10 ^ k * u < 10 ^ k * v := fun h => Nat.mul_lt_mul_of_pos_left h hpos
    unfold cmp3 sv
    rw [← hn]
    rcases Nat.lt_trichotomy x y with h | h | h
    · rw [if_pos h]
      have := lt h
      rw [← hx, ← hy] at this
      cases na : a.neg <;> simp only [na, Bool.false_eq_true, ↓reduceIte] at hs ⊢
      · rw [cmpI_lt (by omega)]; omega
      · rw [cmpI_gt (by omega)]; omega
    · rw [if_neg (by omega), if_neg (by omega), hx, hy, h]
      simp [cmpI]
    · rw [if_neg (by omega), if_pos h]
      have := lt h
      rw [← hx, ← hy] at this
      cases na : a.neg <;> simp only [na, Bool.false_eq_true, ↓reduceIte] at hs ⊢
      · rw [cmpI_gt (by omega)]; omega
      · rw [cmpI_lt (by omega)]; omega
  · rw [if_pos (by simpa using hn)]
    unfold sv
    cases na : a.neg <;> cases nb : b.neg <;> simp only [na, nb, Bool.false_eq_true, ↓reduceIte, not_true_eq_false] at hn ⊢
    · have := mag_pos hb (hb.neg_len nb)
      rw [cmpI_gt (by omega)]
    · have := mag_pos ha (ha.neg_len na)
      rw [cmpI_lt (by omega)]

/-! ### A value tells the number -/
theorem dig_inj : ∀ (s t : List UInt8), figures s = true → figures t = true → s.length = t.length → dig s = dig t → s = t
  | [], [], _, _, _, _ => rfl
  | [], _ :: _, _, _, h, _ => by simp at h
  | _ :: _, [], _, _, h, _ => by simp at h
  | c :: s, d :: t, hs, ht, hl, h => by
    rw [figures_cons] at hs ht
    have hl' : s.length = t.length := by simpa using hl
    rw [dig_cons, dig_cons, hl'] at h
    have b1 := dig_lt hs.2
    have b2 := dig_lt ht.2
    rw [hl'] at b1
    have hc : c.toNat - 48 = d.toNat - 48 := by
      have e1 : ((c.toNat - 48) * 10 ^ t.length + dig s) / 10 ^ t.length = ((d.toNat - 48) * 10 ^ t.length + dig t) / 10 ^ t.length := by rw [h]
      rwa [Nat.add_comm, Nat.add_mul_div_right _ _ (Nat.pow_pos (by decide)), Nat.div_eq_of_lt b1, Nat.add_comm _ (dig t), Nat.add_mul_div_right _ _ (Nat.pow_pos (by decide)), Nat.div_eq_of_lt b2, Nat.zero_add, Nat.zero_add] at e1
    rw [hc] at h
    have : c = d := UInt8.toNat_inj.1 (by omega)
    rw [this, dig_inj s t hs.2 ht.2 hl' (by omega)]

theorem mag_inj {a b : Node} (ha : RightN a) (hb : RightN b) (h : mag a = mag b) : a.s = b.s ∧ a.e = b.e := by
  by_cases a0 : a.s.length = 0
  · by_cases b0 : b.s.length = 0
    · exact ⟨by rw [List.eq_nil_of_length_eq_zero a0, List.eq_nil_of_length_eq_zero b0], by rw [(ha.zero a0).2, (hb.zero b0).2]⟩
    · have := mag_pos hb (by omega)
      rw [mag_zero a0] at h; omega
  · by_cases b0 : b.s.length = 0
    · have := mag_pos ha (by omega)
      rw [mag_zero b0] at h; omega
    · have e1 := ha.e1
      have e2 := hb.e1
      have he : a.e = b.e := by
        have key : ∀ {x y : Node}, RightN x → RightN y → 0 < x.s.length → mag x = mag y → ¬ x.e < y.e := by
          intro x y hx hy x0 hxy hlt
          have f1 := hx.e1
          have := (dig_last x0 hx.figs (hx.last x0)).2
          unfold mag at hxy
          have e : (y.e + 1000).toNat = ((y.e + 1000).toNat - (x.e + 1000).toNat - 1) + 1 + (x.e + 1000).toNat := by omega
          rw [e, Nat.pow_add, ← Nat.mul_assoc] at hxy
          have q := Nat.eq_of_mul_eq_mul_right (Nat.pow_pos (by decide)) hxy
          rw [q, Nat.pow_succ, ← Nat.mul_assoc, Nat.mul_mod_left] at this
          omega
        have := key ha hb (by omega) h
        have := key hb ha (by omega) h.symm
        omega
      have hl : a.s.length = b.s.length := by
        have l1 := mag_lt ha
        have l2 := mag_lt hb
        have g1 := mag_ge ha (by omega)
        have g2 := mag_ge hb (by omega)
        rcases Nat.lt_trichotomy a.s.length b.s.length with hh | hh | hh
        · have : 10 ^ (a.s.length + a.e + 1000).toNat ≤ 10 ^ (b.s.length + b.e + 999).toNat := Nat.pow_le_pow_right (by decide) (by omega)
          omega
        · exact hh
        · have : 10 ^ (b.s.length + b.e + 1000).toNat ≤ 10 ^ (a.s.length + a.e + 999).toNat := Nat.pow_le_pow_right (by decide) (by omega)
          omega
      refine ⟨dig_inj _ _ ha.figs hb.figs hl ?_, he⟩
      unfold mag at h
      rw [he] at h
      exact Nat.eq_of_mul_eq_mul_right (Nat.pow_pos (by decide)) h
theorem sv_inj {a b : Node} (ha : RightN a) (hb : RightN b) (h : sv a = sv b) : a = b := by
  have hm : mag a = mag b ∧ a.neg = b.neg := by
    unfold sv at h
    cases na : a.neg <;> cases nb : b.neg <;> simp only [na, nb, Bool.false_eq_true, ↓reduceIte] at h
    · exact ⟨by omega, rfl⟩
    · have := mag_pos hb (hb.neg_len nb); omega
    · have := mag_pos ha (ha.neg_len na); omega
    · exact ⟨by omega, rfl⟩
  obtain ⟨h1, h2⟩ := mag_inj ha hb hm.1
  obtain ⟨k1, m1, n1, s1, g1, e1⟩ := a
  obtain ⟨k2, m2, n2, s2, g2, e2⟩ := b
  simp only at h1 h2 hm
  have := ha.kind; have := hb.kind; have := ha.many; have := hb.many; have := ha.name; have := hb.name
  simp_all

/-- with the other side -/
def Node.flip (n : Node) : Node := { n with neg := !n.neg && (n.s != []) }
theorem RightN.flip {n : Node} (h : RightN n) : RightN n.flip := by
  obtain ⟨g1, g2, g3, g4, g5, g6, g7, g8, g9, g10, g11⟩ := h
  refine ⟨g1, g2, g3, g4, g5, g6, g7, g8, fun h0 => ⟨?_, (g9 h0).2⟩, g10, g11⟩
  have : n.s = [] := List.eq_nil_of_length_eq_zero h0
  simp [Node.flip, this]
theorem sv_flip {n : Node} (h : RightN n) : sv n.flip = -sv n := by
  have hm : mag n.flip = mag n := rfl
  unfold sv
  rw [hm]
  by_cases h0 : n.s.length = 0
  · have hz := mag_zero h0
    rw [hz]
    split <;> split <;> rfl
  · have hne : (n.s != []) = true := by
      rw [bne_iff_ne]; intro hh; rw [hh] at h0; exact h0 rfl
    cases hn : n.neg <;> simp [Node.flip, hn, hne]

theorem cmpI_range (a b : Int) : -1 ≤ cmpI a b ∧ cmpI a b ≤ 1 := by unfold cmpI; split <;> (try split) <;> omega
theorem cmpI_swap (a b : Int) : cmpI b a = -cmpI a b := by unfold cmpI; split <;> split <;> (try split) <;> omega
theorem cmpI_zero (a b : Int) : cmpI a b = 0 ↔ a = b := by unfold cmpI; split <;> (try split) <;> omega
theorem cmpI_le (a b : Int) : cmpI a b ≤ 0 ↔ a ≤ b := by unfold cmpI; split <;> (try split) <;> omega
theorem cmpI_neg (a b : Int) : cmpI (-a) (-b) = -cmpI a b := by unfold cmpI; split <;> split <;> (try split) <;> (try split) <;> omega
theorem cmpI_less (a b : Int) : cmpI a b < 0 ↔ a < b := by unfold cmpI; split <;> (try split) <;> omega
end Go.LX
/- Numbers: how the program reads them, in plain words. -/
set_option linter.unusedSimpArgs false
namespace Go.LX
open Go Go.Proofs

theorem figures_take {l : List UInt8} (h : figures l = true) (k : Nat) : figures (l.take k) = true := by
  simp only [figures, List.all_eq_true] at h ⊢
  exact fun x hx => h x (List.mem_of_mem_take hx)
theorem val_succ {l : List UInt8} {k : Nat} (h : k < l.length) : val (l.take (k + 1)) = val (l.take k) * 10 + ((at_ l k : Int) - 48) := by
  have e : l.take (k + 1) = l.take k ++ [l[k]] := by rw [List.take_add_one, List.getElem?_eq_getElem h]; rfl
  unfold val
  rw [e, List.foldl_append]
  simp [at_get h]
theorem fig_at {l : List UInt8} (h : figures l = true) {k : Nat} (hk : k < l.length) : 48 ≤ at_ l k ∧ at_ l k ≤ 57 := by
  simp only [figures, List.all_eq_true] at h
  have := h _ (List.getElem_mem hk)
  rw [isFig_at hk] at this
  simpa using this
theorem val_bound : ∀ (k : Nat) (l : List UInt8), figures l = true → k ≤ l.length → 0 ≤ val (l.take k) ∧ val (l.take k) < 10 ^ k
  | 0, l, _, _ => by simp [val]
  | k + 1, l, h, hk => by
    have ih := val_bound k l h (by omega)
    have hf := fig_at h (show k < l.length by omega)
    rw [val_succ (by omega), Int.pow_succ]
    omega
theorem runTo_figures (s : List UInt8) (i : Nat) : figures ((s.drop i).take (runTo s i - i)) = true := by
  unfold runTo
  rw [Nat.add_sub_cancel_left]
  have : (s.drop i).take ((s.drop i).takeWhile isFig).length = (s.drop i).takeWhile isFig := by
    have := List.takeWhile_prefix (l := s.drop i) isFig
    exact (List.prefix_iff_eq_take.1 this).symm
  rw [this]
  simp [figures, List.all_takeWhile]
theorem pTxt_figures (s : List UInt8) (i : Nat) : figures (pTxt s i) = true := by
  unfold pTxt
  split
  · exact runTo_figures _ _
  · rfl
theorem stripL_figures {l : List UInt8} (h : figures l = true) : figures (stripL l) = true := by
  simp only [figures, List.all_eq_true] at h ⊢
  exact fun x hx => h x ((List.dropWhile_sublist _).mem hx)

def subS (s : List UInt8) (i j : Nat) : List UInt8 := (s.drop i).take (j - i)
/-- what a mark of some moves. -/
def isAt (s : List UInt8) (i : Nat) (m : List UInt8) : Bool := decide (i < s.length) && decide (0 ≤ Lib.indexByte m (s.getD i 0))
def isTo (s : List UInt8) (i : Nat) (m : List UInt8) : Nat := if isAt s i m = true then i + 1 else i
theorem digF_cons (n : Nat) (c : UInt8) (s : List UInt8) : digF n (c :: s) = digF (n * 10 + (c.toNat - 48)) s := by simp only [digF, List.foldl_cons]
theorem parse_dig (l : List UInt8) : ∀ (acc : Nat), figures l = true → digF acc l < 1000000000 → Lib.parseUint10 acc l = .ok (digF acc l) := by
  induction l with
  | nil => intro acc _ _; rfl
  | cons c r ih =>
    intro acc h hb
    rw [figures_cons] at h
    rw [digF_cons] at hb ⊢
    have h1 := digF_eq r (acc * 10 + (c.toNat - 48))
    have hp : 0 < 10 ^ r.length := Nat.pow_pos (by decide)
    have h2 : acc * 10 + (c.toNat - 48) ≤ (acc * 10 + (c.toNat - 48)) * 10 ^ r.length := Nat.le_mul_of_pos_right _ hp
    rw [Lib.parseUint10, if_pos h.1, if_neg (by omega), if_neg (by omega)]
    exact ih _ h.2 hb
theorem val_dig : ∀ (l : List UInt8), figures l = true → val l = (dig l : Int) := by
  have key : ∀ (l : List UInt8) (n : Nat), figures l = true → l.foldl (fun (n : Int) (c : UInt8) => n * 10 + ((c.toNat : Int) - 48)) (n : Int) = (digF n l : Int) := by
    intro l
    induction l with
    | nil => intro n _; rfl
    | cons c r ih =>
      intro n h
      rw [figures_cons] at h
      rw [digF_cons, List.foldl_cons, ← ih _ h.2]
      congr 1
      omega
  intro l h
  exact key l 0 h
theorem isTo_le {s m : List UInt8} {i : Nat} (h : i ≤ s.length) : isTo s i m ≤ s.length := by
  unfold isTo; split
  · rename_i h1; simp [isAt] at h1; omega
  · exact h
theorem idx1 (c x : UInt8) : (0 ≤ Lib.indexByte [c] x) ↔ x.toNat = c.toNat := by
  simp only [Lib.indexByte]
  by_cases h : c = x
  · subst h; simp
  · have : ¬ x.toNat = c.toNat := fun hh => h (UInt8.toNat_inj.1 hh.symm)
    simp [h, this]
theorem idx2 (a c x : UInt8) : (0 ≤ Lib.indexByte [a, c] x) ↔ (x.toNat = a.toNat ∨ x.toNat = c.toNat) := by
  have h1 := idx1 c x
  rw [Lib.indexByte]
  by_cases h : a = x
  · subst h; simp
  · have : ¬ x.toNat = a.toNat := fun hh => h (UInt8.toNat_inj.1 hh.symm)
    rw [if_neg (by simpa using h)]
    split
    · rename_i hh
      have : Lib.indexByte [c] x = -1 := by simpa using hh
      omega
    · rename_i hh
      have hh' : ¬ Lib.indexByte [c] x = -1 := by simpa using hh
      have : 0 ≤ Lib.indexByte [c] x := by
        simp only [Lib.indexByte] at hh' ⊢
        split
        · omega
        · rename_i hc; rw [if_neg hc] at hh'; simp at hh'
      omega
theorem isAt1 {s : List UInt8} {i : Nat} {c : UInt8} : isAt s i [c] = true ↔ (i < s.length ∧ at_ s i = c.toNat) := by
  unfold isAt at_
  rw [Bool.and_eq_true, decide_eq_true_eq, decide_eq_true_eq, idx1]
theorem isAt2 {s : List UInt8} {i : Nat} {a c : UInt8} : isAt s i [a, c] = true ↔ (i < s.length ∧ (at_ s i = a.toNat ∨ at_ s i = c.toNat)) := by
  unfold isAt at_
  rw [Bool.and_eq_true, decide_eq_true_eq, decide_eq_true_eq, idx2]
theorem isTo_from (s : List UInt8) : isTo s 0 [45] = fromOf s := by
  unfold isTo fromOf
  by_cases h : isAt s 0 [45] = true
  · rw [if_pos h]
    rw [isAt1] at h
    rw [if_pos h.1, if_pos (show at_ s 0 = 45 from h.2)]
  · rw [if_neg h]
    rw [isAt1] at h
    split
    · rename_i h1
      rw [if_neg (fun h2 : at_ s 0 = 45 => h ⟨h1, h2⟩)]
    · rfl
theorem subS_len {s : List UInt8} {i j : Nat} (h : j ≤ s.length) : (subS s i j).length = j - i := by simp [subS]; omega
theorem subS_at {s : List UInt8} {i j : Nat} (h : i < j) : at_ (subS s i j) 0 = at_ s i := by
  simp only [subS, at_, List.getD_eq_getElem?_getD, List.getElem?_take, List.getElem?_drop]
  rw [if_pos (by omega)]
  simp

theorem subS_le {s : List UInt8} {i j : Nat} : (subS s i j).length ≤ s.length := by simp [subS]; omega
theorem figures_sub {s : List UInt8} {i : Nat} : figures (subS s i (runTo s i)) = true := runTo_figures s i
theorem bnd2 {s : List UInt8} (hs : s.length ≤ 100000) {i j k l : Nat} : (subS s i j).length + (subS s k l).length ≤ 9223372036854775807 := by
  have := subS_le (s := s) (i := i) (j := j)
  have := subS_le (s := s) (i := k) (j := l)
  omega
theorem bnd3 {s : List UInt8} (hs : s.length ≤ 100000) {i j k l : Nat} : (subS s i j ++ subS s k l).length ≤ 1000000 := by
  rw [List.length_append]
  have := subS_le (s := s) (i := i) (j := j)
  have := subS_le (s := s) (i := k) (j := l)
  omega
theorem bnd1 {s : List UInt8} (hs : s.length ≤ 100000) {i j : Nat} : (subS s i j).length ≤ 1000000 := by
  have := subS_le (s := s) (i := i) (j := j)
  omega
theorem fig_nil : figures (stripL []) = true := rfl

def finP (s F : List UInt8) (e side : Int) (pw : List UInt8) (at' : Nat) : Node × Int × Int :=
  if at' < s.length then (node0, at', 1) else if 6 < (stripL pw).length then (node0, 0, 2) else
  ((make (isAt s 0 [45]) F (IntKind.i64.wrap (e + IntKind.i64.wrap (side * dig (stripL pw))))).1, 0, (make (isAt s 0 [45]) F (IntKind.i64.wrap (e + IntKind.i64.wrap (side * dig (stripL pw))))).2)
def powP (s F : List UInt8) (e side : Int) (k : Nat) : Node × Int × Int :=
  if (subS s k (runTo s k)).length = 0 then (node0, runTo s k, 1) else finP s F e side (subS s k (runTo s k)) (runTo s k)
def expP (s F : List UInt8) (e : Int) (i : Nat) : Node × Int × Int :=
  if isAt s i [101, 69] = true then
    (if isAt s (isTo s i [101, 69]) [45] = true then powP s F e (-1) (isTo s (isTo s i [101, 69]) [45]) else powP s F e 1 (isTo s (isTo s (isTo s i [101, 69]) [45]) [43]))
  else finP s F e 1 [] (isTo s i [101, 69])
def readP (s : List UInt8) : Node × Int × Int :=
  if 1 < (subS s (fromOf s) (runTo s (fromOf s))).length ∧ at_ (subS s (fromOf s) (runTo s (fromOf s))) 0 = 48 then (node0, IntKind.i64.wrap (fromOf s + 1), 1) else
  if (subS s (fromOf s) (runTo s (fromOf s))).length = 0 then (node0, runTo s (fromOf s), 1) else
  if isAt s (runTo s (fromOf s)) [46] = true then
    (if (subS s (isTo s (runTo s (fromOf s)) [46]) (runTo s (isTo s (runTo s (fromOf s)) [46]))).length = 0 then (node0, runTo s (isTo s (runTo s (fromOf s)) [46]), 1) else
      expP s (subS s (fromOf s) (runTo s (fromOf s)) ++ subS s (isTo s (runTo s (fromOf s)) [46]) (runTo s (isTo s (runTo s (fromOf s)) [46]))) (IntKind.i64.wrap (0 - (subS s (isTo s (runTo s (fromOf s)) [46]) (runTo s (isTo s (runTo s (fromOf s)) [46]))).length)) (runTo s (isTo s (runTo s (fromOf s)) [46])))
  else expP s (subS s (fromOf s) (runTo s (fromOf s))) 0 (isTo s (runTo s (fromOf s)) [46])

end Go.LX
/- Numbers, plain: the program's reading is the document's. -/
set_option linter.unusedSimpArgs false
namespace Go.LX
open Go Go.Proofs

theorem isDot_iff {s : List UInt8} {i : Nat} : isAt s i [46] = true ↔ isDot s i := by
  rw [isAt1]
  unfold isDot
  constructor
  · rintro ⟨h1, h2⟩; exact ⟨h1, by rw [h2]; rfl⟩
  · rintro ⟨h1, h2⟩; exact ⟨h1, by have : (UInt8.toNat 46) = 46 := rfl; omega⟩
theorem isE_iff {s : List UInt8} {i : Nat} (hi : i ≤ s.length) : isAt s i [101, 69] = true ↔ isE s i := by
  rw [isAt2]
  unfold isE
  have e1 : (UInt8.toNat 101) = 101 := rfl
  have e2 : (UInt8.toNat 69) = 69 := rfl
  rw [e1, e2]
  omega
theorem isC_iff {s : List UInt8} {i : Nat} {c : UInt8} : isAt s i [c] = true ↔ (i < s.length ∧ (at_ s i : Int) = (c.toNat : Int)) := by
  rw [isAt1]; omega
theorem at_big {s : List UInt8} {i : Nat} (h : s.length ≤ i) : at_ s i = 0 := by
  simp [at_, List.getD_eq_getElem?_getD, List.getElem?_eq_none h]
theorem isNeg (s : List UInt8) : isAt s 0 [45] = ((at_ s 0 : Int) == 45) := by
  rw [Bool.eq_iff_iff, isC_iff, beq_iff_eq]
  have e1 : ((UInt8.toNat 45 : Nat) : Int) = 45 := rfl
  rw [e1]
  constructor
  · exact fun h => h.2
  · intro h
    refine ⟨?_, h⟩
    apply Classical.byContradiction
    intro hc
    rw [at_big (by omega)] at h
    omega

def tailW (s F : List UInt8) (e side : Int) (pw : List UInt8) : Node × Int × Int :=
  if 6 < ((stripL pw).length : Int) then (node0, 0, 2) else
  ((make ((at_ s 0 : Int) == 45) F (e + side * val (stripL pw))).1, 0, (make ((at_ s 0 : Int) == 45) F (e + side * val (stripL pw))).2)
theorem finP_eq {s F : List UInt8} {e side side' : Int} {pw : List UInt8} {i : Nat} (he1 : -1000000 ≤ e) (he2 : e ≤ 1000000) (hs : side = 1 ∨ side = -1) (hpw : figures pw = true) (hside : side = side' ∨ pw = []) :
    finP s F e side pw i = if i < s.length then (node0, (i : Int), 1) else tailW s F e side' pw := by
  unfold finP tailW
  split
  · rfl
  · by_cases h6 : 6 < (stripL pw).length
    · rw [if_pos h6, if_pos (by omega)]
    · rw [if_neg h6, if_neg (by omega)]
      have hf := stripL_figures hpw
      have hd := dig_lt hf
      have hp : 10 ^ (stripL pw).length ≤ 10 ^ 6 := Nat.pow_le_pow_right (by decide) (by omega)
      have e1 : IntKind.i64.wrap (e + IntKind.i64.wrap (side * dig (stripL pw))) = e + side' * val (stripL pw) := by
        rw [val_dig _ hf]
        have b : side * dig (stripL pw) = side' * dig (stripL pw) := by
          rcases hside with h | h
          · rw [h]
          · subst h; simp [stripL, dig]
        have b1 : -1000000 ≤ side * dig (stripL pw) ∧ side * dig (stripL pw) ≤ 1000000 := by
          rcases hs with h | h <;> rw [h] <;> omega
        rw [wrap_i64 (n := side * dig (stripL pw)) (by omega) (by omega), wrap_i64 (by omega) (by omega), b]
      rw [e1, isNeg]

theorem pEnd_def (s : List UInt8) (i : Nat) (h : isE s i) : pEnd s i = runTo s (pFrom s i) ∧ pTxt s i = subS s (pFrom s i) (runTo s (pFrom s i)) := by
  unfold pEnd pTxt subS
  rw [if_pos h, if_pos h]
  exact ⟨rfl, rfl⟩

theorem pTxt_fig (s : List UInt8) (i : Nat) : figures (pTxt s i) = true := by
  unfold pTxt
  split
  · exact runTo_figures _ _
  · rfl
theorem powP_eq {s F : List UInt8} {e : Int} {i : Nat} (h : isE s i) (he1 : -1000000 ≤ e) (he2 : e ≤ 1000000) {side : Int} (hs : side = 1 ∨ side = -1) (hside : pSide s i = side) {k : Nat} (hk : k = pFrom s i) :
    powP s F e side k = if pEnd s i < s.length then (node0, (pEnd s i : Int), 1) else if pSide s i ≠ 0 ∧ (pTxt s i).length = 0 then (node0, (pEnd s i : Int), 1) else tailW s F e (pSide s i) (pTxt s i) := by
  subst hk
  obtain ⟨h1, h2⟩ := pEnd_def s i h
  have hne : pSide s i ≠ 0 := by rw [hside]; rcases hs with h | h <;> rw [h] <;> decide
  unfold powP
  rw [← h2, ← h1]
  by_cases h0 : (pTxt s i).length = 0
  · rw [if_pos h0]
    split
    · rfl
    · rw [if_pos ⟨hne, h0⟩]
  · rw [if_neg h0, finP_eq he1 he2 hs (pTxt_fig s i) (.inl hside.symm)]
    split
    · rfl
    · rw [if_neg (fun hh => h0 hh.2)]

theorem expP_eq {s F : List UInt8} {e : Int} {i : Nat} (hi : i ≤ s.length) (he1 : -1000000 ≤ e) (he2 : e ≤ 1000000) :
    expP s F e i = if pEnd s i < s.length then (node0, (pEnd s i : Int), 1) else if pSide s i ≠ 0 ∧ (pTxt s i).length = 0 then (node0, (pEnd s i : Int), 1) else tailW s F e (pSide s i) (pTxt s i) := by
  unfold expP
  have e1 : ((UInt8.toNat 45 : Nat) : Int) = 45 := rfl
  have e2 : ((UInt8.toNat 43 : Nat) : Int) = 43 := rfl
  by_cases h : isE s i
  · rw [if_pos ((isE_iff hi).2 h)]
    have ej : isTo s i [101, 69] = i + 1 := by unfold isTo; rw [if_pos ((isE_iff hi).2 h)]
    rw [ej]
    by_cases hm : i + 1 < s.length ∧ (at_ s (i + 1) : Int) = 45
    · have hm' : isAt s (i + 1) [45] = true := isC_iff.2 ⟨hm.1, by rw [e1]; exact hm.2⟩
      rw [if_pos hm', show isTo s (i + 1) [45] = i + 2 by unfold isTo; rw [if_pos hm']]
      exact powP_eq h he1 he2 (.inr rfl) (by unfold pSide; rw [if_pos h, if_pos hm]) (by unfold pFrom; rw [if_pos ⟨hm.1, .inr hm.2⟩])
    · have hm' : ¬ isAt s (i + 1) [45] = true := fun hh => hm (by have := isC_iff.1 hh; rw [e1] at this; exact this)
      rw [if_neg hm', show isTo s (i + 1) [45] = i + 1 by unfold isTo; rw [if_neg hm']]
      refine powP_eq h he1 he2 (.inl rfl) (by unfold pSide; rw [if_pos h, if_neg hm]) ?_
      unfold isTo pFrom
      by_cases hp : isAt s (i + 1) [43] = true
      · have := isC_iff.1 hp
        rw [e2] at this
        rw [if_pos hp, if_pos ⟨this.1, .inl this.2⟩]
      · rw [if_neg hp, if_neg]
        rintro ⟨q1, q2 | q2⟩
        · exact hp (isC_iff.2 ⟨q1, by rw [e2]; exact q2⟩)
        · exact hm ⟨q1, q2⟩
  · have h' : ¬ isAt s i [101, 69] = true := fun hh => h ((isE_iff hi).1 hh)
    rw [if_neg h', show isTo s i [101, 69] = i by unfold isTo; rw [if_neg h'], finP_eq he1 he2 (.inl rfl) rfl (.inr rfl)]
    have q1 : pEnd s i = i := by unfold pEnd; rw [if_neg h]
    have q2 : pSide s i = 0 := by unfold pSide; rw [if_neg h]
    have q3 : pTxt s i = [] := by unfold pTxt; rw [if_neg h]
    rw [q1, q2, q3]
    split
    · rfl
    · rw [if_neg (fun hh => hh.1 rfl)]

theorem readP_eq (s : List UInt8) (hs : s.length ≤ 100000) : readP s = readNum s := by
  have h1 := fromOf_le s
  have h2 := runTo_le h1
  have h3 := runTo_ge s (fromOf s)
  have hl := subS_len (i := fromOf s) h2
  have tail : ∀ {F : List UInt8} {e : Int} {i : Nat}, i = rAt s → F = rFigs s → e = rE s → tailW s F e (pSide s i) (pTxt s i) = tailNum s := by
    rintro F e i rfl rfl rfl; rfl
  unfold readP
  rw [hl]
  by_cases hA : runTo s (fromOf s) = fromOf s
  · rw [if_neg (by omega), if_pos (by omega)]
    unfold readNum
    rw [if_pos hA, hA]
  · have hz := subS_at (s := s) (show fromOf s < runTo s (fromOf s) by omega)
    rw [hz]
    by_cases hB : 1 < runTo s (fromOf s) - fromOf s ∧ at_ s (fromOf s) = 48
    · rw [if_pos hB]
      have ht : toOf s = fromOf s + 1 := by unfold toOf; rw [if_neg hA, if_pos (by omega)]
      have hfig : runTo s (fromOf s) = runTo s (fromOf s + 1) := by
        rw [runTo_step (by omega) (by omega) (by omega)]
      have hnext : fromOf s + 1 < s.length ∧ 48 ≤ at_ s (fromOf s + 1) ∧ at_ s (fromOf s + 1) ≤ 57 := by
        refine ⟨by omega, ?_⟩
        apply Classical.byContradiction
        intro hc
        have := runTo_stop (s := s) (i := fromOf s + 1) (by omega) (by omega)
        omega
      have hd : ¬ isDot s (toOf s) := by rw [ht]; unfold isDot; omega
      have ha : rAt s = fromOf s + 1 := by unfold rAt; rw [if_neg hd, ht]
      have hE : ¬ isE s (fromOf s + 1) := by unfold isE; omega
      have hp : pEnd s (rAt s) = fromOf s + 1 := by rw [ha]; unfold pEnd; rw [if_neg hE]
      unfold readNum
      rw [if_neg hA, if_neg (fun h => hd h.1), hp, if_pos hnext.1, wrap_i64 (by omega) (by omega)]
      simp
    · rw [if_neg hB, if_neg (by omega)]
      have ht : toOf s = runTo s (fromOf s) := by
        unfold toOf
        rw [if_neg hA]
        split
        · rename_i h48
          have : runTo s (fromOf s) = fromOf s + 1 := by omega
          omega
        · rfl
      by_cases hD : isDot s (toOf s)
      · have hD' : isAt s (runTo s (fromOf s)) [46] = true := isDot_iff.2 (by rw [← ht]; exact hD)
        have hto : isTo s (runTo s (fromOf s)) [46] = toOf s + 1 := by unfold isTo; rw [if_pos hD', ht]
        have hlt := hD.1
        have hq := runTo_le (s := s) (i := toOf s + 1) (by omega)
        have hq0 := runTo_ge s (toOf s + 1)
        rw [if_pos hD', hto, subS_len hq]
        unfold readNum
        rw [if_neg hA]
        by_cases h0 : runTo s (toOf s + 1) = toOf s + 1
        · rw [if_pos (by omega), if_pos ⟨hD, h0⟩]
        · rw [if_neg (by omega), if_neg (fun h => h0 h.2)]
          have ha : rAt s = runTo s (toOf s + 1) := by unfold rAt; rw [if_pos hD]
          rw [wrap_i64 (by omega) (by omega), expP_eq hq (by omega) (by omega), ← ha, tail rfl (by unfold rFigs subS; rw [if_pos hD, ← ht, ha]) (by unfold rE; rw [if_pos hD]; omega)]
      · have hD' : ¬ isAt s (runTo s (fromOf s)) [46] = true := fun h => hD (by rw [ht]; exact isDot_iff.1 h)
        have hto : isTo s (runTo s (fromOf s)) [46] = toOf s := by unfold isTo; rw [if_neg hD', ht]
        have ha : rAt s = toOf s := by unfold rAt; rw [if_neg hD]
        rw [if_neg hD', hto, expP_eq (by omega) (by omega) (by omega)]
        rw [← ha]
        unfold readNum
        rw [if_neg hA, if_neg (c := isDot s (toOf s) ∧ _) (fun h => hD h.1), tail rfl (by unfold rFigs subS; rw [if_neg hD, ht]) (by unfold rE; rw [if_neg hD])]
end Go.LX
/- Numbers, plain: what is made, printed and read. -/
set_option linter.unusedSimpArgs false
namespace Go.LX
open Go Go.Proofs

/-! ### Noughts -/
def Z (k : Nat) : List UInt8 := List.replicate k 48
theorem repeat_Z : ∀ k, Lib.repeatL [48] k = Z k
  | 0 => rfl
  | k + 1 => by
    have := repeat_Z k
    simp only [Lib.repeatL, Z, List.replicate_succ, List.singleton_append] at this ⊢
    rw [this]
theorem figures_Z (k : Nat) : figures (Z k) = true := by
  simp only [figures, Z, List.all_replicate]
  split
  · rfl
  · rfl
theorem Z_len (k : Nat) : (Z k).length = k := by simp [Z]
theorem stripL_Z (k : Nat) (s : List UInt8) : stripL (Z k ++ s) = stripL s := by
  induction k with
  | zero => rfl
  | succ k ih =>
    have : Z (k + 1) ++ s = 48 :: (Z k ++ s) := by simp [Z, List.replicate_succ]
    rw [this]
    have h2 : stripL (48 :: (Z k ++ s)) = stripL (Z k ++ s) := by simp [stripL]
    rw [h2, ih]
theorem stripR_rev (s : List UInt8) : stripR s = (stripL s.reverse).reverse := rfl
theorem Z_rev (k : Nat) : (Z k).reverse = Z k := by simp [Z]
theorem stripR_Z (k : Nat) (s : List UInt8) : stripR (s ++ Z k) = stripR s := by
  rw [stripR_rev, stripR_rev, List.reverse_append, Z_rev, stripL_Z]
theorem stripL_app (s t : List UInt8) (h : stripL s ≠ []) : stripL (s ++ t) = stripL s ++ t := by
  induction s with
  | nil => exact absurd rfl h
  | cons c s ih =>
    by_cases hc : c = 48
    · subst hc
      have e1 : stripL (48 :: s) = stripL s := by simp [stripL]
      have e2 : stripL (48 :: (s ++ t)) = stripL (s ++ t) := by simp [stripL]
      rw [List.cons_append, e2, e1]
      exact ih (by rw [← e1]; exact h)
    · have e1 : ∀ u : List UInt8, stripL (c :: u) = c :: u := fun u => by simp [stripL, List.dropWhile_cons, hc]
      rw [List.cons_append, e1, e1]; rfl
theorem stripL_nil_iff (s : List UInt8) (h : stripL s = []) : s = Z s.length := by
  induction s with
  | nil => rfl
  | cons c s ih =>
    by_cases hc : c = 48
    · subst hc
      have e1 : stripL (48 :: s) = stripL s := by simp [stripL]
      rw [e1] at h
      have := ih h
      conv => lhs; rw [this]
      simp [Z, List.replicate_succ]
    · have e1 : stripL (c :: s) = c :: s := by simp [stripL, List.dropWhile_cons, hc]
      rw [e1] at h; cases h
theorem stripL_zeros (k : Nat) : stripL (Z k) = [] := by
  have := stripL_Z k []
  rw [List.append_nil] at this
  rw [this]; rfl
theorem stripR_last {u : List UInt8} (h : 0 < (stripR u).length) : at_ (stripR u) ((stripR u).length - 1) ≠ 48 := by
  have h1 := stripL_head u.reverse (by rw [stripR_rev] at h; simpa using h)
  rw [stripR_rev]
  obtain ⟨c, l, hcl⟩ : ∃ c l, stripL u.reverse = c :: l := by
    cases hx : stripL u.reverse with
    | nil => rw [stripR_rev, hx] at h; simp at h
    | cons c l => exact ⟨c, l, rfl⟩
  rw [hcl] at h1 ⊢
  rw [at_cons] at h1
  rw [List.reverse_cons]
  have : (l.reverse ++ [c]).length - 1 = l.reverse.length := by simp
  rw [this, at_last]
  exact h1
theorem stripR_take (u : List UInt8) : ∃ k, stripR u = u.take k := by
  have h1 := List.takeWhile_append_dropWhile (p := fun x : UInt8 => x == 48) (l := u.reverse)
  have h2 : u = (stripL u.reverse).reverse ++ (u.reverse.takeWhile (fun x => x == 48)).reverse := by
    rw [← List.reverse_append]
    have : u.reverse.takeWhile (fun x => x == 48) ++ stripL u.reverse = u.reverse := h1
    rw [this, List.reverse_reverse]
  refine ⟨(stripR u).length, ?_⟩
  have h3 : u = stripR u ++ (u.reverse.takeWhile (fun x => x == 48)).reverse := h2
  have h4 : u.take (stripR u).length = (stripR u ++ (u.reverse.takeWhile (fun x => x == 48)).reverse).take (stripR u).length := by rw [← h3]
  rw [h4, List.take_left]
theorem figures_take' {l : List UInt8} (h : figures l = true) (k : Nat) : figures (l.take k) = true := figures_take h k
theorem stripR_figures {l : List UInt8} (h : figures l = true) : figures (stripR l) = true := by
  obtain ⟨k, hk⟩ := stripR_take l
  rw [hk]; exact figures_take h k

/-! ### Make -/
def zero : Node := { node0 with kind := 3 }
theorem right_zero : RightN zero := ⟨rfl, rfl, rfl, rfl, by decide, by decide, by decide, by decide, fun _ => ⟨rfl, rfl⟩, fun h => absurd h (by decide), fun h => absurd h (by decide)⟩
theorem make_zero {neg : Bool} {s : List UInt8} {e : Int} (hf : figures s = true) (h : stripL s = []) : make neg s e = (zero, 0) := by
  unfold make
  rw [if_neg (by simp [hf]), if_pos (by simp [h])]
  rfl
theorem make_some {neg : Bool} {s : List UInt8} {e : Int} (hf : figures s = true) (h : stripL s ≠ []) (he1 : -100000000 ≤ e) (he2 : e ≤ 100000000) :
    make neg s e = if 100 < ((stripR (stripL s)).length : Int) then (node0, 2) else if e + ((stripL s).length - (stripR (stripL s)).length) < -1000 then (node0, 2) else
      if 1000 < ((stripR (stripL s)).length : Int) + (e + ((stripL s).length - (stripR (stripL s)).length)) then (node0, 2) else ({ node0 with kind := 3, s := stripR (stripL s), neg := neg, e := e + ((stripL s).length - (stripR (stripL s)).length) }, 0) := by
  unfold make
  rw [if_neg (by simp [hf]), if_neg (by simpa using h), if_neg (by omega), if_neg (by omega)]
theorem make_more (neg : Bool) (s : List UInt8) (e : Int) (a b : Nat) (he1 : -50000000 ≤ e) (he2 : e ≤ 50000000) (hb : b ≤ 10000000) : make neg (Z a ++ (s ++ Z b)) (e - b) = make neg s e := by
  have hfig : figures (Z a ++ (s ++ Z b)) = figures s := by
    rw [Bool.eq_iff_iff, figures_append, figures_append]
    simp [figures_Z]
  by_cases hf : figures s = true
  · by_cases h : stripL s = []
    · have hs := stripL_nil_iff s h
      rw [make_zero hf h, make_zero (by rw [hfig]; exact hf)]
      rw [stripL_Z, hs]
      have : Z s.length ++ Z b = Z (s.length + b) := by simp [Z]
      rw [this, stripL_zeros]
    · have e1 : stripL (Z a ++ (s ++ Z b)) = stripL s ++ Z b := by rw [stripL_Z, stripL_app _ _ h]
      rw [make_some hf h (by omega) (by omega), make_some (by rw [hfig]; exact hf) (by rw [e1]; simp [h]) (by omega) (by omega), e1, stripR_Z, List.length_append, Z_len]
      have : e - (b : Int) + (((stripL s).length + b : Nat) - ((stripR (stripL s)).length : Int)) = e + ((stripL s).length - (stripR (stripL s)).length) := by omega
      rw [this]
  · unfold make
    rw [if_pos (by rw [hfig]; simpa using hf), if_pos (by simpa using hf)]
theorem make_right {neg : Bool} {s : List UInt8} {e : Int} (h : (make neg s e).2 = 0) : RightN (make neg s e).1 := by
  by_cases hf : figures s = true
  · by_cases hz : stripL s = []
    · rw [make_zero hf hz]; exact right_zero
    · have hl : 0 < (stripL s).length := List.length_pos_iff.2 hz
      unfold make at h ⊢
      rw [if_neg (by simp [hf]), if_neg (by omega)] at h ⊢
      split at h
      · cases h
      rename_i h1
      split at h
      · cases h
      rename_i h2
      simp only at h ⊢
      split at h
      · cases h
      rename_i h3
      split at h
      · cases h
      rename_i h4
      split at h
      · cases h
      rename_i h5
      rw [if_neg h1, if_neg h2, if_neg h3, if_neg h4, if_neg h5]
      have hh := stripL_head s hl
      have hp := stripR_pos _ _ rfl hl hh
      have hr := stripR_len (stripL s)
      refine ⟨rfl, rfl, rfl, stripR_figures (stripL_figures hf), by simp only; omega, by simp only; omega, by simp only; omega, by simp only; omega, fun h0 => by simp only at h0; omega, fun _ => ?_, fun _ => stripR_last hp⟩
      simp only
      obtain ⟨k, hk⟩ := stripR_take (stripL s)
      have : 0 < k := by
        rw [hk, List.length_take] at hp; omega
      rw [hk, at_take this]
      exact hh
  · unfold make at h
    rw [if_pos (by simpa using hf)] at h
    cases h
theorem make_err {neg : Bool} {s : List UInt8} {e : Int} (hf : figures s = true) (h : (make neg s e).2 ≠ 0) : make neg s e = (node0, 2) := by
  unfold make at h ⊢
  rw [if_neg (by simp [hf])] at h ⊢
  split at h
  · exact absurd rfl h
  rename_i h0
  rw [if_neg h0]
  split at h
  · rename_i h1; rw [if_pos h1]
  rename_i h1
  rw [if_neg h1]
  split at h
  · rename_i h2; rw [if_pos h2]
  rename_i h2
  rw [if_neg h2]
  simp only at h ⊢
  split at h
  · rename_i h3; rw [if_pos h3]
  rename_i h3
  rw [if_neg h3]
  split at h
  · rename_i h4; rw [if_pos h4]
  rename_i h4
  rw [if_neg h4]
  split at h
  · rename_i h5; rw [if_pos h5]
  · exact absurd rfl h
theorem make_of_right {n : Node} (h : RightN n) : make n.neg n.s n.e = (n, 0) := by
  obtain ⟨g1, g2, g3, g4, g5, g6, g7, g8, g9, g10, g11⟩ := h
  by_cases h0 : n.s.length = 0
  · have hs : n.s = [] := List.eq_nil_of_length_eq_zero h0
    rw [make_zero g4 (by rw [hs]; rfl)]
    obtain ⟨k1, k2⟩ := g9 h0
    obtain ⟨a, b, c, d, e, f⟩ := n
    simp only at *
    simp [zero, node0, *]
  · have e1 : stripL n.s = n.s := stripL_stop (g10 (by omega))
    have e2 : stripR n.s = n.s := stripR_stop (by omega) (g11 (by omega))
    rw [make_some g4 (by rw [e1]; exact fun h => h0 (by rw [h]; rfl)) (by omega) (by omega), e1, e2, if_neg (by omega), if_neg (by omega), if_neg (by omega)]
    have : n.e + ((n.s.length : Int) - n.s.length) = n.e := by omega
    rw [this]
    obtain ⟨a, b, c, d, e, f⟩ := n
    simp only at *
    simp [node0, *]
end Go.LX
/- Numbers, plain: what stands in a text is read. -/
set_option linter.unusedSimpArgs false
namespace Go.LX
open Go Go.Proofs

def headNot (r : List UInt8) : Prop := ∀ c r', r = c :: r' → isFig c = false
theorem runTo_app : ∀ (p a r : List UInt8), figures a = true → headNot r → runTo (p ++ (a ++ r)) p.length = p.length + a.length := by
  intro p a r ha hr
  unfold runTo
  rw [List.drop_left]
  congr 1
  induction a with
  | nil =>
    cases r with
    | nil => rfl
    | cons c r' => simp [List.takeWhile_cons, hr c r' rfl]
  | cons c a ih =>
    rw [figures_cons] at ha
    have : isFig c = true := by simp [isFig]; omega
    simp [List.takeWhile_cons, this, ih ha.2]
theorem at_app (p : List UInt8) (c : UInt8) (r : List UInt8) : at_ (p ++ c :: r) p.length = c.toNat := by
  simp [at_, List.getD_eq_getElem?_getD]
theorem drop_app (p r : List UInt8) : (p ++ r).drop p.length = r := List.drop_left

/-- A sign, whole figures, a part behind a point, a power. -/
theorem read_shape {g a d b x q : List UInt8} {sd : Int} (hg : g = [] ∨ g = [45]) (ha : figures a = true) (ha0 : 0 < a.length) (hh : at_ a 0 = 48 → a.length = 1)
    (hd : (d = [] ∧ b = []) ∨ (d = 46 :: b ∧ figures b = true ∧ 0 < b.length))
    (hx : (x = [] ∧ sd = 0 ∧ q = []) ∨ (figures q = true ∧ 0 < q.length ∧ ((x = 101 :: q ∧ sd = 1) ∨ (x = 101 :: 45 :: q ∧ sd = -1)))) :
    readNum (g ++ (a ++ (d ++ x))) = if 6 < ((stripL q).length : Int) then (node0, 0, 2) else
      ((make (g == [45]) (a ++ b) (-(b.length : Int) + sd * val (stripL q))).1, 0, (make (g == [45]) (a ++ b) (-(b.length : Int) + sd * val (stripL q))).2) := by
  obtain ⟨c0, a', rfl⟩ : ∃ c0 a', a = c0 :: a' := by
    cases a with
    | nil => simp at ha0
    | cons c l => exact ⟨c, l, rfl⟩
  have hc0 := (figures_cons.1 ha).1
  have f46 : isFig 46 = false := rfl
  have f101 : isFig 101 = false := rfl
  have hxh : headNot x := by
    rintro c r rfl
    rcases hx with ⟨h, _⟩ | ⟨_, _, ⟨h, _⟩ | ⟨h, _⟩⟩
    · cases h
    · cases h; exact f101
    · cases h; exact f101
  have hdx : headNot (d ++ x) := by
    rcases hd with ⟨rfl, _⟩ | ⟨rfl, _, _⟩
    · exact hxh
    · rintro c r h; cases h; exact f46
  generalize hW : g ++ (c0 :: a' ++ (d ++ x)) = W
  have hlen : W.length = g.length + (c0 :: a').length + d.length + x.length := by rw [← hW]; simp only [List.length_append]; omega
  have hat0 : at_ W 0 = if g = [] then c0.toNat else 45 := by
    rw [← hW]
    rcases hg with rfl | rfl
    · simp [at_]
    · simp [at_]
  have hfrom : fromOf W = g.length := by
    unfold fromOf
    rw [if_pos (by rw [hlen]; simp; omega), hat0]
    rcases hg with rfl | rfl
    · rw [if_pos rfl, if_neg (by omega)]; rfl
    · simp
  have hneg : ((at_ W 0 : Int) == 45) = (g == [45]) := by
    rw [hat0]
    rcases hg with rfl | rfl
    · rw [if_pos rfl]
      have : ¬ ((c0.toNat : Int) = 45) := by omega
      simp [this]
    · simp
  have hrun : runTo W g.length = g.length + (c0 :: a').length := by rw [← hW]; exact runTo_app g _ _ ha hdx
  have hatf : at_ W g.length = c0.toNat := by rw [← hW]; exact at_app g c0 _
  have hto : toOf W = g.length + (c0 :: a').length := by
    unfold toOf
    rw [hfrom, hrun, if_neg (by simp), hatf]
    split
    · rename_i h48
      have := hh (by rw [at_cons]; omega)
      rw [this]
    · rfl
  have hp1 : W = (g ++ c0 :: a') ++ (d ++ x) := by rw [← hW, List.append_assoc]
  have hpl : (g ++ c0 :: a').length = g.length + (c0 :: a').length := List.length_append
  have hfig0 : (W.drop (fromOf W)).take (toOf W - fromOf W) = c0 :: a' := by
    rw [hfrom, hto, Nat.add_sub_cancel_left, ← hW, drop_app, List.take_left]
  -- the power
  have pow : ∀ (p : List UInt8), W = p ++ x → pSide W p.length = sd ∧ pTxt W p.length = q ∧ pEnd W p.length = W.length ∧ (x = [] → ¬ isE W p.length) := by
    intro p hp
    have hWl : W.length = p.length + x.length := by rw [hp, List.length_append]
    rcases hx with ⟨rfl, rfl, rfl⟩ | ⟨hq, hq0, hx⟩
    · have hE : ¬ isE W p.length := by unfold isE; simp at hWl; omega
      unfold pSide pTxt pEnd
      rw [if_neg hE, if_neg hE, if_neg hE]
      exact ⟨rfl, rfl, by simp at hWl; omega, fun _ => hE⟩
    · have at1 : at_ W p.length = 101 := by
        rcases hx with ⟨rfl, _⟩ | ⟨rfl, _⟩ <;> (rw [hp]; exact at_app p 101 _)
      have hE : isE W p.length := ⟨by rcases hx with ⟨rfl, _⟩ | ⟨rfl, _⟩ <;> (simp at hWl; omega), by rw [at1]; exact .inl rfl⟩
      obtain ⟨d0, q', rfl⟩ : ∃ d0 q', q = d0 :: q' := by
        cases q with
        | nil => simp at hq0
        | cons c l => exact ⟨c, l, rfl⟩
      have hd0 := (figures_cons.1 hq).1
      have nil : headNot [] := by rintro c r h; cases h
      rcases hx with ⟨rfl, rfl⟩ | ⟨rfl, rfl⟩
      · have e1 : W = (p ++ [101]) ++ (d0 :: q' ++ []) := by rw [hp]; simp
        have e2 : (p ++ [101]).length = p.length + 1 := by simp
        have at2 : at_ W (p.length + 1) = d0.toNat := by rw [← e2, e1]; exact at_app _ d0 _
        have hF : pFrom W p.length = p.length + 1 := by unfold pFrom; rw [if_neg (by rw [at2]; omega)]
        have hR : runTo W (p.length + 1) = W.length := by
          have := runTo_app (p ++ [101]) (d0 :: q') [] hq nil
          rw [← e1, e2] at this
          rw [this, hWl]; simp; omega
        unfold pSide pTxt pEnd
        rw [if_pos hE, if_pos hE, if_pos hE, if_neg (by rw [at2]; omega), hF, hR]
        refine ⟨rfl, ?_, rfl, fun h => by cases h⟩
        rw [← e2]
        conv => lhs; rw [e1]
        rw [drop_app]
        rw [List.append_nil]
        exact List.take_of_length_le (by simp; omega)
      · have e1 : W = (p ++ [101, 45]) ++ (d0 :: q' ++ []) := by rw [hp]; simp
        have e2 : (p ++ [101, 45]).length = p.length + 2 := by simp
        have at2 : at_ W (p.length + 1) = 45 := by
          have h1 : W = (p ++ [101]) ++ 45 :: (d0 :: q') := by rw [hp]; simp
          have h2 : (p ++ [101]).length = p.length + 1 := by simp
          rw [← h2, h1]; exact at_app _ 45 _
        have hlt : p.length + 1 < W.length := by simp at hWl; omega
        have hF : pFrom W p.length = p.length + 2 := by unfold pFrom; rw [if_pos ⟨hlt, by rw [at2]; exact .inr rfl⟩]
        have hR : runTo W (p.length + 2) = W.length := by
          have := runTo_app (p ++ [101, 45]) (d0 :: q') [] hq nil
          rw [← e1, e2] at this
          rw [this, hWl]; simp; omega
        unfold pSide pTxt pEnd
        rw [if_pos hE, if_pos hE, if_pos hE, if_pos ⟨hlt, by rw [at2]; rfl⟩, hF, hR]
        refine ⟨rfl, ?_, rfl, fun h => by cases h⟩
        rw [← e2]
        conv => lhs; rw [e1]
        rw [drop_app]
        rw [List.append_nil]
        exact List.take_of_length_le (by simp; omega)
  have main : isDot W (toOf W) ∧ runTo W (toOf W + 1) = toOf W + 1 → False := by
    rintro ⟨h1, h2⟩
    rcases hd with ⟨rfl, rfl⟩ | ⟨rfl, hb, hb0⟩
    · unfold isDot at h1
      rw [hto] at h1
      rcases hx with ⟨rfl, _, _⟩ | ⟨_, _, ⟨rfl, _⟩ | ⟨rfl, _⟩⟩
      · simp only [List.length_nil] at hlen; omega
      · have := at_app (g ++ c0 :: a') 101 q
        rw [hpl] at this
        rw [hp1, List.nil_append, this] at h1
        exact absurd h1.2 (by decide)
      · have := at_app (g ++ c0 :: a') 101 (45 :: q)
        rw [hpl] at this
        rw [hp1, List.nil_append, this] at h1
        exact absurd h1.2 (by decide)
    · have e1 : W = (g ++ c0 :: a' ++ [46]) ++ (b ++ x) := by rw [hp1]; simp
      have e2 : (g ++ c0 :: a' ++ [46]).length = toOf W + 1 := by rw [hto]; simp; omega
      have := runTo_app (g ++ c0 :: a' ++ [46]) b x hb hxh
      rw [← e1, e2] at this
      omega
  have rest : rAt W = W.length - x.length ∧ rFigs W = (c0 :: a') ++ b ∧ rE W = -(b.length : Int) ∧ ∃ p, W = p ++ x ∧ p.length = W.length - x.length := by
    rcases hd with ⟨rfl, rfl⟩ | ⟨rfl, hb, hb0⟩
    · have hnd : ¬ isDot W (toOf W) := by
        intro h1
        have h2 := h1
        unfold isDot at h1
        rw [hto] at h1
        rcases hx with ⟨rfl, _, _⟩ | ⟨_, _, ⟨rfl, _⟩ | ⟨rfl, _⟩⟩
        · simp only [List.length_nil] at hlen; omega
        · have := at_app (g ++ c0 :: a') 101 q
          rw [hpl] at this
          rw [hp1, List.nil_append, this] at h1
          exact absurd h1.2 (by decide)
        · have := at_app (g ++ c0 :: a') 101 (45 :: q)
          rw [hpl] at this
          rw [hp1, List.nil_append, this] at h1
          exact absurd h1.2 (by decide)
      unfold rAt rFigs rE
      rw [if_neg hnd, if_neg hnd, if_neg hnd, hfig0, List.append_nil, hto]
      refine ⟨by simp only [List.length_nil] at hlen; omega, rfl, rfl, g ++ c0 :: a', by rw [hp1]; simp, by rw [hpl]; simp only [List.length_nil] at hlen; omega⟩
    · have hD : isDot W (toOf W) := by
        refine ⟨by rw [hto, hlen]; simp; omega, ?_⟩
        have : at_ W (g ++ c0 :: a').length = 46 := by rw [hp1]; exact at_app (g ++ c0 :: a') 46 (b ++ x)
        rw [hpl, ← hto] at this
        rw [this]; rfl
      have e1 : W = (g ++ c0 :: a' ++ [46]) ++ (b ++ x) := by rw [hp1]; simp
      have e2 : (g ++ c0 :: a' ++ [46]).length = toOf W + 1 := by rw [hto]; simp; omega
      have hR := runTo_app (g ++ c0 :: a' ++ [46]) b x hb hxh
      rw [← e1, e2] at hR
      have hdr : W.drop (toOf W + 1) = b ++ x := by
        rw [← e2]; conv => lhs; rw [e1]
        exact drop_app _ _
      unfold rAt rFigs rE
      rw [if_pos hD, if_pos hD, if_pos hD, hfig0, hR, hdr, Nat.add_sub_cancel_left, List.take_left]
      refine ⟨by rw [hto, hlen]; simp; omega, rfl, by omega, g ++ c0 :: a' ++ (46 :: b), by rw [hp1]; simp, by rw [hlen]; simp; omega⟩
  obtain ⟨r1, r2, r3, p, hp, hpl2⟩ := rest
  obtain ⟨k1, k2, k3, _⟩ := pow p hp
  rw [hpl2] at k1 k2 k3
  unfold readNum
  rw [hfrom, hrun, if_neg (by simp), if_neg main, r1, k1, k2, k3, if_neg (by omega), if_neg (fun h => by
    rcases hx with ⟨_, h0, _⟩ | ⟨_, h0, _⟩
    · exact h.1 h0
    · omega)]
  unfold tailNum
  rw [r1, r2, r3, k1, k2, hneg]
end Go.LX
/- Numbers, plain: the laws. -/
set_option linter.unusedSimpArgs false
namespace Go.LX
open Go Go.Proofs

/-! ### Decimal figures -/
theorem dec_ind {P : Nat → Prop} (h0 : ∀ m, m < 10 → P m) (h1 : ∀ m, ¬ m < 10 → P (m / 10) → P m) (m : Nat) : P m := by
  induction m using Nat.strongRecOn with
  | _ m ih =>
    by_cases h : m < 10
    · exact h0 m h
    · exact h1 m h (ih _ (by omega))
theorem dec_small {m : Nat} (h : m < 10) : Lib.decDigits m = [UInt8.ofNat (48 + m)] := by unfold Lib.decDigits; rw [dif_pos h]
theorem dec_big {m : Nat} (h : ¬ m < 10) : Lib.decDigits m = Lib.decDigits (m / 10) ++ [UInt8.ofNat (48 + m % 10)] := by conv => lhs; unfold Lib.decDigits; rw [dif_neg h]
theorem ofNat_dig {k : Nat} (h : k < 10) : (UInt8.ofNat (48 + k)).toNat = 48 + k := by
  rw [UInt8.toNat_ofNat']; omega
theorem dec_fig (m : Nat) : figures (Lib.decDigits m) = true := by
  induction m using dec_ind with
  | h0 m h => rw [dec_small h, figures_cons, ofNat_dig h]; exact ⟨by omega, rfl⟩
  | h1 m h ih => rw [dec_big h, figures_append, figures_cons, ofNat_dig (by omega)]; exact ⟨ih, by omega, rfl⟩
theorem dec_dig (m : Nat) : dig (Lib.decDigits m) = m := by
  induction m using dec_ind with
  | h0 m h => rw [dec_small h, dig_cons, ofNat_dig h]; simp [dig]
  | h1 m h ih =>
    rw [dec_big h, dig_append, ih, dig_cons, ofNat_dig (by omega)]
    simp only [List.length_cons, List.length_nil, dig, List.foldl_nil]
    omega
theorem dec_pos (m : Nat) : 0 < (Lib.decDigits m).length := by
  unfold Lib.decDigits; split <;> simp
theorem dec_head (m : Nat) (h : 0 < m) : at_ (Lib.decDigits m) 0 ≠ 48 := by
  induction m using dec_ind with
  | h0 m h' => rw [dec_small h', at_cons, ofNat_dig h']; omega
  | h1 m h' ih =>
    rw [dec_big h']
    have := ih (by omega)
    cases hd : Lib.decDigits (m / 10) with
    | nil => have := dec_pos (m / 10); rw [hd] at this; simp at this
    | cons c l => rw [hd] at this; rw [List.cons_append, at_cons]; rw [at_cons] at this; exact this
theorem dec_len (k : Nat) : ∀ m, m < 10 ^ (k + 1) → (Lib.decDigits m).length ≤ k + 1 := by
  induction k with
  | zero => intro m h; rw [dec_small (by omega)]; simp
  | succ k ih =>
    intro m h
    by_cases h0 : m < 10
    · rw [dec_small h0]; simp
    · rw [dec_big h0, List.length_append]
      have := ih (m / 10) (by rw [Nat.pow_succ] at h; omega)
      simp; omega
theorem dig_Z (k : Nat) : dig (Z k) = 0 := by
  induction k with
  | zero => rfl
  | succ k ih =>
    have : Z (k + 1) = 48 :: Z k := rfl
    rw [this, dig_cons, ih]; simp
theorem stripL_split (s : List UInt8) : ∃ k, s = Z k ++ stripL s := by
  induction s with
  | nil => exact ⟨0, rfl⟩
  | cons c s ih =>
    by_cases hc : c = 48
    · subst hc
      obtain ⟨k, hk⟩ := ih
      have e1 : stripL (48 :: s) = stripL s := by simp [stripL]
      rw [e1]
      refine ⟨k + 1, ?_⟩
      have e2 : Z (k + 1) = 48 :: Z k := rfl
      rw [e2, List.cons_append, ← hk]
    · exact ⟨0, by simp [stripL, List.dropWhile_cons, hc, Z]⟩
theorem dig_strip (s : List UInt8) : dig (stripL s) = dig s := by
  obtain ⟨k, hk⟩ := stripL_split s
  conv => rhs; rw [hk]
  rw [dig_append, dig_Z]; simp

/-! ### BACK -/
theorem sign_beq (n : Node) : (signOf n == [45]) = n.neg := by unfold signOf; cases n.neg <;> rfl
theorem sign_or (n : Node) : signOf n = [] ∨ signOf n = [45] := by unfold signOf; cases n.neg <;> simp
theorem fin0 {neg : Bool} {F : List UInt8} {e : Int} {n : Node} (h : make neg F e = (n, 0)) : (((make neg F e).1, (0 : Int), (make neg F e).2) : Node × Int × Int) = (n, 0, 0) := by rw [h]

theorem zero_of {n : Node} (h : RightN n) (h0 : n.s.length = 0) : n = zero := by
  have h1 := make_of_right h
  rw [make_zero h.figs (by rw [List.eq_nil_of_length_eq_zero h0]; rfl)] at h1
  exact (Prod.mk.inj h1).1.symm
theorem back_print {n : Node} (h : RightN n) : readNum (numPrint n) = (n, 0, 0) := by
  by_cases h0 : n.s.length = 0
  · have hz := zero_of h h0
    subst hz
    decide
  · have hlen := h.len
    have he1 := h.e1
    have he2 := h.e2
    have hpos : 0 < n.s.length := by omega
    have hh := h.head hpos
    unfold numPrint
    rw [if_neg h0]
    by_cases c1 : 0 ≤ n.e ∧ (n.s.length : Int) + n.e ≤ 20
    · rw [if_pos c1, repeat_Z]
      have e1 : signOf n ++ n.s ++ Z n.e.toNat = signOf n ++ ((n.s ++ Z n.e.toNat) ++ ([] ++ [])) := by simp
      rw [e1, read_shape (b := []) (q := []) (sd := 0) (sign_or n) (figures_append.2 ⟨h.figs, figures_Z _⟩) (by simp; omega) (fun hc => by
        exfalso
        obtain ⟨c, l, hcl⟩ : ∃ c l, n.s = c :: l := by
          cases hs : n.s with
          | nil => rw [hs] at hpos; simp at hpos
          | cons c l => exact ⟨c, l, rfl⟩
        rw [hcl, at_cons] at hh
        rw [hcl, List.cons_append, at_cons] at hc
        exact hh hc) (.inl ⟨rfl, rfl⟩) (.inl ⟨rfl, rfl, rfl⟩), if_neg (by simp [stripL]), sign_beq]
      refine fin0 ?_
      have := make_more n.neg n.s n.e 0 n.e.toNat (by omega) (by omega) (by omega)
      rw [make_of_right h] at this
      rw [← this]
      congr 1
      · simp [Z]
      · simp [val]; omega
    · rw [if_neg c1]
      by_cases c2 : n.e < 0 ∧ -20 ≤ n.e
      · rw [if_pos c2, repeat_Z]
        generalize hp : (1 - n.e - (n.s.length : Int)).toNat = pad
        generalize ht : Z pad ++ n.s = t
        have hL : t.length = pad + n.s.length := by rw [← ht]; simp [Z_len]
        generalize hpt : ((t.length : Int) + n.e).toNat = pt
        have hft : figures t = true := by rw [← ht]; exact figures_append.2 ⟨figures_Z _, h.figs⟩
        have hsplit := List.take_append_drop pt t
        have hfa : figures (t.take pt) = true := figures_take hft _
        have hfb : figures (t.drop pt) = true := by rw [← hsplit] at hft; exact (figures_append.1 hft).2
        have e1 : signOf n ++ t.take pt ++ [46] ++ t.drop pt = signOf n ++ (t.take pt ++ ((46 :: t.drop pt) ++ [])) := by simp
        rw [e1, read_shape (b := t.drop pt) (q := []) (sd := 0) (sign_or n) hfa (by rw [List.length_take]; omega) (fun hc => by
          by_cases hp0 : pad = 0
          · exfalso
            subst hp0
            have : t = n.s := by rw [← ht]; rfl
            rw [this, at_take (by omega)] at hc
            exact hh hc
          · rw [List.length_take]; omega) (.inr ⟨rfl, hfb, by rw [List.length_drop]; omega⟩) (.inl ⟨rfl, rfl, rfl⟩), if_neg (by simp [stripL]), sign_beq, hsplit]
        refine fin0 ?_
        have := make_more n.neg n.s n.e pad 0 (by omega) (by omega) (by omega)
        rw [make_of_right h] at this
        rw [← this]
        congr 1
        · rw [← ht]; simp [Z]
        · simp [val]; omega
      · rw [if_neg c2]
        have big : ∀ (m : Nat), m ≤ 1000 → (stripL (Lib.decDigits m)).length ≤ 6 := fun m hm => by
          have := dec_len 5 m (by omega)
          have := stripL_len (Lib.decDigits m)
          omega
        have hval : ∀ m, val (stripL (Lib.decDigits m)) = (m : Int) := fun m => by rw [val_dig _ (stripL_figures (dec_fig m)), dig_strip, dec_dig]
        unfold Lib.itoa
        split
        · rename_i hneg
          have e1 : signOf n ++ n.s ++ [101] ++ (45 :: Lib.decDigits n.e.natAbs) = signOf n ++ (n.s ++ ([] ++ (101 :: 45 :: Lib.decDigits n.e.natAbs))) := by simp
          rw [e1, read_shape (b := []) (q := Lib.decDigits n.e.natAbs) (sd := -1) (sign_or n) h.figs hpos (fun hc => absurd hc hh) (.inl ⟨rfl, rfl⟩) (.inr ⟨dec_fig _, dec_pos _, .inr ⟨rfl, rfl⟩⟩), if_neg (by have := big n.e.natAbs (by omega); omega), sign_beq, hval]
          refine fin0 ?_
          rw [List.append_nil, show -(([] : List UInt8).length : Int) + -1 * (n.e.natAbs : Int) = n.e by simp; omega]
          exact make_of_right h
        · rename_i hneg
          have e1 : signOf n ++ n.s ++ [101] ++ Lib.decDigits n.e.toNat = signOf n ++ (n.s ++ ([] ++ (101 :: Lib.decDigits n.e.toNat))) := by simp
          rw [e1, read_shape (b := []) (q := Lib.decDigits n.e.toNat) (sd := 1) (sign_or n) h.figs hpos (fun hc => absurd hc hh) (.inl ⟨rfl, rfl⟩) (.inr ⟨dec_fig _, dec_pos _, .inl ⟨rfl, rfl⟩⟩), if_neg (by have := big n.e.toNat (by omega); omega), sign_beq, hval]
          refine fin0 ?_
          rw [List.append_nil, show -(([] : List UInt8).length : Int) + 1 * (n.e.toNat : Int) = n.e by simp; omega]
          exact make_of_right h

theorem fromOf_toOf0 (s : List UInt8) : toOf s ≤ runTo s (fromOf s) := by
  have := runTo_ge s (fromOf s)
  unfold toOf
  split
  · omega
  · split <;> omega
theorem rFigs_fig (s : List UInt8) : figures (rFigs s) = true := by
  have h0 := fromOf_toOf0 s
  have hr := runTo_figures s (fromOf s)
  have hpre : figures ((s.drop (fromOf s)).take (toOf s - fromOf s)) = true := by
    have : (s.drop (fromOf s)).take (toOf s - fromOf s) = ((s.drop (fromOf s)).take (runTo s (fromOf s) - fromOf s)).take (toOf s - fromOf s) := by
      rw [List.take_take]; congr 1; omega
    rw [this]; exact figures_take hr _
  unfold rFigs
  split
  · exact figures_append.2 ⟨hpre, runTo_figures _ _⟩
  · exact hpre
theorem read_fails (s : List UInt8) (h : (readNum s).2.2 ≠ 0) : (readNum s).1 = node0 ∧ ((readNum s).2.2 = 1 ∨ (readNum s).2.2 = 2) := by
  unfold readNum tailNum at h ⊢
  split
  · exact ⟨rfl, .inl rfl⟩
  rename_i h1
  rw [if_neg h1] at h
  split
  · exact ⟨rfl, .inl rfl⟩
  rename_i h2
  rw [if_neg h2] at h
  split
  · exact ⟨rfl, .inl rfl⟩
  rename_i h3
  rw [if_neg h3] at h
  split
  · exact ⟨rfl, .inl rfl⟩
  rename_i h4
  rw [if_neg h4] at h
  split
  · exact ⟨rfl, .inr rfl⟩
  rename_i h5
  rw [if_neg h5] at h
  simp only at h ⊢
  rw [make_err (rFigs_fig s) h]
  exact ⟨rfl, .inr rfl⟩
theorem read_right (s : List UInt8) (h : (readNum s).2.2 = 0) : RightN (readNum s).1 := by
  unfold readNum tailNum at h ⊢
  split
  · rename_i h1; rw [if_pos h1] at h; cases h
  rename_i h1
  rw [if_neg h1] at h
  split
  · rename_i h1; rw [if_pos h1] at h; cases h
  rename_i h2
  rw [if_neg h2] at h
  split
  · rename_i h1; rw [if_pos h1] at h; cases h
  rename_i h3
  rw [if_neg h3] at h
  split
  · rename_i h1; rw [if_pos h1] at h; cases h
  rename_i h4
  rw [if_neg h4] at h
  split
  · rename_i h1; rw [if_pos h1] at h; cases h
  rename_i h5
  rw [if_neg h5] at h
  exact make_right h

/-! ### MANY -/
theorem read_plain {s : List UInt8} (hf : figures s = true) (h0 : 0 < s.length) (hr : (readNum s).2.2 = 0) : readNum s = ((make false s 0).1, 0, (make false s 0).2) := by
  have nil : headNot [] := by rintro c r h; cases h
  by_cases hh : at_ s 0 = 48 → s.length = 1
  · have := read_shape (g := []) (a := s) (d := []) (b := []) (x := []) (q := []) (sd := 0) (.inl rfl) hf h0 hh (.inl ⟨rfl, rfl⟩) (.inl ⟨rfl, rfl, rfl⟩)
    simp only [List.nil_append, List.append_nil] at this
    rw [this, if_neg (by simp [stripL])]
    simp [val]
  · exfalso
    have h48 : at_ s 0 = 48 := Classical.byContradiction fun hc => hh fun h => absurd h hc
    have hl : 1 < s.length := by
      have : s.length ≠ 1 := fun h => hh fun _ => h
      omega
    have hrun : runTo s 0 = s.length := by
      have := runTo_app [] s [] hf nil
      simpa using this
    have hfrom : fromOf s = 0 := by unfold fromOf; rw [if_pos h0, if_neg (by omega)]
    have hto : toOf s = 1 := by unfold toOf; rw [hfrom, hrun, if_neg (by omega), if_pos (by omega)]
    have h1 := fig_range hf hl
    have hd : ¬ isDot s 1 := by unfold isDot; omega
    have hE : ¬ isE s 1 := by unfold isE; omega
    have ha : rAt s = 1 := by unfold rAt; rw [hto, if_neg hd]
    unfold readNum at hr
    rw [hfrom, hrun, if_neg (by omega), hto, if_neg (fun h => hd h.1), ha, show pEnd s 1 = 1 by unfold pEnd; rw [if_neg hE], if_pos hl] at hr
    cases hr

/-! ### INTS -/
def pw (k : Nat) : Nat := 10 ^ k
theorem pw_pos (k : Nat) : 0 < pw k := Nat.pow_pos (by decide)
theorem pw_add (k m : Nat) : (10 : Nat) ^ (k + m) = 10 ^ k * pw m := Nat.pow_add 10 k m
def tenK : Nat := pw 1000
theorem tenK_pos : 0 < tenK := pw_pos _
theorem tenK_eq (k : Nat) : (10 : Nat) ^ (k + 1000) = 10 ^ k * tenK := pw_add k _
theorem make_dec (neg : Bool) (m : Nat) (hm : m < 10 ^ 10) (hn : neg = true → 0 < m) :
    ∃ x, make neg (Lib.decDigits m) 0 = (x, 0) ∧ RightN x ∧ numPrint x = (if neg = true then [45] else []) ++ Lib.decDigits m ∧ sv x = (if neg = true then -(m : Int) else m) * tenK := by
  by_cases h0 : m = 0
  · subst h0
    have hneg : neg = false := by cases neg with
      | false => rfl
      | true => exact absurd (hn rfl) (by omega)
    subst hneg
    refine ⟨zero, make_zero (dec_fig 0) ?_, right_zero, ?_, ?_⟩
    · rw [dec_small (by omega)]; rfl
    · rw [dec_small (by omega)]; rfl
    · have h0 : mag zero = 0 := mag_zero rfl
      have h1 : zero.neg = false := rfl
      unfold sv
      rw [h0, h1]
      simp
  · have hh := dec_head m (by omega)
    have e1 : stripL (Lib.decDigits m) = Lib.decDigits m := stripL_stop hh
    have hl := dec_len 9 m hm
    have hp := dec_pos m
    have hr := stripR_len (Lib.decDigits m)
    have hrp := stripR_pos _ _ rfl hp hh
    have hmk := make_some (neg := neg) (s := Lib.decDigits m) (e := 0) (dec_fig m) (by rw [e1]; exact fun h => by rw [h] at hp; simp at hp) (by omega) (by omega)
    rw [e1, if_neg (by omega), if_neg (by omega), if_neg (by omega)] at hmk
    have hR : RightN (make neg (Lib.decDigits m) 0).1 := make_right (by rw [hmk])
    obtain ⟨k, hk⟩ : ∃ k, Lib.decDigits m = stripR (Lib.decDigits m) ++ Z k := by
      obtain ⟨k, hk⟩ := stripL_split (Lib.decDigits m).reverse
      refine ⟨k, ?_⟩
      rw [stripR_rev]
      have := congrArg List.reverse hk
      rw [List.reverse_reverse, List.reverse_append, Z_rev] at this
      exact this
    have hkl : (Lib.decDigits m).length = (stripR (Lib.decDigits m)).length + k := by
      have := congrArg List.length hk
      rw [List.length_append, Z_len] at this
      exact this
    refine ⟨_, hmk, by rw [hmk] at hR; exact hR, ?_, ?_⟩
    · unfold numPrint
      simp only
      rw [if_neg (by omega), if_pos (by omega), repeat_Z]
      unfold signOf
      simp only
      rw [List.append_assoc]
      congr 1
      conv => rhs; rw [hk]
      congr 2
      omega
    · have hmag : mag { node0 with kind := 3, s := stripR (Lib.decDigits m), neg := neg, e := 0 + ((Lib.decDigits m).length - (stripR (Lib.decDigits m)).length) } = m * tenK := by
        unfold mag
        simp only
        have hd := dec_dig m
        rw [hk, dig_append, dig_Z, Z_len, Nat.add_zero] at hd
        have e : ((0 : Int) + ((Lib.decDigits m).length - (stripR (Lib.decDigits m)).length) + 1000).toNat = k + 1000 := by omega
        rw [e, tenK_eq, ← Nat.mul_assoc, hd]
      unfold sv
      rw [hmag]
      simp only
      generalize tenK = C
      cases neg <;> simp [Int.neg_mul]
end Go.LX
