/- Runes and their bytes, there and back. -/
import Derived.Test.YteiencnfglbnkaaDoorLxQOne
import Derived.Test.YteiencnfglbnkaaDoorLxBytes
import Derived.Lib.TrimU
set_option linter.unusedSimpArgs false
set_option linter.unusedVariables false
set_option linter.unusedSectionVars false
set_option linter.unnecessarySimpa false
set_option linter.unusedSimpArgs false
namespace Go.LX
open Go

theorem at_drop (s : List UInt8) (i k : Nat) : at_ (s.drop i) k = at_ s (i + k) := by
  simp [at_, List.getD_eq_getElem?_getD]
theorem at_app_left {a b : List UInt8} {k : Nat} (h : k < a.length) : at_ (a ++ b) k = at_ a k := by
  simp [at_, List.getD_eq_getElem?_getD, List.getElem?_append_left h]
theorem at_app_right {a b : List UInt8} {k : Nat} (h : a.length ≤ k) : at_ (a ++ b) k = at_ b (k - a.length) := by
  simp [at_, List.getD_eq_getElem?_getD, List.getElem?_append_right h]
theorem at_cons0 (c : UInt8) (s : List UInt8) : at_ (c :: s) 0 = c.toNat := rfl
theorem at_consS (c : UInt8) (s : List UInt8) (k : Nat) : at_ (c :: s) (k + 1) = at_ s k := rfl
theorem at_out {s : List UInt8} {k : Nat} (h : s.length ≤ k) : at_ s k = 0 := by
  simp [at_, List.getD_eq_getElem?_getD, List.getElem?_eq_none h]
theorem ct_drop (s : List UInt8) (i k : Nat) : ct (s.drop i) k = ct s (i + k) := by
  have : decide (k < (s.drop i).length) = decide (i + k < s.length) := by rw [List.length_drop]; congr 1; apply propext; omega
  simp only [ct, at_drop, this]
theorem rlen_drop (s : List UInt8) (i k : Nat) : rlen (s.drop i) k = rlen s (i + k) := by
  simp only [rlen, at_drop, ct_drop, ← Nat.add_assoc]
theorem code_drop (s : List UInt8) (i k : Nat) : code (s.drop i) k = code s (i + k) := by
  simp only [code, at_drop, ← Nat.add_assoc]
theorem dec_drop (s : List UInt8) (i k : Nat) : dec (s.drop i) k = dec s (i + k) := by
  simp only [dec_rlen, rlen_drop, code_drop]
theorem rlen_le (s : List UInt8) (i : Nat) (h : i < s.length) : i + rlen s i ≤ s.length := by
  unfold rlen
  simp only [ct_iff]
  repeat' split
  all_goals omega
theorem rlen_le4 (s : List UInt8) (i : Nat) : rlen s i ≤ 4 := by
  unfold rlen
  repeat' split
  all_goals omega
theorem u8of_at (s : List UInt8) (k : Nat) : u8of (at_ s k) = s.getD k 0 := by
  apply UInt8.toNat_inj.1
  have := at_lt s k
  have h := u8of_toNat (c := (at_ s k : Int)) (by omega) (by omega)
  simp only [at_] at h ⊢
  omega
theorem take_getD {s : List UInt8} {i : Nat} (n : Nat) (h : i + n ≤ s.length) : (s.drop i).take n = (List.range n).map fun k => s.getD (i + k) 0 := by
  apply List.ext_getElem?
  intro j
  rw [List.getElem?_take, List.getElem?_map]
  by_cases hj : j < n
  · have hl : i + j < s.length := by omega
    simp [hj, hl]
  · simp [hj]
theorem rlen_cases (s : List UInt8) (i : Nat) : rlen s i = 0 ∨ (rlen s i = 1 ∧ at_ s i < 128) ∨
    (rlen s i = 2 ∧ 194 ≤ at_ s i ∧ at_ s i < 224 ∧ at_ s (i + 1) / 64 = 2) ∨
    (rlen s i = 3 ∧ 224 ≤ at_ s i ∧ at_ s i < 240 ∧ at_ s (i + 1) / 64 = 2 ∧ at_ s (i + 2) / 64 = 2 ∧ ¬ (at_ s i = 224 ∧ at_ s (i + 1) < 160) ∧ ¬ (at_ s i = 237 ∧ 160 ≤ at_ s (i + 1))) ∨
    (rlen s i = 4 ∧ 240 ≤ at_ s i ∧ at_ s i < 245 ∧ at_ s (i + 1) / 64 = 2 ∧ at_ s (i + 2) / 64 = 2 ∧ at_ s (i + 3) / 64 = 2 ∧ ¬ (at_ s i = 240 ∧ at_ s (i + 1) < 144) ∧ ¬ (at_ s i = 244 ∧ 144 ≤ at_ s (i + 1))) := by
  unfold rlen
  simp only [ct_iff]
  repeat' split
  all_goals omega
theorem utf_code {s : List UInt8} {i : Nat} (h : rlen s i ≠ 0) (hi : i < s.length) : utf (code s i) = (s.drop i).take (rlen s i) := by
  have hle := rlen_le s i hi
  have h0 := at_lt s i
  have h1 := at_lt s (i + 1)
  have h2 := at_lt s (i + 2)
  have h3 := at_lt s (i + 3)
  rw [take_getD _ hle]
  rcases rlen_cases s i with e | ⟨e, g1⟩ | ⟨e, g1, g2, g3⟩ | ⟨e, g1, g2, g3, g4, g5, g6⟩ | ⟨e, g1, g2, g3, g4, g5, g6, g7⟩
  · exact absurd e h
  · have ec : code s i = at_ s i := by unfold code; rw [if_pos g1]
    rw [e, ec, utf, utfC_1 (by omega)]
    simp [List.range_succ, u8of_at]
  · have ec : code s i = at_ s i % 32 * 64 + at_ s (i + 1) % 64 := by unfold code; rw [if_neg (by omega), if_pos (by omega)]
    have l : utfC (code s i) = [(at_ s i : Int), (at_ s (i + 1) : Int)] := by
      rw [utfC_2 (by rw [ec]; omega), ec]
      congr 1
      · omega
      · congr 1; omega
    rw [e, utf, l]
    simp [List.range_succ, u8of_at]
  · have ec : code s i = at_ s i % 16 * 4096 + at_ s (i + 1) % 64 * 64 + at_ s (i + 2) % 64 := by unfold code; rw [if_neg (by omega), if_neg (by omega), if_pos (by omega)]
    have l : utfC (code s i) = [(at_ s i : Int), (at_ s (i + 1) : Int), (at_ s (i + 2) : Int)] := by
      rw [utfC_3 (by rw [ec]; omega), ec]
      congr 1
      · omega
      · congr 1
        · omega
        · congr 1; omega
    rw [e, utf, l]
    simp [List.range_succ, u8of_at]
  · have ec : code s i = at_ s i % 8 * 262144 + at_ s (i + 1) % 64 * 4096 + at_ s (i + 2) % 64 * 64 + at_ s (i + 3) % 64 := by unfold code; rw [if_neg (by omega), if_neg (by omega), if_neg (by omega)]
    have l : utfC (code s i) = [(at_ s i : Int), (at_ s (i + 1) : Int), (at_ s (i + 2) : Int), (at_ s (i + 3) : Int)] := by
      rw [utfC_4 (by rw [ec]; omega), ec]
      congr 1
      · omega
      · congr 1
        · omega
        · congr 1
          · omega
          · congr 1; omega
    rw [e, utf, l]
    simp [List.range_succ, u8of_at]
/-- A rune: a number that is no half of a pair. -/
def isRune (r : Int) : Prop := (0 ≤ r ∧ r < 55296) ∨ (57344 ≤ r ∧ r ≤ 1114111)
theorem code_isRune {s : List UInt8} {i : Nat} (h : rlen s i ≠ 0) : isRune (code s i) := by
  have h0 := at_lt s i
  unfold isRune
  rcases rlen_cases s i with e | ⟨e, g1⟩ | ⟨e, g1, g2, g3⟩ | ⟨e, g1, g2, g3, g4, g5, g6⟩ | ⟨e, g1, g2, g3, g4, g5, g6, g7⟩
  · exact absurd e h
  · have ec : code s i = at_ s i := by unfold code; rw [if_pos g1]
    omega
  · have ec : code s i = at_ s i % 32 * 64 + at_ s (i + 1) % 64 := by unfold code; rw [if_neg (by omega), if_pos (by omega)]
    omega
  · have ec : code s i = at_ s i % 16 * 4096 + at_ s (i + 1) % 64 * 64 + at_ s (i + 2) % 64 := by unfold code; rw [if_neg (by omega), if_neg (by omega), if_pos (by omega)]
    omega
  · have ec : code s i = at_ s i % 8 * 262144 + at_ s (i + 1) % 64 * 4096 + at_ s (i + 2) % 64 * 64 + at_ s (i + 3) % 64 := by unfold code; rw [if_neg (by omega), if_neg (by omega), if_neg (by omega)]
    omega
/-- A rune that is written is read as it was. -/
theorem rlen_utf {r : Int} (h : isRune r) (t : List UInt8) : rlen (utf r ++ t) 0 = (utf r).length ∧ (code (utf r ++ t) 0 : Int) = r := by
  unfold isRune at h
  by_cases c1 : r < 128
  · have e := utfC_1 (r := r) (by omega)
    have a0 := u8of_toNat (c := r) (by omega) (by omega)
    simp only [utf, e, List.map_cons, List.map_nil, List.cons_append, List.nil_append, List.length_cons, List.length_nil]
    have e0 : at_ (u8of r :: t) 0 = (u8of r).toNat := rfl
    unfold rlen code
    rw [if_pos (by rw [e0]; omega), if_pos (by rw [e0]; omega), e0]
    exact ⟨rfl, a0⟩
  by_cases c2 : r < 2048
  · have e := utfC_2 (r := r) (by omega)
    have a0 := u8of_toNat (c := 192 + r / 64) (by omega) (by omega)
    have a1 := u8of_toNat (c := 128 + r % 64) (by omega) (by omega)
    simp only [utf, e, List.map_cons, List.map_nil, List.cons_append, List.nil_append, List.length_cons, List.length_nil]
    generalize hs : u8of (192 + r / 64) :: u8of (128 + r % 64) :: t = s
    have e0 : at_ s 0 = (u8of (192 + r / 64)).toNat := by rw [← hs]; rfl
    have e1 : at_ s 1 = (u8of (128 + r % 64)).toNat := by rw [← hs]; rfl
    have hl : 1 < s.length := by rw [← hs]; simp
    unfold rlen code
    simp only [ct_iff, Nat.zero_add]
    rw [if_neg (by omega), if_pos (by omega), if_neg (by omega), if_pos (by omega)]
    exact ⟨rfl, by omega⟩
  by_cases c3 : r < 65536
  · have e := utfC_3 (r := r) (by omega)
    have a0 := u8of_toNat (c := 224 + r / 4096) (by omega) (by omega)
    have a1 := u8of_toNat (c := 128 + r / 64 % 64) (by omega) (by omega)
    have a2 := u8of_toNat (c := 128 + r % 64) (by omega) (by omega)
    simp only [utf, e, List.map_cons, List.map_nil, List.cons_append, List.nil_append, List.length_cons, List.length_nil]
    generalize hs : u8of (224 + r / 4096) :: u8of (128 + r / 64 % 64) :: u8of (128 + r % 64) :: t = s
    have e0 : at_ s 0 = (u8of (224 + r / 4096)).toNat := by rw [← hs]; rfl
    have e1 : at_ s 1 = (u8of (128 + r / 64 % 64)).toNat := by rw [← hs]; rfl
    have e2 : at_ s 2 = (u8of (128 + r % 64)).toNat := by rw [← hs]; rfl
    have hl : 2 < s.length := by rw [← hs]; simp
    unfold rlen code
    simp only [ct_iff, Nat.zero_add]
    rw [if_neg (by omega), if_neg (by omega), if_pos (by omega), if_neg (by omega), if_neg (by omega), if_neg (by omega), if_pos (by omega)]
    exact ⟨rfl, by omega⟩
  · have e := utfC_4 (r := r) (by omega)
    have a0 := u8of_toNat (c := 240 + r / 262144) (by omega) (by omega)
    have a1 := u8of_toNat (c := 128 + r / 4096 % 64) (by omega) (by omega)
    have a2 := u8of_toNat (c := 128 + r / 64 % 64) (by omega) (by omega)
    have a3 := u8of_toNat (c := 128 + r % 64) (by omega) (by omega)
    simp only [utf, e, List.map_cons, List.map_nil, List.cons_append, List.nil_append, List.length_cons, List.length_nil]
    generalize hs : u8of (240 + r / 262144) :: u8of (128 + r / 4096 % 64) :: u8of (128 + r / 64 % 64) :: u8of (128 + r % 64) :: t = s
    have e0 : at_ s 0 = (u8of (240 + r / 262144)).toNat := by rw [← hs]; rfl
    have e1 : at_ s 1 = (u8of (128 + r / 4096 % 64)).toNat := by rw [← hs]; rfl
    have e2 : at_ s 2 = (u8of (128 + r / 64 % 64)).toNat := by rw [← hs]; rfl
    have e3 : at_ s 3 = (u8of (128 + r % 64)).toNat := by rw [← hs]; rfl
    have hl : 3 < s.length := by rw [← hs]; simp
    unfold rlen code
    simp only [ct_iff, Nat.zero_add]
    rw [if_neg (by omega), if_neg (by omega), if_neg (by omega), if_pos (by omega), if_neg (by omega), if_neg (by omega), if_neg (by omega), if_neg (by omega)]
    exact ⟨rfl, by omega⟩
end Go.LX
/- Of the library, on strings. -/
set_option linter.unusedSimpArgs false
set_option maxRecDepth 100000
set_option maxHeartbeats 2000000
namespace Go.LX
open Go Go.RowKit Go.Proofs
attribute [local irreducible] LCalls SWP lqcall

theorem d_toError (fn s : List UInt8) (b c : Int) (hs : s.length ≤ 1000000) : Det cx 96 [.p (.str fn), .p (.str s), .p (.int .i64 b), .p (.int .i64 c), .p (.ifi 143 .i64 2)] [] (.p .ifc) [] := by
  refine Det.of_belowE (enters_of Tryd.func96 (by kernel_rfl) rfl) fun β Im w vs hg hf => ?_
  have hl : vs.length = 5 := by simpa using hf.size
  match vs, hl with
  | [v1, v2, v3, v4, v5], _ =>
    have e1 := rep_str (hf.tmps 0 _ rfl)
    have e2 := rep_str (hf.tmps 1 _ rfl)
    have e3 := rep_int (hf.tmps 2 _ rfl)
    have e4 := rep_int (hf.tmps 3 _ rfl)
    have e5 := rep_ifi (hf.tmps 4 _ rfl)
    simp [Array.getD] at e1 e2 e3 e4 e5
    subst e1 e2 e3 e4 e5
    obtain ⟨te, pe, he⟩ := (cx_G hg).syn
    exact (Tryd.strconv_toError_syntax ⟨⟨fn⟩⟩ ⟨⟨s⟩⟩ b c _ w (Nat.le_trans hs (by decide)) he (.inr ⟨te, pe, rfl⟩)).mono fun e w' ⟨N, he, _, _, hb⟩ => ⟨⟨_, he, fun _ _ _ => .ifc _ _⟩, hb⟩
def numRes2 (o : Option Nat) : L := match o with
  | some n => .tup [.int .u64 n, .nifc]
  | none => .tup [.int .u64 0, .ifc]
theorem d_ParseUint (s : List UInt8) (hs : s.length = 4) : Det cx 82 [.p (.str s), .p (.int .i64 16), .p (.int .i64 16)] [] (numRes2 (hexN s 0)) [] := by
  cases h : hexN s 0 with
  | some n =>
    have hc := d_ParseUint_in s hs
    rw [h] at hc
    simp only [numRes] at hc
    (refine LCalls.of_code (X := cx) false [] (by simp) Tryd.func82 (by kernel_rfl) rfl (by simp only [List.length_cons, List.length_nil, Tryd.ntmps82]; decide) (by simp) ?_; refine lwp_sound hm _ _ _ ?_; simp only [Tryd.ntmps82, Tryd.results82, e_region, e_seq, k_seq_normal, o_nil, o_cons, k_put, s_tmp, s_const, s_func, v_int, v_nifc, p_move, p_assign, p_call, u_frz_nil, u_frz_cons, u_frz_p, u_call, u_callT, u_callK0, u_callF, u_callA, u_callR_nil, u_m_p, u_argIds, u_dedup_nil, u_canon_nil, u_id_p, slots_set, slots_get, argW, List.map_cons, List.map_nil, List.append_nil, List.flatMap_cons, List.flatMap_nil, Nat.reduceLT, Nat.reduceEqDiff, Nat.reduceAdd, cx_P, cx_kind, ↓reduceIte, reduceCtorEq, Nat.zero_add])
    (repeat' (first | (refine iteI (fun h => ?_) (fun h => ?_)) | (refine ex_get (by first | omega | (simp (disch := omega) only [wrap_i64, wrap_u8, nil_len] at *; omega)) ?_; intro b hb) | (refine And.intro (by first | omega | (simp (disch := omega) only [wrap_i64, wrap_u8, nil_len] at *; omega)) ?_) | ((first | (refine draw_lex hm (by rfl) (by kernel_rfl) ?_) | (refine Det.use (hc) ?_) | (refine Det.useQ (hc) ?_) | (refine XCalls.use (hc) ?_)); simp only [e_skip, e_region, e_seq, e_cond, e_ret, k_seq_normal, o_nil, o_cons, k_put, s_put, s_tmp, s_const, v_nifc, p_move, p_assign, p_bin, p_extract, getE_some, u_cond, c_ifcC, u_n_ii, u_nilEq_neq, u_const, u_const_t, u_kp, u_extract, u_frz_nil, u_frz_cons, u_frz_p, u_kback0_nil, u_m_tup, u_kpure, u_kr2, u_kr1, u_res_nil, u_res_tmp, u_kres, u_norm_nil, u_norm_cons, u_normF_none, u_retF, u_ret3, u_renAll_nil, u_resOps_nil, u_resOps_tmp, u_asRes2, u_find_nil, k_ret_ret, slots_set, slots_get, List.map_cons, List.map_nil, List.getElem?_cons_zero, List.getElem?_cons_succ, Nat.reduceLT, Nat.reduceEqDiff, and_true, cx_P, ↓reduceIte, Bool.not_true, Bool.false_eq_true, Bool.and_true, Bool.or_true, f_u73]) | (exact True.intro) | (exfalso; omega)))
    rfl
  | none =>
    have hc := d_ParseUint_in s hs
    rw [h] at hc
    simp only [numRes] at hc
    (refine LCalls.of_code (X := cx) false [] (by simp) Tryd.func82 (by kernel_rfl) rfl (by simp only [List.length_cons, List.length_nil, Tryd.ntmps82]; decide) (by simp) ?_; refine lwp_sound hm _ _ _ ?_; simp only [Tryd.ntmps82, Tryd.results82, e_region, e_seq, k_seq_normal, o_nil, o_cons, k_put, s_tmp, s_const, s_func, v_int, v_nifc, p_move, p_assign, p_call, u_frz_nil, u_frz_cons, u_frz_p, u_call, u_callT, u_callK0, u_callF, u_callA, u_callR_nil, u_m_p, u_argIds, u_dedup_nil, u_canon_nil, u_id_p, slots_set, slots_get, argW, List.map_cons, List.map_nil, List.append_nil, List.flatMap_cons, List.flatMap_nil, Nat.reduceLT, Nat.reduceEqDiff, Nat.reduceAdd, cx_P, cx_kind, ↓reduceIte, reduceCtorEq, Nat.zero_add])
    (repeat' (first | (refine iteI (fun h => ?_) (fun h => ?_)) | (refine ex_get (by first | omega | (simp (disch := omega) only [wrap_i64, wrap_u8, nil_len] at *; omega)) ?_; intro b hb) | (refine And.intro (by first | omega | (simp (disch := omega) only [wrap_i64, wrap_u8, nil_len] at *; omega)) ?_) | ((first | (refine draw_lex hm (by rfl) (by kernel_rfl) ?_) | (refine Det.use (hc) ?_) | (refine Det.useQ (hc) ?_) | (refine XCalls.use (hc) ?_) | (refine Det.use (d_toError _ s _ _ (by omega)) ?_) | (refine Det.useQ (d_toError _ s _ _ (by omega)) ?_) | (refine XCalls.use (d_toError _ s _ _ (by omega)) ?_)); simp only [e_region, e_seq, e_cond, e_ret, k_seq_normal, k_seq_ret, o_nil, o_cons, k_put, s_put, s_tmp, s_const, s_func, v_str, v_nifc, p_move, p_assign, p_bin, p_extract, p_call, getE_some, u_cond, c_ifcC, u_n_fin, u_nilEq_neq, u_const, u_const_t, u_kp, u_extract, u_frz_nil, u_frz_cons, u_frz_p, u_call, u_callT, u_callK0, u_callF, u_callA, u_callR_nil, u_kback0_nil, u_m_p, u_m_tup, u_argIds, u_dedup_nil, u_canon_nil, u_kpure, u_kr2, u_kr1, u_res_nil, u_res_tmp, u_kres, u_norm_nil, u_norm_cons, u_normF_none, u_retF, u_ret3, u_renAll_nil, u_resOps_nil, u_resOps_tmp, u_asRes2, u_find_nil, u_id_p, k_ret_ret, slots_set, slots_get, List.map_cons, List.map_nil, List.append_nil, List.flatMap_cons, List.flatMap_nil, List.getElem?_cons_zero, List.getElem?_cons_succ, Nat.reduceLT, Nat.reduceEqDiff, and_true, cx_P, cx_kind, ↓reduceIte, reduceCtorEq, Bool.not_false, Bool.and_true, Bool.or_true, f_u73]) | (exact True.intro) | (exfalso; omega)))
    rfl
theorem d_IndexByte (s : List UInt8) (c : Int) : Det cx 119 [.p (.str s), .p (.int .u8 c)] [] (.p (.int .i64 (Lib.indexByte s c.toNat.toUInt8))) [] := by
  refine Det.of_below (v := .int .i64 (Lib.indexByte s c.toNat.toUInt8)) (enters_of Tryd.func119 (by kernel_rfl) rfl) rfl (fun _ _ _ => .int _ _) fun β Im w vs hg hf => ?_
  obtain ⟨v, u, rfl, hv, hu⟩ := fit2 hf
  have := rep_str hv; subst this
  have := rep_int hu; subst this
  exact (Tryd.strings_IndexByte ⟨⟨s⟩⟩ c w).mono fun e w' ⟨he, hw⟩ => ⟨he, hw ▸ Below.refl _ _⟩
def decGo (s : List UInt8) : Nat × Nat := if s.length = 0 then (65533, 0) else dec s 0
theorem d_DecodeRune (s : List UInt8) : Det cx 47 [.p (.str s)] [] (.tup [.int .i32 (decGo s).1, .int .i64 (decGo s).2]) [] := by
  refine Det.of_below (v := .tuple #[.int .i32 (decGo s).1, .int .i64 (decGo s).2]) (enters_of Tryd.func47 (by kernel_rfl) rfl) rfl (fun β w Im => ⟨[.int .i32 (decGo s).1, .int .i64 (decGo s).2], rfl, rfl, fun i x p hi hp => ?_⟩) fun β Im w vs hg hf => ?_
  · rcases i with _ | _ | i <;> simp at hi hp
    · subst hi hp; exact .int _ _
    · subst hi hp; exact .int _ _
  · obtain ⟨v, rfl, hv⟩ := fit1 hf
    have := rep_str hv; subst this
    exact (Tryd.utf8_DecodeRuneInString ⟨⟨s⟩⟩ w (cx_G hg).tabs).mono fun e w' ⟨he, hb⟩ => ⟨he, hb⟩
theorem d_HasPrefix_in (s p : List UInt8) (hs : s.length ≤ 1000000) (hp : p.length ≤ 1000000) : Det cx 65 [.p (.str s), .p (.str p)] [] (.p (.bool (s.take p.length == p))) [] := by
  (refine LCalls.of_code (X := cx) false [] (by simp) Tryd.func65 (by kernel_rfl) rfl (by simp only [List.length_cons, List.length_nil, Tryd.ntmps65]; decide) (by simp) ?_; refine lwp_sound hm _ _ _ ?_; simp only [Tryd.ntmps65, Tryd.results65, e_region, e_seq, e_ret, k_seq_normal, o_nil, o_cons, o_guard, k_put, k_unit, s_tmp, s_const, v_bool, p_move, p_assign, p_bin, p_pick, p_slice, p_len, u_guard, u_gsel, u_gval_t, u_pick, u_bin_int, u_bin_str, u_const_t, u_geq, u_seql, u_len, u_len_str, bnd_none, bnd_some, u_slice, u_sl_nh, u_slG_p, u_frz_nil, u_frz_cons, u_frz_p, u_kpure, u_kr2, u_kr1, u_res_nil, u_res_tmp, u_kres, u_norm_nil, u_norm_cons, u_normF_none, u_retF, u_ret3, u_renAll_nil, u_resOps_nil, u_resOps_tmp, u_asRes1, u_find_nil, k_ret_ret, slots_set, slots_get, argW, List.map_cons, List.map_nil, List.getD_cons_zero, List.getD_cons_succ, decide_eq_true_eq, Nat.reduceLT, Nat.reduceEqDiff, true_and, and_true, cx_P, ↓reduceIte, reduceCtorEq, Int.toNat_natCast, Int.natCast_nonneg, Nat.zero_add, L.p.injEq, PV.bool.injEq, Bool.false_eq_true, Bool.true_and, Bool.and_true, Bool.or_false, and_self, f_u9])
  (repeat' (first | (refine iteI (fun h => ?_) (fun h => ?_)) | (refine ex_get (by first | omega | (simp (disch := omega) only [wrap_i64, wrap_u8, nil_len] at *; omega)) ?_; intro b hb) | (refine And.intro (by first | omega | (simp (disch := omega) only [wrap_i64, wrap_u8, nil_len] at *; omega)) ?_) | ((first | (refine draw_lex hm (by rfl) (by kernel_rfl) ?_)); simp only [e_scope]) | (exact True.intro) | (exfalso; omega)))
  · exact h
  · symm
    rw [beq_eq_false_iff_ne]
    intro e
    have := congrArg List.length e
    simp at this
    omega
theorem d_HasPrefix (s p : List UInt8) (hs : s.length ≤ 1000000) (hp : p.length ≤ 1000000) : Det cx 46 [.p (.str s), .p (.str p)] [] (.p (.bool (s.take p.length == p))) [] := by
  (refine LCalls.of_code (X := cx) false [] (by simp) Tryd.func46 (by kernel_rfl) rfl (by simp only [List.length_cons, List.length_nil, Tryd.ntmps46]; decide) (by simp) ?_; refine lwp_sound hm _ _ _ ?_; simp only [Tryd.ntmps46, Tryd.results46, e_region, e_seq, k_seq_normal, o_nil, o_cons, k_put, s_tmp, s_const, s_func, v_bool, p_move, p_assign, p_call, u_frz_nil, u_frz_cons, u_frz_p, u_call, u_callT, u_callK0, u_callF, u_callA, u_callR_nil, u_m_p, u_argIds, u_dedup_nil, u_canon_nil, u_id_p, slots_set, slots_get, argW, List.map_cons, List.map_nil, List.append_nil, List.flatMap_cons, List.flatMap_nil, Nat.reduceLT, Nat.reduceEqDiff, cx_P, cx_kind, ↓reduceIte, reduceCtorEq, Nat.zero_add])
  (repeat' (first | (refine iteI (fun h => ?_) (fun h => ?_)) | (refine ex_get (by first | omega | (simp (disch := omega) only [wrap_i64, wrap_u8, nil_len] at *; omega)) ?_; intro b hb) | (refine And.intro (by first | omega | (simp (disch := omega) only [wrap_i64, wrap_u8, nil_len] at *; omega)) ?_) | ((first | (refine draw_lex hm (by rfl) (by kernel_rfl) ?_) | (refine Det.use (d_HasPrefix_in s p hs hp) ?_) | (refine Det.useQ (d_HasPrefix_in s p hs hp) ?_) | (refine XCalls.use (d_HasPrefix_in s p hs hp) ?_)); simp only [e_ret, k_seq_normal, o_nil, o_cons, k_put, s_put, s_tmp, p_assign, u_frz_nil, u_frz_cons, u_frz_p, u_kback0_nil, u_m_p, u_kpure, u_kr2, u_kr1, u_res_nil, u_res_tmp, u_kres, u_norm_nil, u_norm_cons, u_normF_none, u_retF, u_ret3, u_renAll_nil, u_resOps_nil, u_resOps_tmp, u_asRes1, u_find_nil, k_ret_ret, slots_set, slots_get, Nat.reduceLT, ↓reduceIte, and_self]) | (exact True.intro) | (exfalso; omega)))
theorem encode_utf (r : Int) : (Utf8.encode r).data.toList = utf r := by
  have ho : ∀ n : Nat, u8of (n : Int) = UInt8.ofNat n := fun n => by
    unfold u8of
    apply UInt8.toNat_inj.1
    simp
    omega
  unfold Utf8.encode
  simp only [Utf8.valid, Bool.or_eq_true, Bool.and_eq_true, decide_eq_true_eq, Utf8.runeError]
  by_cases hv : (0 ≤ r ∧ r < 55296) ∨ (57344 ≤ r ∧ r ≤ 1114111)
  · obtain ⟨n, rfl⟩ := Int.eq_ofNat_of_zero_le (a := r) (by omega)
    rw [if_pos hv]
    simp only [Int.toNat_natCast]
    by_cases c1 : n < 128
    · rw [if_pos c1, utf, utfC_1 (by omega)]
      simp [ho]
    by_cases c2 : n < 2048
    · rw [if_neg c1, if_pos c2, utf, utfC_2 (by omega)]
      simp only [List.map_cons, List.map_nil]
      rw [show (192 : Int) + (n : Int) / 64 = ((192 + n / 64 : Nat) : Int) by omega, show (128 : Int) + (n : Int) % 64 = ((128 + n % 64 : Nat) : Int) by omega, ho, ho]
    by_cases c3 : n < 65536
    · rw [if_neg c1, if_neg c2, if_pos c3, utf, utfC_3 (by omega)]
      simp only [List.map_cons, List.map_nil]
      rw [show (224 : Int) + (n : Int) / 4096 = ((224 + n / 4096 : Nat) : Int) by omega, show (128 : Int) + (n : Int) / 64 % 64 = ((128 + n / 64 % 64 : Nat) : Int) by omega, show (128 : Int) + (n : Int) % 64 = ((128 + n % 64 : Nat) : Int) by omega, ho, ho, ho]
    · rw [if_neg c1, if_neg c2, if_neg c3, utf, utfC_4 (by omega)]
      simp only [List.map_cons, List.map_nil]
      rw [show (240 : Int) + (n : Int) / 262144 = ((240 + n / 262144 : Nat) : Int) by omega, show (128 : Int) + (n : Int) / 4096 % 64 = ((128 + n / 4096 % 64 : Nat) : Int) by omega, show (128 : Int) + (n : Int) / 64 % 64 = ((128 + n / 64 % 64 : Nat) : Int) by omega, show (128 : Int) + (n : Int) % 64 = ((128 + n % 64 : Nat) : Int) by omega, ho, ho, ho, ho]
  · rw [if_neg hv, utf, utfC_0 (by omega)]
    rfl
/-- The marks that ParseUint takes no note of. -/
def marks3 : List UInt8 := [43, 45, 95]
theorem marks3_at (k : Nat) : at_ marks3 k ≤ 95 := by
  match k with
  | 0 => decide
  | 1 => decide
  | 2 => decide
  | k + 3 => rw [at_out (by simp [marks3])]; decide
theorem utf_last {r : Int} (h : 128 ≤ r) : 2 ≤ (utf r).length ∧ 128 ≤ at_ (utf r) ((utf r).length - 1) := by
  have key : ∀ l : List Int, utfC r = l → (∀ c ∈ l, 128 ≤ c ∧ c < 256) → l ≠ [] → 128 ≤ at_ (utf r) ((utf r).length - 1) := by
    intro l e hl hne
    rw [utf, e]
    have hlen : (l.map u8of).length - 1 < l.length := by
      have := List.length_pos_iff.2 hne
      simp; omega
    rw [at_get (by simpa using hlen)]
    simp only [List.getElem_map]
    have := hl _ (List.getElem_mem hlen)
    have := u8of_toNat (c := l[(l.map u8of).length - 1]) (by omega) (by omega)
    omega
  unfold utf at *
  by_cases c2 : r < 2048
  · have e := utfC_2 (r := r) (by omega)
    refine ⟨by rw [e]; simp, key _ e ?_ (by simp)⟩
    simp; omega
  by_cases c3 : (2048 ≤ r ∧ r < 55296) ∨ (57343 < r ∧ r < 65536)
  · have e := utfC_3 (r := r) (by omega)
    refine ⟨by rw [e]; simp, key _ e ?_ (by simp)⟩
    simp; omega
  by_cases c4 : 65536 ≤ r ∧ r ≤ 1114111
  · have e := utfC_4 (r := r) (by omega)
    refine ⟨by rw [e]; simp, key _ e ?_ (by simp)⟩
    simp; omega
  · have e := utfC_0 (r := r) (by omega)
    refine ⟨by rw [e]; simp, key _ e ?_ (by simp)⟩
    simp
theorem indexByte_none {l : List UInt8} {c : Int} (h0 : 128 ≤ c) (h1 : c < 256) (h : ∀ x ∈ l, x.toNat < 128) : Lib.indexByte l c.toNat.toUInt8 = -1 := by
  have hc : l.contains c.toNat.toUInt8 = false := by
    rw [List.contains_eq_mem, decide_eq_false_iff_not]
    intro hm
    have := h _ hm
    simp at this
    omega
  have e := Lib.contains_iff_indexByte l c.toNat.toUInt8
  rw [hc] at e
  have hlt : ¬ 0 ≤ Lib.indexByte l c.toNat.toUInt8 := by simpa using e.symm
  have := Lib.indexByte_ge l c.toNat.toUInt8
  omega
def irv (r : Int) : Int := if r < 128 then Lib.indexByte marks3 r.toNat.toUInt8 else -1
theorem d_ValidRune (r : Int) (h : isRune r) : Det cx 120 [.p (.int .i32 r)] [] (.p (.bool true)) [] := by
  unfold isRune at h
  (refine LCalls.of_code (X := cx) false [] (by simp) Tryd.func120 (by kernel_rfl) rfl (by simp only [List.length_cons, List.length_nil, Tryd.ntmps120]; decide) (by simp) ?_; refine lwp_sound hm _ _ _ ?_; simp only [Tryd.ntmps120, Tryd.results120, e_skip, e_region, e_seq, e_cond, e_block, e_ret, k_seq_normal, k_seq_ret, k_block_normal, k_block_ret, o_nil, o_cons, o_guard, k_put, k_unit, s_tmp, s_const, v_bool, v_int, p_move, p_assign, p_bin, p_pick, u_cond, u_guard, u_gsel, u_gval_t, u_pick, u_bin_int, u_const, u_const_t, u_lss, u_leq, u_frz_nil, u_frz_cons, u_frz_p, u_kpure, u_kr2, u_kr1, u_res_nil, u_res_tmp, u_kres, u_norm_nil, u_norm_cons, u_normF_none, u_retF, u_ret3, u_renAll_nil, u_resOps_nil, u_resOps_tmp, u_asRes1, u_find_nil, k_ret_ret, slots_set, slots_get, argW, List.map_cons, List.map_nil, List.getD_cons_zero, List.getD_cons_succ, decide_eq_true_eq, Nat.reduceLT, Nat.reduceEqDiff, and_true, cx_P, ↓reduceIte, reduceCtorEq, L.p.injEq, PV.bool.injEq, Bool.false_eq_true, Bool.and_true, Bool.or_false, Bool.or_true, and_self])
  (repeat' (first | (refine iteI (fun h => ?_) (fun h => ?_)) | (refine ex_get (by first | omega | (simp (disch := omega) only [wrap_i64, wrap_u8, nil_len] at *; omega)) ?_; intro b hb) | (refine And.intro (by first | omega | (simp (disch := omega) only [wrap_i64, wrap_u8, nil_len] at *; omega)) ?_) | ((first | (refine draw_lex hm (by rfl) (by kernel_rfl) ?_)); simp only [e_scope]) | (exact True.intro) | (exfalso; omega)))
theorem marks3_len : marks3.length = 3 := rfl
theorem pd0 : Utf8.decode ⟨⟨marks3⟩⟩ 0 = (43, 1) := by decide
theorem pd1 : Utf8.decode ⟨⟨marks3⟩⟩ 1 = (45, 1) := by decide
theorem pd2 : Utf8.decode ⟨⟨marks3⟩⟩ 2 = (95, 1) := by decide
theorem d_IndexRune_big (r : Int) (hr : isRune r) (h1 : 128 ≤ r) (h2 : r ≠ 65533) : Det cx 105 [.p (.str marks3), .p (.int .i32 r)] [] (.p (.int .i64 (-1))) [] := by
  have h' := hr
  unfold isRune at h'
  obtain ⟨g1, g2⟩ := utf_last (r := r) h1
  have g3 := at_lt (utf r) ((utf r).length - 1)
  have g4 := utf_le r
  have g5 := marks3_at ((utf r).length - 1)
  obtain ⟨k, hk⟩ : ∃ k, (utf r).length = k + 1 := ⟨(utf r).length - 1, by omega⟩
  rw [hk, Nat.add_sub_cancel] at g2 g3 g5
  have hw : IntKind.i64.wrap (((k + 1 : Nat) : Int) - 1) = (k : Int) := by rw [wrap_i64 (by omega) (by omega)]; omega
  have hw2 : IntKind.i64.wrap ((k : Int) + 1) = ((k + 1 : Nat) : Int) := by rw [wrap_i64 (by omega) (by omega)]; omega
  have hib : Lib.indexByte (marks3.drop (k + 1)) (at_ (utf r) k : Int).toNat.toUInt8 = -1 := indexByte_none (by omega) (by omega) fun x hx => by
    exact (by decide : ∀ x ∈ marks3, x.toNat < 128) x (List.mem_of_mem_drop hx)
  skip
  (refine LCalls.of_code (X := cx) false [] (by simp) Tryd.func105 (by kernel_rfl) rfl (by simp only [List.length_cons, List.length_nil, Tryd.ntmps105]; decide) (by simp) ?_; refine lwp_sound hm _ _ _ ?_; simp only [Tryd.ntmps105, Tryd.results105, e_region, e_seq, e_cond, e_block, e_loop, k_seq_normal, o_nil, o_cons, o_guard, k_put, k_unit, s_put, s_tmp, s_const, s_func, v_bool, v_int, p_move, p_assign, p_bin, p_conv, p_pick, p_call, p_range, u_cond, u_guard, u_gsel, u_gval_t, u_pick, u_bin_int, u_const, u_const_t, u_eql, u_lss, u_leq, u_cvF, u_cvG_int, u_conv, u_conv_int, u_newReg, u_frz_nil, u_frz_cons, u_frz_p, u_call, u_callT, u_callK0, u_callF, u_callA, u_callR_nil, u_m_p, u_argIds, u_dedup_nil, u_canon_nil, u_range, u_rg_str, u_drop_nil, u_f_p, u_f_tup, u_id_p, slots_set, slots_get, slots_forget, mapW_nil, mapW_cons, argW, List.map_cons, List.map_nil, List.getD_cons_zero, List.getD_cons_succ, List.append_nil, List.flatMap_cons, List.flatMap_nil, decide_eq_true_eq, beq_iff_eq, Nat.reduceLT, Nat.reduceEqDiff, Int.reduceNeg, true_and, cx_P, cx_kind, ↓reduceIte, reduceCtorEq, Nat.zero_add, Bool.false_eq_true, Bool.true_and, Bool.or_false, Bool.or_true, f_u5, f_u9, f_u21])
  (repeat' (first | (refine iteI (fun h => ?_) (fun h => ?_)) | (refine ex_get (by first | omega | (simp (disch := omega) only [wrap_i64, wrap_u8, nil_len] at *; omega)) ?_; intro b hb) | (refine And.intro (by first | omega | (simp (disch := omega) only [wrap_i64, wrap_u8, nil_len] at *; omega)) ?_) | ((first | (refine draw_lex hm (by rfl) (by kernel_rfl) ?_) | (refine Det.use (d_ValidRune r hr) ?_) | (refine Det.useQ (d_ValidRune r hr) ?_) | (refine XCalls.use (d_ValidRune r hr) ?_)); simp only [e_scope, e_region, e_seq, e_cond, e_block, e_loop, k_seq_normal, o_nil, o_cons, k_put, s_put, s_tmp, s_const, v_int, p_move, p_assign, p_bin, p_un, p_conv, p_len, u_cond, u_bin_int, u_const, u_const_t, u_sub, u_not, u_cvF, u_cvG_int, u_conv, u_conv_rune, u_len, u_len_str, u_frz_nil, u_frz_cons, u_frz_p, u_kback0_nil, u_m_p, slots_set, slots_get, List.map_cons, List.map_nil, Nat.reduceLT, Nat.reduceEqDiff, Int.reduceNeg, cx_P, ↓reduceIte, reduceCtorEq, Bool.not_true, Bool.false_eq_true, Bool.or_true, f_u9, f_u21, encode_utf, hk, hw]) | (exact True.intro) | (exfalso; omega)))
  (refine SWP.rounds 2 ?_; refine SWP.roundI hm ?_; simp only [e_scope, e_skip, e_region, e_seq, e_cond, e_block, e_exit, e_ret, k_seq_normal, k_seq_exit, k_seq_ret, k_block_exit, k_block_ret, o_nil, o_cons, k_put, s_tmp, s_const, v_int, p_move, p_assign, p_bin, p_len, u_draw, u_cond, u_bin_int, u_const_t, u_lss, u_len, u_len_str, u_frz_nil, u_frz_cons, u_frz_p, u_kpure, u_kr2, u_kr1, u_res_nil, u_res_tmp, u_kres, u_norm_nil, u_norm_cons, u_normF_none, u_retF, u_ret3, u_renAll_nil, u_resOps_nil, u_resOps_tmp, u_asRes1, u_find_nil, k_ret_ret, kun_e, slots_set, slots_get, List.map_cons, List.map_nil, decide_eq_true_eq, Nat.reduceLT, Nat.reduceEqDiff, Int.reduceNeg, cx_P, ↓reduceIte, reduceCtorEq, Bool.or_false, and_self, f_u9, marks3_len])
  (repeat' (first | (refine iteI (fun h => ?_) (fun h => ?_)) | (refine ex_get (by first | omega | (simp (disch := omega) only [wrap_i64, wrap_u8, nil_len] at *; omega)) ?_; intro b hb) | (refine And.intro (by first | omega | (simp (disch := omega) only [wrap_i64, wrap_u8, nil_len] at *; omega)) ?_) | ((first | (refine draw_lex hm (by rfl) (by kernel_rfl) ?_) | (refine Det.use (d_IndexByte _ _) ?_) | (refine Det.useQ (d_IndexByte _ _) ?_) | (refine XCalls.use (d_IndexByte _ _) ?_)); simp only [e_skip, e_region, e_seq, e_cond, e_block, e_loop, e_ret, k_seq_normal, k_seq_ret, k_block_ret, o_nil, o_cons, q_nil, q_cons, k_put, s_tmp, s_const, v_int, p_move, p_assign, p_bin, q_move, q_assign, q_bin, q_index, q_slice, q_call, u_draw, u_cond, u_bin_int, u_const, u_const_t, u_add, u_neq, u_lss, u_index, u_ix_str, bnd_none, bnd_some, u_slice, u_sl_ln, u_frz_nil, u_frz_cons, u_frz_p, u_kpure, u_kr2, u_kr1, u_res_nil, u_res_tmp, u_kres, u_norm_nil, u_norm_cons, u_normF_none, u_retF, u_ret3, u_renAll_nil, u_resOps_nil, u_resOps_tmp, u_asRes1, u_find_nil, k_ret_ret, kun_r, slots_set, slots_get, List.map_cons, List.map_nil, decide_eq_true_eq, bne_iff_ne, ne_eq, Nat.reduceLT, Nat.reduceEqDiff, Int.reduceNeg, true_and, cx_P, ↓reduceIte, reduceCtorEq, Int.toNat_natCast, Int.natCast_nonneg, Bool.true_and, Bool.or_false, Bool.or_true, and_self, f_u9, marks3_len, hk, hw2]) | (exact True.intro) | (exfalso; omega)))
  · simp only [Int.toNat_natCast] at hib
    omega
theorem d_IndexRune (r : Int) (hr : isRune r) : Det cx 105 [.p (.str marks3), .p (.int .i32 r)] [] (.p (.int .i64 (irv r))) [] := by
  have h' := hr
  unfold isRune at h'
  by_cases hb : 128 ≤ r ∧ r ≠ 65533
  · rw [show irv r = -1 by simp only [irv, if_neg (show ¬ r < 128 by omega)]]
    exact d_IndexRune_big r hr hb.1 hb.2
  skip
  (refine LCalls.of_code (X := cx) false [] (by simp) Tryd.func105 (by kernel_rfl) rfl (by simp only [List.length_cons, List.length_nil, Tryd.ntmps105]; decide) (by simp) ?_; refine lwp_sound hm _ _ _ ?_; simp only [Tryd.ntmps105, Tryd.results105, e_region, e_seq, e_cond, e_block, e_loop, k_seq_normal, o_nil, o_cons, o_guard, k_put, k_unit, s_put, s_tmp, s_const, s_func, v_bool, v_int, p_move, p_assign, p_bin, p_conv, p_pick, p_call, p_range, u_cond, u_guard, u_gsel, u_gval_t, u_pick, u_bin_int, u_const, u_const_t, u_eql, u_lss, u_leq, u_cvF, u_cvG_int, u_conv, u_conv_int, u_newReg, u_frz_nil, u_frz_cons, u_frz_p, u_call, u_callT, u_callK0, u_callF, u_callA, u_callR_nil, u_m_p, u_argIds, u_dedup_nil, u_canon_nil, u_range, u_rg_str, u_drop_nil, u_f_p, u_f_tup, u_id_p, slots_set, slots_get, slots_forget, mapW_nil, mapW_cons, argW, List.map_cons, List.map_nil, List.getD_cons_zero, List.getD_cons_succ, List.append_nil, List.flatMap_cons, List.flatMap_nil, decide_eq_true_eq, beq_iff_eq, Nat.reduceLT, Nat.reduceEqDiff, Int.reduceNeg, true_and, cx_P, cx_kind, ↓reduceIte, reduceCtorEq, Nat.zero_add, Bool.false_eq_true, Bool.true_and, Bool.or_false, Bool.or_true, f_u5, f_u9, f_u21])
  (repeat' (first | (refine iteI (fun h => ?_) (fun h => ?_)) | (refine ex_get (by first | omega | (simp (disch := omega) only [wrap_i64, wrap_u8, nil_len] at *; omega)) ?_; intro b hb) | (refine And.intro (by first | omega | (simp (disch := omega) only [wrap_i64, wrap_u8, nil_len] at *; omega)) ?_) | ((first | (refine draw_lex hm (by rfl) (by kernel_rfl) ?_) | (refine Det.use (d_ValidRune r hr) ?_) | (refine Det.useQ (d_ValidRune r hr) ?_) | (refine XCalls.use (d_ValidRune r hr) ?_) | (refine Det.use (d_IndexByte _ _) ?_) | (refine Det.useQ (d_IndexByte _ _) ?_) | (refine XCalls.use (d_IndexByte _ _) ?_)); simp only [e_scope, e_region, e_seq, e_cond, e_block, e_loop, e_ret, k_seq_normal, k_block_ret, o_nil, o_cons, k_put, s_put, s_tmp, s_const, v_int, p_move, p_assign, p_bin, p_un, p_conv, p_len, u_cond, u_bin_int, u_const, u_const_t, u_sub, u_not, u_cvF, u_cvG_int, u_conv, u_conv_rune, u_len, u_len_str, u_frz_nil, u_frz_cons, u_frz_p, u_kback0_nil, u_m_p, u_kpure, u_kr2, u_kr1, u_res_nil, u_res_tmp, u_kres, u_norm_nil, u_norm_cons, u_normF_none, u_retF, u_ret3, u_renAll_nil, u_resOps_nil, u_resOps_tmp, u_asRes1, u_find_nil, k_ret_ret, slots_set, slots_get, List.map_cons, List.map_nil, Nat.reduceLT, Nat.reduceEqDiff, Int.reduceNeg, true_and, and_true, cx_P, ↓reduceIte, reduceCtorEq, Bool.not_true, L.p.injEq, PV.int.injEq, Bool.false_eq_true, Bool.true_and, Bool.and_true, Bool.or_true, f_u9, f_u21]) | (exact True.intro) | (exfalso; omega)))
  · rw [wrap_u8 (by omega) (by omega)]; simp only [irv, if_pos (show r < 128 by omega)]
  · (refine SWP.rounds 4 ?_; refine SWP.roundI hm ?_; simp only [e_skip, e_region, e_seq, e_cond, e_block, e_ret, k_seq_normal, k_seq_ret, k_block_normal, k_block_ret, o_nil, o_cons, k_put, s_tmp, s_const, v_int, p_move, p_assign, p_bin, p_extract, p_next, getE_some, u_cond, u_bin_int, u_const, u_const_t, u_eql, u_kp, u_extract, u_frz_nil, u_frz_cons, u_frz_p, u_next, u_nxT_s, u_nxS, u_kpure, u_kr2, u_kr1, u_res_nil, u_res_tmp, u_kres, u_norm_nil, u_norm_cons, u_normF_none, u_retF, u_ret3, u_renAll_nil, u_resOps_nil, u_resOps_tmp, u_asRes1, u_find_nil, u_find_cons, u_set_cons, k_ret_ret, kun_n, kun_r, slots_set, slots_get, List.map_cons, List.map_nil, List.getElem?_cons_zero, List.getElem?_cons_succ, beq_iff_eq, Nat.reduceLT, Nat.reduceEqDiff, Int.reduceNeg, true_and, and_true, cx_P, ↓reduceIte, Nat.zero_add, L.p.injEq, PV.int.injEq, Bool.true_and, Bool.and_true, Bool.or_true, pd0, marks3_len])
    (repeat' (first | (refine iteI (fun h => ?_) (fun h => ?_)) | (refine ex_get (by first | omega | (simp (disch := omega) only [wrap_i64, wrap_u8, nil_len] at *; omega)) ?_; intro b hb) | (refine And.intro (by first | omega | (simp (disch := omega) only [wrap_i64, wrap_u8, nil_len] at *; omega)) ?_) | ((first | (refine draw_lex hm (by rfl) (by kernel_rfl) ?_)); simp only [e_scope]) | (refine SWP.roundI hm ?_; simp only [e_skip, e_region, e_seq, e_cond, e_block, e_exit, e_ret, k_seq_normal, k_seq_exit, k_seq_ret, k_block_normal, k_block_exit, k_block_ret, o_nil, o_cons, k_put, s_tmp, s_const, v_int, p_move, p_assign, p_bin, p_extract, p_next, getE_some, u_cond, u_bin_int, u_const, u_const_t, u_eql, u_kp, u_extract, u_frz_nil, u_frz_cons, u_frz_p, u_next, u_nxT_s, u_nxS, u_kpure, u_kr2, u_kr1, u_res_nil, u_res_tmp, u_kres, u_norm_nil, u_norm_cons, u_normF_none, u_retF, u_ret3, u_renAll_nil, u_resOps_nil, u_resOps_tmp, u_asRes1, u_find_nil, u_find_cons, u_set_cons, k_ret_ret, kun_n, kun_e, kun_r, slots_set, slots_get, List.map_cons, List.map_nil, List.getElem?_cons_zero, List.getElem?_cons_succ, beq_iff_eq, Nat.reduceLT, Nat.reduceEqDiff, Nat.reduceAdd, Int.reduceNeg, true_and, and_true, cx_P, ↓reduceIte, L.p.injEq, PV.int.injEq, Bool.false_eq_true, Bool.true_and, Bool.and_true, Bool.or_true, pd1, pd2, marks3_len]) | (exact True.intro) | (exfalso; omega)))
    simp only [irv, if_neg (show ¬ r < 128 by omega)]
  all_goals (exfalso; omega)
/-- Where the first rune stands that is such a mark. -/
def iaF (s : List UInt8) : Nat → Nat → Int
  | 0, _ => -1
  | f + 1, i => if i < s.length then (if 0 ≤ irv (dec s i).1 then (i : Int) else iaF s f (i + (dec s i).2)) else -1
theorem d_ascii (n : Int) (hn : n ≤ 8) : Det cx 106 [.p (.int .i64 n)] [] (.p (.bool false)) [] := by
  (refine LCalls.of_code (X := cx) false [] (by simp) Tryd.func106 (by kernel_rfl) rfl (by simp only [List.length_cons, List.length_nil, Tryd.ntmps106]; decide) (by simp) ?_; refine lwp_sound hm _ _ _ ?_; simp only [Tryd.ntmps106, Tryd.results106, e_region, e_seq, e_ret, k_seq_normal, o_nil, o_cons, k_put, s_tmp, s_const, v_bool, v_int, p_move, p_assign, p_bin, u_bin_int, u_const, u_const_t, u_gtr, u_frz_nil, u_frz_cons, u_frz_p, u_kpure, u_kr2, u_kr1, u_res_nil, u_res_tmp, u_kres, u_norm_nil, u_norm_cons, u_normF_none, u_retF, u_ret3, u_renAll_nil, u_resOps_nil, u_resOps_tmp, u_asRes1, u_find_nil, k_ret_ret, slots_set, slots_get, argW, List.map_cons, List.map_nil, decide_eq_false_iff_not, Int.not_lt, Nat.reduceLT, and_true, cx_P, ↓reduceIte, reduceCtorEq, L.p.injEq, PV.bool.injEq, Bool.and_true, Bool.or_true])
  (repeat' (first | (refine iteI (fun h => ?_) (fun h => ?_)) | (refine ex_get (by first | omega | (simp (disch := omega) only [wrap_i64, wrap_u8, nil_len] at *; omega)) ?_; intro b hb) | (refine And.intro (by first | omega | (simp (disch := omega) only [wrap_i64, wrap_u8, nil_len] at *; omega)) ?_) | ((first | (refine draw_lex hm (by rfl) (by kernel_rfl) ?_)); simp only [e_scope]) | (exact True.intro) | (exfalso; omega)))
  exact hn
theorem dec_isRune (s : List UInt8) (i : Nat) : isRune (dec s i).1 := by
  rw [dec_rlen]
  split
  · right; decide
  · rename_i h; exact code_isRune h
theorem dec_pos (s : List UInt8) (i : Nat) : 1 ≤ (dec s i).2 := by
  rw [dec_rlen]
  split
  · decide
  · simp only; omega
theorem dec_fold (s : List UInt8) (i : Nat) : Utf8.decode ⟨⟨s⟩⟩ i = dec s i := rfl
theorem d_IndexAny (s : List UInt8) (hs : s.length = 4) : Det cx 94 [.p (.str s), .p (.str marks3)] [] (.p (.int .i64 (iaF s 5 0))) [] := by
  skip
  (refine LCalls.of_code (X := cx) false [] (by simp) Tryd.func94 (by kernel_rfl) rfl (by simp only [List.length_cons, List.length_nil, Tryd.ntmps94]; decide) (by simp) ?_; refine lwp_sound hm _ _ _ ?_; simp only [Tryd.ntmps94, Tryd.results94, e_skip, e_region, e_seq, e_cond, k_seq_normal, o_nil, o_cons, k_put, s_tmp, s_const, s_func, v_int, v_str, p_move, p_assign, p_bin, p_conv, p_index, p_len, p_call, u_cond, u_bin_int, u_bin_str, u_const, u_const_t, u_eql, u_geq, u_seql, u_cvF, u_cvG_int, u_conv, u_conv_int, u_len, u_len_str, u_index, u_ix_str, u_frz_nil, u_frz_cons, u_frz_p, u_call, u_callT, u_callK0, u_callF, u_callA, u_callR_nil, u_m_p, u_argIds, u_dedup_nil, u_canon_nil, u_id_p, slots_set, slots_get, argW, List.map_cons, List.map_nil, List.append_nil, List.flatMap_cons, List.flatMap_nil, decide_eq_true_eq, beq_iff_eq, Nat.reduceLT, Nat.reduceEqDiff, Int.reduceToNat, Int.reduceLE, Int.reduceNeg, true_and, cx_P, cx_kind, ↓reduceIte, reduceCtorEq, Nat.zero_add, nil_len, Bool.true_and, Bool.or_true, f_u5, f_u9, f_u21, marks3_len])
  (repeat' (first | (refine iteI (fun h => ?_) (fun h => ?_)) | (refine ex_get (by first | omega | (simp (disch := omega) only [wrap_i64, wrap_u8, nil_len] at *; omega)) ?_; intro b hb) | (refine And.intro (by first | omega | (simp (disch := omega) only [wrap_i64, wrap_u8, nil_len] at *; omega)) ?_) | ((first | (refine draw_lex hm (by rfl) (by kernel_rfl) ?_) | (refine Det.use (d_ascii _ (by omega)) ?_) | (refine Det.useQ (d_ascii _ (by omega)) ?_) | (refine XCalls.use (d_ascii _ (by omega)) ?_)); simp only [e_skip, e_region, e_seq, e_cond, e_block, e_loop, k_seq_normal, o_nil, o_cons, k_put, s_put, s_tmp, p_move, p_range, u_cond, u_newReg, u_kback0_nil, u_m_p, u_range, u_rg_str, u_drop_nil, u_f_p, slots_set, slots_get, slots_forget, mapW_nil, mapW_cons, List.map_cons, List.map_nil, Nat.reduceLT, Int.reduceNeg, true_and, cx_P, ↓reduceIte, reduceCtorEq, Bool.false_eq_true, Bool.true_and, f_u9]) | (exact True.intro) | (exfalso; omega)))
  refine SWP.loop (fun x : Nat × Nat => ⟨slots 55 [(0, .p (.str s)), (1, .p (.str marks3)), (45, .ptr 45 0 0)], [(45, .obj (.sit s x.1))]⟩) (fun x => 5 ≤ x.1 + x.2 ∧ iaF s x.2 x.1 = iaF s 5 0) (fun x => 4 - x.1) (0, 5) (St.le_slots (by simp only [wsLe_cons, wsLe_nil, slots_get, slots_get_nil, LLe_junk, Nat.reduceEqDiff, reduceIte, Nat.reduceLT, Nat.reduceLeDiff]; simp (disch := omega) [LLe_junk, LLe_refl, LLe_p, wrap_i64] <;> (repeat' apply And.intro) <;> omega) (by simp (disch := omega) [regsLe, RegLe, tmpsLe, findReg, LLe_junk, LLe_refl, LLe_p, wrap_i64]) (by simp [keysOK])) ⟨by omega, rfl⟩ ?_
  rintro ⟨i, f⟩ ⟨h1, h2⟩
  simp only at h1 h2
  have hp := dec_pos s i
  (refine lwp_sound hm _ _ _ ?_; simp only [e_skip, e_region, e_seq, e_cond, e_block, e_exit, e_ret, k_seq_normal, k_seq_exit, k_block_exit, o_nil, o_cons, k_put, s_tmp, s_const, s_func, v_int, p_move, p_assign, p_extract, p_call, p_next, getE_some, u_cond, u_kp, u_extract, u_frz_nil, u_frz_cons, u_frz_p, u_call, u_callT, u_callK0, u_callF, u_callA, u_callR_nil, u_m_p, u_argIds, u_dedup_nil, u_canon_nil, u_next, u_nxT_s, u_nxS, u_kpure, u_kr2, u_kr1, u_res_nil, u_res_tmp, u_kres, u_norm_nil, u_norm_cons, u_normF_none, u_retF, u_ret3, u_renAll_nil, u_resOps_nil, u_resOps_tmp, u_asRes1, u_find_nil, u_find_cons, u_set_cons, u_id_p, k_ret_ret, slots_set, slots_get, kloop, List.map_cons, List.map_nil, List.append_nil, List.flatMap_cons, List.flatMap_nil, List.getElem?_cons_zero, List.getElem?_cons_succ, Nat.reduceLT, Nat.reduceEqDiff, Int.reduceNeg, true_and, and_true, cx_kind, ↓reduceIte, reduceCtorEq, L.p.injEq, PV.int.injEq, Bool.false_eq_true, Bool.true_and, Bool.and_true, dec_fold])
  (repeat' (first | (refine iteI (fun h => ?_) (fun h => ?_)) | (refine ex_get (by first | omega | (simp (disch := omega) only [wrap_i64, wrap_u8, nil_len] at *; omega)) ?_; intro b hb) | (refine And.intro (by first | omega | (simp (disch := omega) only [wrap_i64, wrap_u8, nil_len] at *; omega)) ?_) | ((first | (refine draw_lex hm (by rfl) (by kernel_rfl) ?_) | (refine Det.use (d_IndexRune _ (dec_isRune s i)) ?_) | (refine Det.useQ (d_IndexRune _ (dec_isRune s i)) ?_) | (refine XCalls.use (d_IndexRune _ (dec_isRune s i)) ?_)); simp only [e_skip, e_region, e_seq, e_cond, e_ret, k_seq_normal, k_seq_ret, k_block_normal, k_block_ret, o_nil, o_cons, k_put, s_put, s_tmp, s_const, v_int, p_move, p_assign, p_bin, u_cond, u_bin_int, u_const, u_const_t, u_geq, u_frz_nil, u_frz_cons, u_frz_p, u_kback0_nil, u_m_p, u_kpure, u_kr2, u_kr1, u_res_nil, u_res_tmp, u_kres, u_norm_nil, u_norm_cons, u_normF_none, u_retF, u_ret3, u_renAll_nil, u_resOps_nil, u_resOps_tmp, u_asRes1, u_find_nil, u_find_cons, k_ret_ret, slots_set, slots_get, kloop, List.map_cons, List.map_nil, decide_eq_true_eq, Nat.reduceLT, Nat.reduceEqDiff, Int.reduceNeg, true_and, and_true, cx_P, ↓reduceIte, L.p.injEq, PV.int.injEq, Bool.true_and, Bool.and_true, Bool.or_true]) | (exact True.intro) | (exfalso; omega)))
  · obtain ⟨g, rfl⟩ : ∃ g, f = g + 1 := ⟨f - 1, by omega⟩
    rw [← h2, iaF, if_pos (by omega), if_pos (by assumption)]
  · obtain ⟨g, rfl⟩ : ∃ g, f = g + 1 := ⟨f - 1, by omega⟩
    refine ⟨(i + (dec s i).2, g), ⟨by simp only; omega, ?_⟩, by simp only; omega, (St.le_slots (by simp only [wsLe_cons, wsLe_nil, slots_get, slots_get_nil, LLe_junk, Nat.reduceEqDiff, reduceIte, Nat.reduceLT, Nat.reduceLeDiff]; simp (disch := omega) [LLe_junk, LLe_refl, LLe_p, wrap_i64] <;> (repeat' apply And.intro) <;> omega) (by simp (disch := omega) [regsLe, RegLe, tmpsLe, findReg, LLe_junk, LLe_refl, LLe_p, wrap_i64]) (by simp [keysOK]))⟩
    simp only
    rw [← h2, show iaF s (g + 1) i = iaF s g (i + (dec s i).2) from by rw [iaF, if_pos (by omega), if_neg (by assumption)]]
  · rw [← h2]
    cases f with
    | zero => rfl
    | succ g => rw [iaF, if_neg (by omega)]
theorem d_ContainsAny (s : List UInt8) (hs : s.length = 4) : Det cx 81 [.p (.str s), .p (.str marks3)] [] (.p (.bool (decide (0 ≤ iaF s 5 0)))) [] := by
  (refine LCalls.of_code (X := cx) false [] (by simp) Tryd.func81 (by kernel_rfl) rfl (by simp only [List.length_cons, List.length_nil, Tryd.ntmps81]; decide) (by simp) ?_; refine lwp_sound hm _ _ _ ?_; simp only [Tryd.ntmps81, Tryd.results81, e_region, e_seq, k_seq_normal, o_nil, o_cons, k_put, s_tmp, s_const, s_func, v_bool, p_move, p_assign, p_call, u_frz_nil, u_frz_cons, u_frz_p, u_call, u_callT, u_callK0, u_callF, u_callA, u_callR_nil, u_m_p, u_argIds, u_dedup_nil, u_canon_nil, u_id_p, slots_set, slots_get, argW, List.map_cons, List.map_nil, List.append_nil, List.flatMap_cons, List.flatMap_nil, Nat.reduceLT, Nat.reduceEqDiff, cx_P, cx_kind, ↓reduceIte, reduceCtorEq, Nat.zero_add])
  (repeat' (first | (refine iteI (fun h => ?_) (fun h => ?_)) | (refine ex_get (by first | omega | (simp (disch := omega) only [wrap_i64, wrap_u8, nil_len] at *; omega)) ?_; intro b hb) | (refine And.intro (by first | omega | (simp (disch := omega) only [wrap_i64, wrap_u8, nil_len] at *; omega)) ?_) | ((first | (refine draw_lex hm (by rfl) (by kernel_rfl) ?_) | (refine Det.use (d_IndexAny s hs) ?_) | (refine Det.useQ (d_IndexAny s hs) ?_) | (refine XCalls.use (d_IndexAny s hs) ?_)); simp only [e_ret, k_seq_normal, o_nil, o_cons, k_put, s_put, s_tmp, s_const, v_int, p_assign, p_bin, u_bin_int, u_const, u_const_t, u_geq, u_frz_nil, u_frz_cons, u_frz_p, u_kback0_nil, u_m_p, u_kpure, u_kr2, u_kr1, u_res_nil, u_res_tmp, u_kres, u_norm_nil, u_norm_cons, u_normF_none, u_retF, u_ret3, u_renAll_nil, u_resOps_nil, u_resOps_tmp, u_asRes1, u_find_nil, k_ret_ret, slots_set, slots_get, Nat.reduceLT, cx_P, ↓reduceIte, Bool.or_true, and_self]) | (exact True.intro) | (exfalso; omega)))
theorem irv_mark {r : Int} (h0 : 0 ≤ r) (h : 0 ≤ irv r) : r = 43 ∨ r = 45 ∨ r = 95 := by
  unfold irv at h
  split at h
  · have e := Lib.contains_iff_indexByte marks3 r.toNat.toUInt8
    rw [decide_eq_true h, List.contains_eq_mem, decide_eq_true_eq] at e
    simp only [marks3, List.mem_cons, List.not_mem_nil, or_false] at e
    rcases e with e | e | e
    · have := congrArg UInt8.toNat e; simp at this; omega
    · have := congrArg UInt8.toNat e; simp at this; omega
    · have := congrArg UInt8.toNat e; simp at this; omega
  · omega
theorem dec_small {s : List UInt8} {i : Nat} (h : (dec s i).1 < 128) : at_ s i = (dec s i).1 := by
  have h0 := at_lt s i
  rw [dec_rlen] at h ⊢
  split at h
  · simp at h
  · rename_i hr
    rw [if_neg hr]
    simp only at h ⊢
    rcases rlen_cases s i with e | ⟨e, g1⟩ | ⟨e, g1, g2, g3⟩ | ⟨e, g1, g2, g3, g4, g5, g6⟩ | ⟨e, g1, g2, g3, g4, g5, g6, g7⟩
    · exact absurd e hr
    · unfold code; rw [if_pos g1]
    · have ec : code s i = at_ s i % 32 * 64 + at_ s (i + 1) % 64 := by unfold code; rw [if_neg (by omega), if_pos (by omega)]
      omega
    · have ec : code s i = at_ s i % 16 * 4096 + at_ s (i + 1) % 64 * 64 + at_ s (i + 2) % 64 := by unfold code; rw [if_neg (by omega), if_neg (by omega), if_pos (by omega)]
      omega
    · have ec : code s i = at_ s i % 8 * 262144 + at_ s (i + 1) % 64 * 4096 + at_ s (i + 2) % 64 * 64 + at_ s (i + 3) % 64 := by unfold code; rw [if_neg (by omega), if_neg (by omega), if_neg (by omega)]
      omega
theorem iaF_mark (s : List UInt8) : ∀ (f i : Nat), 0 ≤ iaF s f i → ∃ k, k < s.length ∧ hexv (at_ s k) = none
  | 0, i, h => by simp [iaF] at h
  | f + 1, i, h => by
    simp only [iaF] at h
    split at h
    · rename_i hi
      split at h
      · rename_i hm
        have h1 := irv_mark (by omega) hm
        have h2 := dec_small (s := s) (i := i) (by omega)
        refine ⟨i, hi, ?_⟩
        unfold hexv
        rw [if_neg (by omega), if_neg (by omega), if_neg (by omega)]
      · exact iaF_mark s f _ h
    · omega
theorem hexN_none : ∀ (s : List UInt8) (a k : Nat), k < s.length → hexv (at_ s k) = none → hexN s a = none
  | [], a, k, h, _ => by simp at h
  | c :: s, a, 0, h, hn => by
    simp only [hexN]
    rw [show hexv c.toNat = none from hn]
  | c :: s, a, k + 1, h, hn => by
    simp only [hexN]
    split
    · exact hexN_none s _ k (by simpa using h) hn
    · rfl
theorem hexN_lt : ∀ (s : List UInt8) (a n : Nat), hexN s a = some n → n < (a + 1) * 16 ^ s.length
  | [], a, n, h => by simp [hexN] at h; subst h; simp
  | c :: s, a, n, h => by
    simp only [hexN] at h
    split at h
    · rename_i d hd
      have hd' : d < 16 := by
        unfold hexv at hd
        split at hd
        · cases hd; omega
        split at hd
        · cases hd; omega
        split at hd
        · cases hd; omega
        · cases hd
      have := hexN_lt s _ n h
      refine Nat.lt_of_lt_of_le this ?_
      simp only [List.length_cons, Nat.pow_succ]
      rw [Nat.mul_comm (16 ^ s.length) 16, ← Nat.mul_assoc]
      exact Nat.mul_le_mul_right _ (by omega)
    · cases h
end Go.LX
