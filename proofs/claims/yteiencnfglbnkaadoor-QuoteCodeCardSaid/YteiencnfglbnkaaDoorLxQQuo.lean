/- Package quote: Utf, letters, Quote. -/
import Derived.Test.YteiencnfglbnkaaDoorLxQUnq
set_option linter.unusedSimpArgs false
set_option linter.unusedVariables false
set_option linter.unusedSectionVars false
set_option linter.unnecessarySimpa false
set_option linter.unusedSimpArgs false
set_option maxRecDepth 100000
set_option maxHeartbeats 2000000
namespace Go.LX
open Go Go.RowKit Go.Proofs
attribute [local irreducible] LCalls SWP lqcall

theorem take3 {s : List UInt8} {i : Nat} {a b c : UInt8} (h : (s.drop i).take 3 = [a, b, c]) : i + 2 < s.length ∧ at_ s i = a.toNat ∧ at_ s (i + 1) = b.toNat ∧ at_ s (i + 2) = c.toNat := by
  have hl := congrArg List.length h
  simp at hl
  have e : ∀ j, j < 3 → at_ s (i + j) = at_ [a, b, c] j := fun j hj => by
    rw [← h, ← at_drop]
    simp [at_, List.getD_eq_getElem?_getD, List.getElem?_take, hj]
  exact ⟨by omega, e 0 (by decide), e 1 (by decide), e 2 (by decide)⟩
theorem bad_pre {s : List UInt8} {i : Nat} (h : rlen s i = 0) : ¬ (s.drop i).take 3 = [239, 191, 189] := fun he => by
  obtain ⟨h0, h1, h2, h3⟩ := take3 he
  simp only [show (239 : UInt8).toNat = 239 from rfl, show (191 : UInt8).toNat = 191 from rfl, show (189 : UInt8).toNat = 189 from rfl] at h1 h2 h3
  unfold rlen at h
  simp only [ct_iff] at h
  rw [if_neg (by omega), if_neg (by omega), if_pos (by omega), if_neg (by omega)] at h
  cases h
theorem rlen_utf_len {s : List UInt8} {i : Nat} (h : rlen s i ≠ 0) (hi : i < s.length) : (utf (code s i)).length = rlen s i := by
  have h1 := rlen_le s i hi
  rw [utf_code h hi]
  simp; omega
theorem good_pre {s : List UInt8} {i : Nat} (h : rlen s i ≠ 0) (hi : i < s.length) (hc : code s i = 65533) : (s.drop i).take 3 = [239, 191, 189] := by
  have h1 := rlen_utf_len h hi
  have h2 := utf_code h hi
  rw [hc] at h1 h2
  have e : utf ((65533 : Nat) : Int) = [239, 191, 189] := by decide
  rw [e] at h1 h2
  rw [h2, ← h1]
  rfl
theorem d_qUtf (s : List UInt8) (hs : s.length ≤ 1000000) : Det cx 31 [.p (.str s)] [] (.p (.int .i64 (uAt s))) [] := by
  skip
  (refine LCalls.of_code (X := cx) false [] (by simp) Tryd.func31 (by kernel_rfl) rfl (by simp only [List.length_cons, List.length_nil, Tryd.ntmps31]; decide) (by simp) ?_; refine lwp_sound hm _ _ _ ?_; simp only [Tryd.ntmps31, Tryd.results31, e_region, e_seq, e_block, e_loop, k_seq_normal, o_nil, o_cons, k_put, s_put, s_tmp, s_const, v_int, p_move, p_assign, p_range, u_newReg, u_range, u_rg_str, u_drop_nil, u_f_p, slots_set, slots_get, slots_forget, mapW_nil, mapW_cons, argW, List.map_cons, List.map_nil, Nat.reduceLT, true_and, cx_P, ↓reduceIte, reduceCtorEq, Bool.true_and, f_u9])
  (repeat' (first | (refine iteI (fun h => ?_) (fun h => ?_)) | (refine ex_get (by first | omega | (simp (disch := omega) only [wrap_i64, wrap_u8, nil_len] at *; omega)) ?_; intro b hb) | (refine And.intro (by first | omega | (simp (disch := omega) only [wrap_i64, wrap_u8, nil_len] at *; omega)) ?_) | ((first | (refine draw_lex hm (by rfl) (by kernel_rfl) ?_)); simp only [e_scope]) | (exact True.intro) | (exfalso; omega)))
  refine SWP.loop (fun x : Nat × Nat => ⟨slots 23 [(0, .p (.str s)), (6, .ptr 6 0 0)], [(6, .obj (.sit s x.1))]⟩) (fun x => x.1 ≤ s.length ∧ s.length + 1 ≤ x.1 + x.2 ∧ uF s x.2 x.1 = uAt s) (fun x => s.length - x.1) (0, s.length + 1) (St.le_slots (by simp only [wsLe_cons, wsLe_nil, slots_get, slots_get_nil, LLe_junk, Nat.reduceEqDiff, reduceIte, Nat.reduceLT, Nat.reduceLeDiff]; simp (disch := omega) [LLe_junk, LLe_refl, LLe_p, wrap_i64] <;> (repeat' apply And.intro) <;> omega) (by simp (disch := omega) [regsLe, RegLe, tmpsLe, findReg, LLe_junk, LLe_refl, LLe_p, wrap_i64]) (by simp [keysOK])) ⟨by simp, by simp, rfl⟩ ?_
  rintro ⟨i, f⟩ ⟨h1, h2, h3⟩
  simp only at h1 h2 h3
  obtain ⟨g, rfl⟩ : ∃ g, f = g + 1 := ⟨f - 1, by omega⟩
  rw [uF] at h3
  by_cases hlt : ¬ i < s.length
  · rw [if_neg hlt] at h3
    (refine lwp_sound hm _ _ _ ?_; simp only [e_skip, e_region, e_seq, e_cond, e_block, e_exit, e_ret, k_seq_normal, k_seq_exit, k_block_normal, k_block_exit, o_nil, o_cons, o_guard, k_put, k_unit, s_tmp, s_const, s_func, v_bool, v_int, v_str, p_move, p_assign, p_bin, p_pick, p_slice, p_extract, p_len, p_call, p_next, getE_some, u_cond, u_guard, u_gsel, u_gval_t, u_pick, u_bin_int, u_const, u_const_t, u_eql, u_len, u_len_str, u_kp, bnd_none, bnd_some, u_slice, u_sl_ln, u_slG_p, u_extract, u_frz_nil, u_frz_cons, u_frz_p, u_call, u_callT, u_callK0, u_callF, u_callA, u_callR_nil, u_m_p, u_argIds, u_dedup_nil, u_canon_nil, u_next, u_nxT_s, u_nxS, u_kpure, u_kr2, u_kr1, u_res_nil, u_res_tmp, u_kres, u_norm_nil, u_norm_cons, u_normF_none, u_retF, u_ret3, u_renAll_nil, u_resOps_nil, u_resOps_tmp, u_asRes1, u_find_nil, u_find_cons, u_set_cons, u_id_p, k_ret_ret, slots_set, slots_get, kloop, List.map_cons, List.map_nil, List.getD_cons_zero, List.getD_cons_succ, List.append_nil, List.flatMap_cons, List.flatMap_nil, List.getElem?_cons_zero, List.getElem?_cons_succ, beq_iff_eq, Nat.reduceLT, Nat.reduceEqDiff, true_and, and_true, cx_P, cx_kind, ↓reduceIte, reduceCtorEq, Int.toNat_natCast, Int.natCast_nonneg, L.p.injEq, PV.int.injEq, Bool.false_eq_true, Bool.true_and, Bool.and_true, Bool.or_true, f_u9, dec_fold])
    (repeat' (first | (refine iteI (fun h => ?_) (fun h => ?_)) | (refine ex_get (by first | omega | (simp (disch := omega) only [wrap_i64, wrap_u8, nil_len] at *; omega)) ?_; intro b hb) | (refine And.intro (by first | omega | (simp (disch := omega) only [wrap_i64, wrap_u8, nil_len] at *; omega)) ?_) | ((first | (refine draw_lex hm (by rfl) (by kernel_rfl) ?_)); simp only [e_scope]) | (exact True.intro) | (exfalso; omega)))
    rw [h3]
  have hlt := Decidable.not_not.1 hlt
  rw [if_pos hlt] at h3
  have hd := dec_rlen s i
  have hrl := rlen_le s i hlt
  by_cases hr : rlen s i = 0
  · rw [if_pos hr] at h3 hd
    have hb := bad_pre hr
    skip
    (refine lwp_sound hm _ _ _ ?_; simp only [e_skip, e_region, e_seq, e_cond, e_block, e_exit, e_ret, k_seq_normal, k_seq_exit, k_block_normal, k_block_exit, o_nil, o_cons, o_guard, k_put, k_unit, s_tmp, s_const, s_func, v_bool, v_int, v_str, p_move, p_assign, p_bin, p_pick, p_slice, p_extract, p_len, p_call, p_next, getE_some, u_cond, u_guard, u_gsel, u_gval_t, u_pick, u_bin_int, u_const, u_const_t, u_eql, u_len, u_len_str, u_kp, bnd_none, bnd_some, u_slice, u_sl_ln, u_slG_p, u_extract, u_frz_nil, u_frz_cons, u_frz_p, u_call, u_callT, u_callK0, u_callF, u_callA, u_callR_nil, u_m_p, u_argIds, u_dedup_nil, u_canon_nil, u_next, u_nxT_s, u_nxS, u_kpure, u_kr2, u_kr1, u_res_nil, u_res_tmp, u_kres, u_norm_nil, u_norm_cons, u_normF_none, u_retF, u_ret3, u_renAll_nil, u_resOps_nil, u_resOps_tmp, u_asRes1, u_find_nil, u_find_cons, u_set_cons, u_id_p, k_ret_ret, slots_set, slots_get, kloop, List.map_cons, List.map_nil, List.getD_cons_zero, List.getD_cons_succ, List.append_nil, List.flatMap_cons, List.flatMap_nil, List.getElem?_cons_zero, List.getElem?_cons_succ, beq_iff_eq, Nat.reduceLT, Nat.reduceEqDiff, true_and, and_true, cx_P, cx_kind, ↓reduceIte, reduceCtorEq, Int.toNat_natCast, Int.natCast_nonneg, L.p.injEq, PV.int.injEq, Bool.false_eq_true, Bool.true_and, Bool.and_true, Bool.or_true, f_u9, dec_fold, hd])
    (repeat' (first | (refine iteI (fun h => ?_) (fun h => ?_)) | (refine ex_get (by first | omega | (simp (disch := omega) only [wrap_i64, wrap_u8, nil_len] at *; omega)) ?_; intro b hb) | (refine And.intro (by first | omega | (simp (disch := omega) only [wrap_i64, wrap_u8, nil_len] at *; omega)) ?_) | ((first | (refine draw_lex hm (by rfl) (by kernel_rfl) ?_) | (refine Det.use (d_HasPrefix _ _ (by rw [List.length_drop]; omega) (by decide)) ?_) | (refine Det.useQ (d_HasPrefix _ _ (by rw [List.length_drop]; omega) (by decide)) ?_) | (refine XCalls.use (d_HasPrefix _ _ (by rw [List.length_drop]; omega) (by decide)) ?_)); simp only [e_skip, e_region, e_seq, e_cond, e_ret, k_seq_normal, k_seq_ret, k_block_normal, k_block_ret, o_nil, o_cons, o_guard, k_put, s_put, s_tmp, s_const, v_bool, p_move, p_assign, p_un, p_pick, u_cond, u_guard, u_gsel, u_gval_t, u_pick, u_not, u_frz_nil, u_frz_cons, u_frz_p, u_kback0_nil, u_m_p, u_kpure, u_kr2, u_kr1, u_res_nil, u_res_tmp, u_kres, u_norm_nil, u_norm_cons, u_normF_none, u_retF, u_ret3, u_renAll_nil, u_resOps_nil, u_resOps_tmp, u_asRes1, u_find_nil, u_find_cons, k_ret_ret, slots_set, slots_get, kloop, List.map_cons, List.map_nil, List.getD_cons_zero, List.getD_cons_succ, List.length_cons, List.length_nil, beq_eq_false_iff_ne, Bool.not_eq_eq_eq_not, ne_eq, Nat.reduceLT, Nat.reduceEqDiff, Nat.reduceAdd, true_and, and_true, ↓reduceIte, Nat.zero_add, Bool.not_true, L.p.injEq, PV.int.injEq, Bool.true_and, Bool.and_true]) | (exact True.intro) | (exfalso; omega)))
    · rw [h3]
    · exfalso; exact absurd (Decidable.not_not.1 (by assumption)) hb
  · rw [if_neg hr] at h3 hd
    have hb := good_pre hr hlt
    skip
    (refine lwp_sound hm _ _ _ ?_; simp only [e_skip, e_region, e_seq, e_cond, e_block, e_exit, e_ret, k_seq_normal, k_seq_exit, k_block_normal, k_block_exit, o_nil, o_cons, o_guard, k_put, k_unit, s_tmp, s_const, s_func, v_bool, v_int, v_str, p_move, p_assign, p_bin, p_pick, p_slice, p_extract, p_len, p_call, p_next, getE_some, u_cond, u_guard, u_gsel, u_gval_t, u_pick, u_bin_int, u_const, u_const_t, u_eql, u_len, u_len_str, u_kp, bnd_none, bnd_some, u_slice, u_sl_ln, u_slG_p, u_extract, u_frz_nil, u_frz_cons, u_frz_p, u_call, u_callT, u_callK0, u_callF, u_callA, u_callR_nil, u_m_p, u_argIds, u_dedup_nil, u_canon_nil, u_next, u_nxT_s, u_nxS, u_kpure, u_kr2, u_kr1, u_res_nil, u_res_tmp, u_kres, u_norm_nil, u_norm_cons, u_normF_none, u_retF, u_ret3, u_renAll_nil, u_resOps_nil, u_resOps_tmp, u_asRes1, u_find_nil, u_find_cons, u_set_cons, u_id_p, k_ret_ret, slots_set, slots_get, kloop, List.map_cons, List.map_nil, List.getD_cons_zero, List.getD_cons_succ, List.append_nil, List.flatMap_cons, List.flatMap_nil, List.getElem?_cons_zero, List.getElem?_cons_succ, beq_iff_eq, Nat.reduceLT, Nat.reduceEqDiff, true_and, and_true, cx_P, cx_kind, ↓reduceIte, reduceCtorEq, Int.toNat_natCast, Int.natCast_nonneg, L.p.injEq, PV.int.injEq, Bool.false_eq_true, Bool.true_and, Bool.and_true, Bool.or_true, f_u9, dec_fold, hd, hd])
    (repeat' (first | (refine iteI (fun h => ?_) (fun h => ?_)) | (refine ex_get (by first | omega | (simp (disch := omega) only [wrap_i64, wrap_u8, nil_len] at *; omega)) ?_; intro b hb) | (refine And.intro (by first | omega | (simp (disch := omega) only [wrap_i64, wrap_u8, nil_len] at *; omega)) ?_) | ((first | (refine draw_lex hm (by rfl) (by kernel_rfl) ?_) | (refine Det.use (d_HasPrefix _ _ (by rw [List.length_drop]; omega) (by decide)) ?_) | (refine Det.useQ (d_HasPrefix _ _ (by rw [List.length_drop]; omega) (by decide)) ?_) | (refine XCalls.use (d_HasPrefix _ _ (by rw [List.length_drop]; omega) (by decide)) ?_)); simp only [e_skip, e_region, e_seq, e_cond, e_ret, k_seq_normal, k_seq_ret, k_block_normal, k_block_ret, o_nil, o_cons, o_guard, k_put, s_put, s_tmp, s_const, v_bool, p_move, p_assign, p_un, p_pick, u_cond, u_guard, u_gsel, u_gval_t, u_pick, u_not, u_frz_nil, u_frz_cons, u_frz_p, u_kback0_nil, u_m_p, u_kpure, u_kr2, u_kr1, u_res_nil, u_res_tmp, u_kres, u_norm_nil, u_norm_cons, u_normF_none, u_retF, u_ret3, u_renAll_nil, u_resOps_nil, u_resOps_tmp, u_asRes1, u_find_nil, u_find_cons, k_ret_ret, slots_set, slots_get, kloop, List.map_cons, List.map_nil, List.getD_cons_zero, List.getD_cons_succ, List.length_cons, List.length_nil, beq_eq_false_iff_ne, Bool.not_eq_eq_eq_not, ne_eq, Nat.reduceLT, Nat.reduceEqDiff, Nat.reduceAdd, true_and, and_true, ↓reduceIte, Nat.zero_add, Bool.not_true, L.p.injEq, PV.int.injEq, Bool.true_and, Bool.and_true]) | (exact True.intro) | (exfalso; omega)))
    · exfalso; exact absurd (hb (by omega)) (by assumption)
    · exact ⟨(i + rlen s i, g), ⟨by simp only; omega, by simp only; omega, h3⟩, by simp only; omega, (St.le_slots (by simp only [wsLe_cons, wsLe_nil, slots_get, slots_get_nil, LLe_junk, Nat.reduceEqDiff, reduceIte, Nat.reduceLT, Nat.reduceLeDiff]; simp (disch := omega) [LLe_junk, LLe_refl, LLe_p, wrap_i64] <;> (repeat' apply And.intro) <;> omega) (by simp (disch := omega) [regsLe, RegLe, tmpsLe, findReg, LLe_junk, LLe_refl, LLe_p, wrap_i64]) (by simp [keysOK]))⟩
    · exact ⟨(i + rlen s i, g), ⟨by simp only; omega, by simp only; omega, h3⟩, by simp only; omega, (St.le_slots (by simp only [wsLe_cons, wsLe_nil, slots_get, slots_get_nil, LLe_junk, Nat.reduceEqDiff, reduceIte, Nat.reduceLT, Nat.reduceLeDiff]; simp (disch := omega) [LLe_junk, LLe_refl, LLe_p, wrap_i64] <;> (repeat' apply And.intro) <;> omega) (by simp (disch := omega) [regsLe, RegLe, tmpsLe, findReg, LLe_junk, LLe_refl, LLe_p, wrap_i64]) (by simp [keysOK]))⟩
def letR (r : Int) : Option Nat :=
  if r = 34 then some 34 else if r = 92 then some 92 else if r = 8 then some 98 else if r = 12 then some 102 else if r = 10 then some 110 else if r = 13 then some 114 else if r = 9 then some 116 else none
def letN : Nat → Nat
  | 0 => 34 | 1 => 92 | 2 => 47 | 3 => 8 | 4 => 12 | 5 => 10 | 6 => 13 | 7 => 9 | _ => 0
theorem short_at {i : Nat} {p : PV × PV} (h : shortL[i]? = some p) : i < 8 ∧ ∃ c r : Nat, p = (.int .u8 c, .int .i32 r) := by
  have hl := (List.getElem?_eq_some_iff.1 h).1
  have h8 : i < 8 := hl
  refine ⟨h8, ?_⟩
  have key : ∀ j : Fin 8, ∃ c r : Nat, shortL[j.val]? = some (.int .u8 c, .int .i32 r) := by
    intro j
    match j with
    | ⟨0, _⟩ => exact ⟨34, 34, rfl⟩
    | ⟨1, _⟩ => exact ⟨92, 92, rfl⟩
    | ⟨2, _⟩ => exact ⟨47, 47, rfl⟩
    | ⟨3, _⟩ => exact ⟨98, 8, rfl⟩
    | ⟨4, _⟩ => exact ⟨102, 12, rfl⟩
    | ⟨5, _⟩ => exact ⟨110, 10, rfl⟩
    | ⟨6, _⟩ => exact ⟨114, 13, rfl⟩
    | ⟨7, _⟩ => exact ⟨116, 9, rfl⟩
  obtain ⟨c, r, hk⟩ := key ⟨i, h8⟩
  rw [hk] at h
  exact ⟨c, r, (Option.some.inj h).symm⟩
theorem key_short {i j : Nat} {v w k : PV} (hi : shortL[i]? = some (v, k)) (hj : shortL[j]? = some (w, k)) : i = j := by
  obtain ⟨h1, a, r, e1⟩ := short_at hi
  obtain ⟨h2, b, q, e2⟩ := short_at hj
  obtain ⟨rfl, rfl⟩ := Prod.mk.inj e1
  obtain ⟨rfl, e3⟩ := Prod.mk.inj e2
  have hrq : r = q := by injection e3 with _ h; omega
  subst hrq
  have key : ∀ i j : Fin 8, ∀ a b r : Nat, shortL[i.val]? = some (.int .u8 a, .int .i32 r) → shortL[j.val]? = some (.int .u8 b, .int .i32 r) → (letN i.val = r ∧ letN j.val = r) := by
    intro i j a b r hi hj
    have f : ∀ k : Fin 8, ∀ c q : Nat, shortL[k.val]? = some (.int .u8 c, .int .i32 q) → letN k.val = q := by
      intro k c q h
      match k, h with
      | ⟨0, _⟩, h => cases h; rfl
      | ⟨1, _⟩, h => cases h; rfl
      | ⟨2, _⟩, h => cases h; rfl
      | ⟨3, _⟩, h => cases h; rfl
      | ⟨4, _⟩, h => cases h; rfl
      | ⟨5, _⟩, h => cases h; rfl
      | ⟨6, _⟩, h => cases h; rfl
      | ⟨7, _⟩, h => cases h; rfl
    exact ⟨f i a r hi, f j b r hj⟩
  obtain ⟨k1, k2⟩ := key ⟨i, h1⟩ ⟨j, h2⟩ a b r hi hj
  have inj : ∀ i j : Fin 8, letN i.val = letN j.val → i = j := by decide
  exact congrArg Fin.val (inj ⟨i, h1⟩ ⟨j, h2⟩ (k1.trans k2.symm))
theorem rune_short {i : Nat} {v : PV} {r : Int} (h : shortL[i]? = some (v, .int .i32 r)) : r = 34 ∨ r = 92 ∨ r = 47 ∨ r = 8 ∨ r = 12 ∨ r = 10 ∨ r = 13 ∨ r = 9 := by
  obtain ⟨h8, _⟩ := short_at h
  have f : ∀ k : Fin 8, shortL[k.val]? = some (v, .int .i32 r) → r = 34 ∨ r = 92 ∨ r = 47 ∨ r = 8 ∨ r = 12 ∨ r = 10 ∨ r = 13 ∨ r = 9 := by
    intro k h
    match k, h with
    | ⟨0, _⟩, h => cases h; simp
    | ⟨1, _⟩, h => cases h; simp
    | ⟨2, _⟩, h => cases h; simp
    | ⟨3, _⟩, h => cases h; simp
    | ⟨4, _⟩, h => cases h; simp
    | ⟨5, _⟩, h => cases h; simp
    | ⟨6, _⟩, h => cases h; simp
    | ⟨7, _⟩, h => cases h; simp
  exact f ⟨i, h8⟩ h
/-- What the map of letters tells. -/
def LetMap (es : List (PV × PV)) : Prop := ∀ r : Int, (letR r = none ∧ mfind (.int .i32 r) es 0 = some none) ∨ ∃ i c, letR r = some c ∧ c ≤ 116 ∧ mfind (.int .i32 r) es 0 = some (some (i, .int .u8 c))
theorem d_letters : LCalls cx 53 [] [] (fun m q => q = [] ∧ ∃ es, m = .p (.mp es) ∧ LetMap es) := by
  (refine LCalls.of_code (X := cx) false [] (by simp) Tryd.func53 (by kernel_rfl) rfl (by simp only [List.length_nil, Tryd.ntmps53]; decide) (by simp) ?_; refine lwp_sound hm _ _ _ ?_; simp only [Tryd.ntmps53, Tryd.results53, e_region, e_seq, k_seq_normal, o_nil, o_cons, k_put, s_put, s_tmp, s_const, s_func, v_nmap, p_assign, p_call, p_makeMap, u_newReg, u_frz_nil, u_call, u_callT, u_callK0, u_callF, u_callA, u_callR_nil, u_argIds, u_dedup_nil, u_canon_nil, u_makeMap, u_drop_nil, u_f_p, slots_set, slots_get, slots_forget, mapW_nil, mapW_cons, argW, List.map_cons, List.map_nil, List.append_nil, List.flatMap_nil, Nat.reduceLT, Nat.reduceEqDiff, true_and, cx_P, cx_kind, ↓reduceIte, Bool.true_and])
  (repeat' (first | (refine iteI (fun h => ?_) (fun h => ?_)) | (refine ex_get (by first | omega | (simp (disch := omega) only [wrap_i64, wrap_u8, nil_len] at *; omega)) ?_; intro b hb) | (refine And.intro (by first | omega | (simp (disch := omega) only [wrap_i64, wrap_u8, nil_len] at *; omega)) ?_) | ((first | (refine draw_lex hm (by rfl) (by kernel_rfl) ?_) | (refine Det.use (d_short) ?_) | (refine Det.useQ (d_short) ?_) | (refine XCalls.use (d_short) ?_)); simp only [e_block, e_loop, k_seq_normal, o_nil, o_cons, s_put, s_tmp, p_range, u_newReg, u_kback0_nil, u_m_p, u_range, u_rg_mp, u_drop_nil, u_drop_cons, u_fg_obj, u_f_p, u_f_mref, slots_set, slots_get, slots_forget, mapW_nil, mapW_cons, Nat.reduceLT, Nat.reduceEqDiff, true_and, cx_P, ↓reduceIte, Bool.true_and, f_u99]) | (exact True.intro) | (exfalso; omega)))
  refine SWP.loop (fun x : List (PV × PV) × List Nat => ⟨slots 17 [(1, .mref 4), (6, .ptr 6 0 0)], [(6, .obj (.mit shortL x.2)), (4, .obj (.mp x.1))]⟩) (fun x => MapF (isIntKey .i32) x.1 ∧ ∀ k v, (k, v) ∈ x.1 ↔ ∃ i ∈ x.2, shortL[i]? = some (v, k)) (fun x => unseen x.2 8) ([], []) (St.le_slots (by simp only [wsLe_cons, wsLe_nil, slots_get, slots_get_nil, LLe_junk, Nat.reduceEqDiff, reduceIte, Nat.reduceLT, Nat.reduceLeDiff]; simp (disch := omega) [LLe_junk, LLe_refl, LLe_p, wrap_i64] <;> (repeat' apply And.intro) <;> omega) (by simp (disch := omega) [regsLe, RegLe, tmpsLe, findReg, LLe_junk, LLe_refl, LLe_p, wrap_i64]) (by simp [keysOK])) ⟨MapF.nil, by simp⟩ ?_
  rintro ⟨es, seen⟩ ⟨h1, h2⟩
  simp only at h1 h2
  (refine lwp_sound hm _ _ _ ?_; simp only [e_skip, e_region, e_seq, e_cond, e_block, e_exit, k_seq_normal, k_seq_exit, k_block_exit, o_nil, o_cons, k_put, s_tmp, s_const, v_int, p_move, p_assign, p_extract, p_next, p_entry, p_mapUpdate, p_delete, getE_some, u_cond, u_kp, u_extract, u_frz_nil, u_frz_cons, u_frz_p, u_next, u_nxT_m, u_nxM, u_entry, u_enT, u_enM, u_mapUpdate, u_muF, u_muT, u_muR, u_delete, u_mdT, u_mdR, u_keyFits, u_kfit_int, u_find_cons, u_set_cons, slots_set, slots_get, kloop, List.map_cons, List.map_nil, List.getElem?_cons_zero, List.getElem?_cons_succ, Nat.reduceLT, Nat.reduceEqDiff, true_and, cx_P, ↓reduceIte, Bool.false_eq_true, Bool.true_and, beq_self_eq_true, f_u21, f_m79])
  refine ⟨fun j p hj hns => ?_, fun hall => ?_⟩
  · obtain ⟨h8, c, r, rfl⟩ := short_at hj
    refine ⟨_, hj, ?_⟩
    obtain ⟨es', e1, g1, g2⟩ := mput_spec (v := .int .u8 c) (intKeys .i32) (k := .int .i32 r) ⟨_, rfl⟩ h1
    skip
    simp only [k_block_normal, o_nil, k_unit_none, whenS_some, u_muS, u_kfit_int, u_set_cons, kloop, Nat.reduceEqDiff, true_and, ↓reduceIte, Bool.true_and, beq_self_eq_true, e1]
    refine ⟨(es', seen ++ [j]), ⟨g1, fun k v => ?_⟩, unseen_lt hns h8, (St.le_slots (by simp only [wsLe_cons, wsLe_nil, slots_get, slots_get_nil, LLe_junk, Nat.reduceEqDiff, reduceIte, Nat.reduceLT, Nat.reduceLeDiff]; simp (disch := omega) [LLe_junk, LLe_refl, LLe_p, wrap_i64] <;> (repeat' apply And.intro) <;> omega) (by simp (disch := omega) [regsLe, RegLe, tmpsLe, findReg, LLe_junk, LLe_refl, LLe_p, wrap_i64]) (by simp [keysOK]))⟩
    rw [g2]
    constructor
    · rintro (⟨rfl, rfl⟩ | ⟨_, hm⟩)
      · exact ⟨j, by simp, hj⟩
      · obtain ⟨i, hi, he⟩ := (h2 k v).1 hm
        exact ⟨i, by simp [hi], he⟩
    · rintro ⟨i, hi, he⟩
      rw [List.mem_append, List.mem_singleton] at hi
      rcases hi with hi | rfl
      · refine .inr ⟨fun hk => ?_, (h2 k v).2 ⟨i, hi, he⟩⟩
        subst hk
        have := key_short he hj
        subst this
        exact hns hi
      · rw [hj] at he
        have := Prod.mk.inj (Option.some.inj he)
        exact .inl ⟨this.2.symm, this.1.symm⟩
  · obtain ⟨es', e1, g1, g2⟩ := mdel_spec (intKeys .i32) (k := .int .i32 47) ⟨_, rfl⟩ h1
    skip
    simp only [e_region, e_seq, e_ret, k_seq_normal, o_nil, o_cons, k_put, k_unit_none, s_tmp, p_move, p_assign, whenS_some, u_frz_nil, u_frz_cons, u_frz_mref, u_freeze, u_fzOf_mp, u_frzBy, u_muS, u_kpure, u_kr2, u_kr1, u_res_nil, u_res_tmp, u_kres, u_norm_nil, u_norm_cons, u_normF_none, u_retF, u_ret3, u_renAll_nil, u_resOps_nil, u_resOps_tmp, u_asRes1, u_find_nil, u_find_cons, u_set_cons, u_frzR_nil, u_frzR_cons, u_fz_obj, u_z_p, u_z_tup, u_z_ptr, u_z_mref, k_ret_ret, slots_set, slots_get, slots_freeze, mapW_nil, mapW_cons, List.map_cons, List.map_nil, Nat.reduceLT, Nat.reduceEqDiff, true_and, ↓reduceIte, L.p.injEq, Bool.true_and, e1, e1]
    refine ⟨es', rfl, fun r => ?_⟩
    have inn : ∀ (i : Nat) (c r : Int), shortL[i]? = some (.int .u8 c, .int .i32 r) → r ≠ 47 → ∃ j, mfind (.int .i32 r) es' 0 = some (some (j, .int .u8 c)) := fun i c r hi hr =>
      mfind_in (intKeys .i32) g1 ((g2 _ _).2 ⟨fun e => hr (by injection e), (h2 _ _).2 ⟨i, hall i (List.getElem?_eq_some_iff.1 hi).1, hi⟩⟩)
    unfold letR
    by_cases c1 : r = 34
    · subst c1; obtain ⟨j, hj⟩ := inn 0 34 34 rfl (by decide); exact .inr ⟨j, 34, rfl, by decide, hj⟩
    by_cases c2 : r = 92
    · subst c2; obtain ⟨j, hj⟩ := inn 1 92 92 rfl (by decide); exact .inr ⟨j, 92, rfl, by decide, hj⟩
    by_cases c3 : r = 8
    · subst c3; obtain ⟨j, hj⟩ := inn 3 98 8 rfl (by decide); exact .inr ⟨j, 98, rfl, by decide, hj⟩
    by_cases c4 : r = 12
    · subst c4; obtain ⟨j, hj⟩ := inn 4 102 12 rfl (by decide); exact .inr ⟨j, 102, rfl, by decide, hj⟩
    by_cases c5 : r = 10
    · subst c5; obtain ⟨j, hj⟩ := inn 5 110 10 rfl (by decide); exact .inr ⟨j, 110, rfl, by decide, hj⟩
    by_cases c6 : r = 13
    · subst c6; obtain ⟨j, hj⟩ := inn 6 114 13 rfl (by decide); exact .inr ⟨j, 114, rfl, by decide, hj⟩
    by_cases c7 : r = 9
    · subst c7; obtain ⟨j, hj⟩ := inn 7 116 9 rfl (by decide); exact .inr ⟨j, 116, rfl, by decide, hj⟩
    refine .inl ⟨by simp [*], mfind_out (intKeys .i32) ⟨_, rfl⟩ g1 fun v hv => ?_⟩
    obtain ⟨hne, hm⟩ := (g2 _ _).1 hv
    obtain ⟨i, _, hi⟩ := (h2 _ _).1 hm
    have h47 : r ≠ 47 := fun e => hne (by rw [e])
    have := rune_short hi
    omega
end Go.LX
/- Package quote: Quote. -/
set_option linter.unusedSimpArgs false
set_option maxRecDepth 100000
set_option maxHeartbeats 2000000
namespace Go.LX
open Go Go.RowKit Go.Proofs
attribute [local irreducible] LCalls SWP lqcall

theorem wrs_app (a b : List UInt8) : wrs (a ++ b) = wrs a ++ wrs b := by simp [wrs]
/-- A rune, written. -/
def qr (r : Int) : List UInt8 := match letR r with
  | some c => [92, UInt8.ofNat c]
  | none => if r < 32 then [92, 117, 48, 48] ++ (hex3 (r.toNat + 256)).drop 1 else utf r
theorem wr_high {c : Nat} (h : 128 ≤ c) : wr c = [UInt8.ofNat c] := by
  unfold wr
  rw [if_neg (by omega), if_neg (by omega), if_neg (by omega), if_neg (by omega), if_neg (by omega), if_neg (by omega), if_neg (by omega), if_neg (by omega)]
theorem wr_low {c : Nat} (h : c < 128) : wr c = qr c := by
  have key : ∀ m : Fin 128, wr m.val = qr m.val := by decide
  exact key ⟨c, h⟩
theorem wrs_high : ∀ l : List UInt8, (∀ c ∈ l, 128 ≤ c.toNat) → wrs l = l
  | [], _ => rfl
  | c :: l, h => by
    show wr c.toNat ++ wrs l = c :: l
    rw [wr_high (h c List.mem_cons_self), wrs_high l fun d hd => h d (List.mem_cons_of_mem _ hd)]
    simp
theorem letR_high {r : Int} (h : 93 ≤ r) : letR r = none := by
  unfold letR
  rw [if_neg (by omega), if_neg (by omega), if_neg (by omega), if_neg (by omega), if_neg (by omega), if_neg (by omega), if_neg (by omega)]
theorem qr_chunk {s : List UInt8} {i : Nat} (h : rlen s i ≠ 0) (hi : i < s.length) : wrs ((s.drop i).take (rlen s i)) = qr (code s i) := by
  by_cases h1 : at_ s i < 128
  · rw [rlen_one.2 h1, (code_small h).2 h1, ← wr_low h1]
    rw [List.drop_eq_getElem_cons hi, List.take_succ_cons, List.take_zero]
    show wr s[i].toNat ++ [] = wr (at_ s i)
    rw [List.append_nil, at_get hi]
  · have hc : 128 ≤ code s i := by have := (code_small h).1; omega
    have e : qr (code s i) = utf (code s i) := by
      unfold qr
      rw [letR_high (by omega)]
      simp only
      rw [if_neg (by omega)]
    rw [e, utf_code h hi]
    apply wrs_high
    intro c hm
    rw [← utf_code h hi] at hm
    obtain ⟨x, hx, rfl⟩ := List.mem_map.1 hm
    have hx2 : 128 ≤ x ∧ x < 256 := by
      revert hx
      unfold utfC
      rw [if_neg (by omega)]
      repeat' split
      all_goals (simp; try omega)
    have := u8of_toNat (c := x) (by omega) (by omega)
    omega
theorem d_String_rows (es : List (List PV)) (s : List UInt8) (n : Nat) (he : es = bstr s) (hn : s.length = n) (h1 : n ≤ 1000000000) (h0 : n ≠ 0) : Det cx 48 [.ptr 1000 0 0] [(500001, .row 5 1 es), (1000, .var 68 [.ptr 1000 0 0, .own 500001 0 n])] (.p (.str s)) [(1000, .var 68 [.ptr 1000 0 0, .junk])] := by
  subst he
  exact d_String_used s n hn h1 h0
@[simp] theorem bstr_34 : bstr [34] = [[.int .u8 34]] := rfl
theorem hex3_len (u : Nat) : (hex3 u).length = 3 := rfl
theorem d_Quote (s : List UInt8) (hs : s.length ≤ 1000000) (hv : valid s = true) : Det cx 34 [.p (.str s)] [] (.p (.str (refQ s))) [] := by
  skip
  (refine LCalls.of_code (X := cx) false [] (by simp) Tryd.func34 (by kernel_rfl) rfl (by simp only [List.length_cons, List.length_nil, Tryd.ntmps34]; decide) (by simp) ?_; refine lwp_sound hm _ _ _ ?_; simp only [Tryd.ntmps34, Tryd.results34, e_region, e_seq, k_seq_normal, o_nil, o_cons, k_put, s_put, s_const, s_func, v_str, p_assign, p_alloc, p_call, whenS_some, u_kalloc, u_alloc, u_newReg, u_frz_nil, u_call, u_callT, u_callK0, u_callF, u_callA, u_callR_nil, u_argIds, u_dedup_nil, u_canon_nil, u_drop_nil, u_f_p, slots_set, slots_forget, mapW_nil, mapW_cons, argW, List.map_cons, List.map_nil, List.append_nil, List.flatMap_nil, Nat.reduceLT, Nat.reduceEqDiff, true_and, cx_P, cx_kind, ↓reduceIte, Bool.true_and, f_z68])
  (repeat' (first | (refine iteI (fun h => ?_) (fun h => ?_)) | (refine ex_get (by first | omega | (simp (disch := omega) only [wrap_i64, wrap_u8, nil_len] at *; omega)) ?_; intro b hb) | (refine And.intro (by first | omega | (simp (disch := omega) only [wrap_i64, wrap_u8, nil_len] at *; omega)) ?_) | ((first | (refine draw_lex hm (by rfl) (by kernel_rfl) ?_)); simp only [e_scope]) | (exact True.intro) | (exfalso; omega)))
  refine d_letters.mono fun m q hm' => ?_
  obtain ⟨rfl, es, rfl, hL⟩ := hm'
  simp only [e_region, e_seq, k_seq_normal, o_nil, o_cons, k_put, s_put, s_tmp, s_const, s_func, v_int, p_assign, p_call, u_frz_nil, u_frz_cons, u_frz_p, u_frz_ptr, u_call, u_callT, u_callK0, u_callF, u_callA, u_callR_cons, u_kback0_nil, u_up_cons, u_upR_nil, u_upR_cons, u_upF_some, u_mR_var, u_m_p, u_m_ptr, u_ptrO, u_argIds, u_dedup_nil, u_dedup_cons, u_canon_cons, u_canonOf, u_canonD_nil, u_canonD_cons, u_canonI_nil, u_reach1, u_reach2, u_regIds_nil, u_regIds_cons, u_rid_var, u_id_p, u_id_ptr, slots_set, slots_get, List.map_cons, List.map_nil, List.length_cons, List.length_nil, List.append_nil, List.flatMap_cons, List.flatMap_nil, List.contains_cons, List.contains_nil, Nat.reduceLT, Nat.reduceEqDiff, Nat.reduceAdd, cx_kind, ↓reduceIte, Nat.zero_add, Bool.false_eq_true, Bool.or_false, beq_self_eq_true]
  (repeat' (first | (refine iteI (fun h => ?_) (fun h => ?_)) | (refine ex_get (by first | omega | (simp (disch := omega) only [wrap_i64, wrap_u8, nil_len] at *; omega)) ?_; intro b hb) | (refine And.intro (by first | omega | (simp (disch := omega) only [wrap_i64, wrap_u8, nil_len] at *; omega)) ?_) | ((first | (refine draw_lex hm (by rfl) (by kernel_rfl) ?_) | (refine Det.use (d_WriteByte_fresh 34) ?_) | (refine Det.useQ (d_WriteByte_fresh 34) ?_) | (refine XCalls.use (d_WriteByte_fresh 34) ?_)); simp only [e_region, e_seq, e_block, e_loop, k_seq_normal, o_nil, o_cons, k_put, s_put, s_tmp, p_move, p_range, u_newReg, u_kback, u_tmpsBy_cons, u_moved_some, u_movedL_nil, u_movedL_cons, u_after, u_new_some, u_newF, u_old_nil, u_old_cons, u_oldN_some, u_oldF_some, u_keepIt_some, u_newOf, u_newO_t, u_findKey_cons, u_up_cons, u_dn_cons, u_back_some, u_backN_some, u_stay_cons, u_stay_nil, u_mR_var, u_mR_row, u_m_p, u_m_ptr, u_m_own, u_ptrO, u_ownO, u_range, u_rg_str, u_find_cons, u_drop_nil, u_drop_cons, u_fg_var, u_fg_row, u_f_p, u_f_ptr, u_f_own, slots_set, slots_get, slots_forget, slots_keep, mapW_nil, mapW_cons, List.map_cons, List.map_nil, List.cons_append, List.nil_append, decide_eq_true_eq, ne_eq, not_false_eq_true, Nat.reduceLT, Nat.reduceLeDiff, Nat.reduceEqDiff, true_and, cx_P, ↓reduceIte, reduceCtorEq, Bool.true_and, f_u9]) | (exact True.intro) | (exfalso; omega)))
  refine SWP.loop (fun x : Nat × Nat => ⟨slots 41 [(0, .p (.str s)), (3, .ptr 3 0 0), (4, .p (.mp es)), (12, .ptr 12 0 0)], [(12, .obj (.sit s x.1)), (10, .row 5 1 (bstr (34 :: wrs (s.take x.1)))), (3, .var 68 [.ptr 3 0 0, .own 10 0 (34 :: wrs (s.take x.1)).length])]⟩) (fun x => x.1 ≤ s.length ∧ s.length + 1 ≤ x.1 + x.2 ∧ vF s x.2 x.1 = true) (fun x => s.length - x.1) (0, s.length + 1) (St.le_slots (by simp only [wsLe_cons, wsLe_nil, slots_get, slots_get_nil, LLe_junk, Nat.reduceEqDiff, reduceIte, Nat.reduceLT, Nat.reduceLeDiff]; simp (disch := omega) [LLe_junk, LLe_refl, LLe_p, wrap_i64] <;> (repeat' apply And.intro) <;> omega) (by simp (disch := omega) [regsLe, RegLe, tmpsLe, findReg, LLe_junk, LLe_refl, LLe_p, wrap_i64]) (by simp [keysOK])) ⟨by simp, by simp, hv⟩ ?_
  rintro ⟨i, f⟩ ⟨h1, h2, h3⟩
  simp only at h1 h2 h3
  obtain ⟨g, rfl⟩ : ∃ g, f = g + 1 := ⟨f - 1, by omega⟩
  have hw := wrs_le (s.take i)
  have hl : (s.take i).length ≤ s.length := List.length_take_le' ..
  rw [vF] at h3
  by_cases hlt : ¬ i < s.length
  · have ht : s.take i = s := List.take_of_length_le (by omega)
    rw [ht] at hw ⊢
    (refine lwp_sound hm _ _ _ ?_; simp only [e_skip, e_region, e_seq, e_cond, e_block, e_exit, k_seq_normal, k_seq_exit, k_block_exit, o_nil, o_cons, k_put, s_tmp, s_const, s_func, v_int, p_move, p_assign, p_extract, p_call, p_next, p_lookup, getE_some, u_cond, u_kp, u_extract, u_frz_nil, u_frz_cons, u_frz_p, u_frz_ptr, u_call, u_callT, u_callK0, u_callF, u_callA, u_callR_cons, u_up_nil, u_up_cons, u_upR_nil, u_upR_cons, u_upF_some, u_upF_none, u_mR_var, u_mR_row, u_m_p, u_m_ptr, u_m_own, u_ptrO, u_ownO, u_argIds, u_dedup_nil, u_dedup_cons, u_canon_cons, u_canonOf, u_canonD_nil, u_canonD_cons, u_canonI_nil, u_canonI_cons, u_reach1, u_reach2, u_regIds_nil, u_regIds_cons, u_next, u_nxT_s, u_nxS, u_lookup, u_lkT, u_mapOf_mp, u_keyFits, u_kfit_int, u_find_cons, u_set_cons, u_rid_var, u_rid_row, u_id_p, u_id_ptr, u_id_own, slots_set, slots_get, kloop, List.map_cons, List.map_nil, List.length_cons, List.length_nil, List.cons_append, List.nil_append, List.append_nil, List.flatMap_cons, List.flatMap_nil, List.contains_cons, List.contains_nil, List.getElem?_cons_zero, List.getElem?_cons_succ, Nat.reduceLT, Nat.reduceLeDiff, Nat.reduceEqDiff, Nat.reduceAdd, Nat.reduceBEq, true_and, and_true, cx_P, cx_kind, ↓reduceIte, reduceCtorEq, Nat.zero_add, Bool.false_eq_true, Bool.true_and, Bool.and_true, Bool.or_false, beq_self_eq_true, f_zo5, f_u21, f_m79, dec_fold])
    (repeat' (first | (refine iteI (fun h => ?_) (fun h => ?_)) | (refine ex_get (by first | omega | (simp (disch := omega) only [wrap_i64, wrap_u8, nil_len] at *; omega)) ?_; intro b hb) | (refine And.intro (by first | omega | (simp (disch := omega) only [wrap_i64, wrap_u8, nil_len] at *; omega)) ?_) | ((first | (refine draw_lex hm (by rfl) (by kernel_rfl) ?_) | (refine Det.use (d_WriteByte_used 34 _ _ (bstr_len _) (by simp; omega)) ?_) | (refine Det.useQ (d_WriteByte_used 34 _ _ (bstr_len _) (by simp; omega)) ?_) | (refine XCalls.use (d_WriteByte_used 34 _ _ (bstr_len _) (by simp; omega)) ?_) | (refine Det.use (d_String_rows _ (34 :: wrs s ++ [34]) _ (by simp [bstr]) (by simp) (by simp; omega) (by simp)) ?_) | (refine Det.useQ (d_String_rows _ (34 :: wrs s ++ [34]) _ (by simp [bstr]) (by simp) (by simp; omega) (by simp)) ?_) | (refine XCalls.use (d_String_rows _ (34 :: wrs s ++ [34]) _ (by simp [bstr]) (by simp) (by simp; omega) (by simp)) ?_)); simp only [e_region, e_seq, e_ret, k_seq_normal, o_nil, o_cons, k_put, s_put, s_tmp, s_func, p_assign, p_call, u_frz_nil, u_frz_cons, u_frz_p, u_frz_ptr, u_call, u_callT, u_callK0, u_callF, u_callA, u_callR_cons, u_kback, u_tmpsBy_cons, u_regBy_cons, u_moved_none, u_movedL_nil, u_movedL_cons, u_after, u_new_none, u_old_nil, u_old_cons, u_oldN_some, u_oldN_none, u_oldF_some, u_oldF_none, u_keepIt_none, u_newOf, u_newO_f, u_findKey_nil, u_findKey_cons, u_up_nil, u_up_cons, u_dn_cons, u_back_none, u_stay_cons, u_stay_nil, u_upR_nil, u_upR_cons, u_upF_some, u_upF_none, u_mR_var, u_mR_row, u_mR_obj, u_m_p, u_m_ptr, u_m_own, u_m_tup, u_m_junk, u_ptrO, u_ownO, u_argIds, u_dedup_nil, u_dedup_cons, u_canon_cons, u_canonOf, u_canonD_nil, u_canonD_cons, u_canonI_nil, u_canonI_cons, u_reach1, u_reach2, u_regIds_nil, u_regIds_cons, u_kpure, u_kr2, u_kr1, u_res_nil, u_res_tmp, u_kres, u_norm_nil, u_norm_cons, u_normF_none, u_retF, u_ret3, u_renAll_nil, u_resOps_nil, u_resOps_tmp, u_asRes1, u_find_nil, u_find_cons, u_rid_var, u_rid_row, u_id_ptr, u_id_own, k_ret_ret, slots_set, slots_get, slots_keep, mapW_nil, mapW_cons, List.map_cons, List.map_nil, List.length_cons, List.length_nil, List.cons_append, List.nil_append, List.append_nil, List.flatMap_cons, List.flatMap_nil, List.contains_cons, List.contains_nil, Nat.reduceLT, Nat.reduceLeDiff, Nat.reduceEqDiff, Nat.reduceAdd, Nat.reduceBEq, and_true, cx_kind, ↓reduceIte, reduceCtorEq, Nat.zero_add, L.p.injEq, PV.str.injEq, Bool.false_eq_true, Bool.and_true, Bool.or_false, beq_self_eq_true]) | (exact True.intro) | (exfalso; omega)))
    rfl
  have hlt := Decidable.not_not.1 hlt
  rw [if_pos hlt] at h3
  have hd := dec_rlen s i
  have hrl := rlen_le s i hlt
  by_cases hr : rlen s i = 0
  · rw [if_pos hr] at h3; cases h3
  rw [if_neg hr] at h3 hd
  have hR := code_isRune hr
  unfold isRune at hR
  have hq : wrs (s.take (i + rlen s i)) = wrs (s.take i) ++ qr (code s i) := by
    rw [List.take_add, wrs_app, qr_chunk hr hlt]
  have hw0 := wi0 (c := code s i) (by omega)
  have hw1 : IntKind.i64.wrap ((code s i : Int) + 256) = ((code s i + 256 : Nat) : Int) := by rw [wrap_i64 (by omega) (by omega)]; omega
  rcases hL (code s i) with ⟨hlr, hmf⟩ | ⟨j, c, hlr, hc, hmf⟩
  · skip
    (refine lwp_sound hm _ _ _ ?_; simp only [e_skip, e_region, e_seq, e_cond, e_block, e_exit, k_seq_normal, k_seq_exit, k_block_exit, o_nil, o_cons, k_put, s_tmp, s_const, s_func, v_int, v_str, p_move, p_assign, p_bin, p_extract, p_call, p_next, p_lookup, whenS_some, getE_some, u_cond, u_bin_int, u_const, u_const_t, u_lss, u_kp, u_extract, u_frz_nil, u_frz_cons, u_frz_p, u_frz_ptr, u_call, u_callT, u_callK0, u_callF, u_callA, u_callR_cons, u_up_nil, u_up_cons, u_upR_nil, u_upR_cons, u_upF_some, u_upF_none, u_mR_var, u_mR_row, u_m_p, u_m_ptr, u_m_own, u_ptrO, u_ownO, u_argIds, u_dedup_nil, u_dedup_cons, u_canon_cons, u_canonOf, u_canonD_nil, u_canonD_cons, u_canonI_nil, u_canonI_cons, u_reach1, u_reach2, u_regIds_nil, u_regIds_cons, u_next, u_nxT_s, u_nxS, u_lookup, u_lkT, u_lkZ, u_lkV_nt, u_mapOf_mp, u_keyFits, u_kfit_int, u_find_cons, u_set_cons, u_rid_var, u_rid_row, u_id_p, u_id_ptr, u_id_own, slots_set, slots_get, kloop, List.map_cons, List.map_nil, List.length_cons, List.length_nil, List.cons_append, List.nil_append, List.append_nil, List.flatMap_cons, List.flatMap_nil, List.contains_cons, List.contains_nil, List.getElem?_cons_zero, List.getElem?_cons_succ, decide_eq_true_eq, Nat.reduceLT, Nat.reduceLeDiff, Nat.reduceEqDiff, Nat.reduceAdd, Nat.reduceBEq, true_and, and_true, cx_P, cx_kind, ↓reduceIte, reduceCtorEq, Nat.zero_add, Bool.false_eq_true, Bool.true_and, Bool.and_true, Bool.or_false, Bool.or_true, beq_self_eq_true, f_zo5, f_u21, f_m79, dec_fold, hd, hmf])
    (repeat' (first | (refine iteI (fun h => ?_) (fun h => ?_)) | (refine ex_get (by first | omega | (simp (disch := omega) only [wrap_i64, wrap_u8, nil_len] at *; omega)) ?_; intro b hb) | (refine And.intro (by first | omega | (simp (disch := omega) only [wrap_i64, wrap_u8, nil_len] at *; omega)) ?_) | ((first | (refine draw_lex hm (by rfl) (by kernel_rfl) ?_) | (refine Det.use (d_WriteString_used _ _ _ (by simp [bstr]) (by simp; omega) (by simp [hex3])) ?_) | (refine Det.useQ (d_WriteString_used _ _ _ (by simp [bstr]) (by simp; omega) (by simp [hex3])) ?_) | (refine XCalls.use (d_WriteString_used _ _ _ (by simp [bstr]) (by simp; omega) (by simp [hex3])) ?_) | (refine Det.use (d_FormatInt (code s i + 256) (by omega) (by omega)) ?_) | (refine Det.useQ (d_FormatInt (code s i + 256) (by omega) (by omega)) ?_) | (refine XCalls.use (d_FormatInt (code s i + 256) (by omega) (by omega)) ?_) | (refine Det.use (d_WriteRune_used _ _ _ (bstr_len _) (by simp; omega) (by omega) (by omega)) ?_) | (refine Det.useQ (d_WriteRune_used _ _ _ (bstr_len _) (by simp; omega) (by omega) (by omega)) ?_) | (refine XCalls.use (d_WriteRune_used _ _ _ (bstr_len _) (by simp; omega) (by omega) (by omega)) ?_)); simp only [e_region, k_seq_normal, k_block_normal, o_nil, o_cons, k_put, s_put, s_tmp, s_const, s_func, v_int, p_move, p_bin, p_conv, p_slice, p_call, u_bin_int, u_const, u_const_t, u_add, u_cvF, u_cvG_int, u_conv, u_conv_int, bnd_none, bnd_some, u_slice, u_sl_ln, u_slG_p, u_frz_nil, u_frz_cons, u_frz_p, u_frz_ptr, u_call, u_callT, u_callK0, u_callF, u_callA, u_callR_cons, u_callR_nil, u_kback0_nil, u_kback, u_tmpsBy_cons, u_regBy_cons, u_moved_none, u_movedL_nil, u_movedL_cons, u_after, u_new_none, u_old_nil, u_old_cons, u_oldN_some, u_oldN_none, u_oldF_some, u_keepIt_none, u_newOf, u_newO_f, u_findKey_nil, u_findKey_cons, u_up_nil, u_up_cons, u_dn_cons, u_back_none, u_stay_cons, u_stay_nil, u_upR_nil, u_upR_cons, u_upF_some, u_upF_none, u_mR_var, u_mR_row, u_mR_obj, u_m_p, u_m_ptr, u_m_own, u_m_tup, u_ptrO, u_ownO, u_argIds, u_dedup_nil, u_dedup_cons, u_canon_nil, u_canon_cons, u_canonOf, u_canonD_nil, u_canonD_cons, u_canonI_nil, u_canonI_cons, u_reach1, u_reach2, u_regIds_nil, u_regIds_cons, u_find_cons, u_rid_var, u_rid_row, u_id_p, u_id_ptr, u_id_own, slots_set, slots_get, slots_keep, mapW_nil, mapW_cons, kloop, List.map_cons, List.map_nil, List.length_cons, List.length_nil, List.cons_append, List.nil_append, List.append_nil, List.flatMap_cons, List.flatMap_nil, List.contains_cons, List.contains_nil, Nat.reduceLT, Nat.reduceLeDiff, Nat.reduceEqDiff, Nat.reduceAdd, Nat.reduceBEq, Int.reduceToNat, Int.reduceLE, true_and, and_true, cx_P, cx_kind, ↓reduceIte, reduceCtorEq, Nat.zero_add, Bool.false_eq_true, Bool.true_and, Bool.and_true, Bool.or_false, Bool.or_true, beq_self_eq_true, f_u2, f_u9, f_u21, hw0, hw1, hex3_len]) | (exact True.intro) | (exfalso; omega)))
    · have hqr : qr (code s i) = [92, 117, 48, 48] ++ (hex3 (code s i + 256)).drop 1 := by
        unfold qr; rw [hlr]; simp only; rw [if_pos (by omega)]; rfl
      have hrow : bstr (34 :: wrs (s.take (i + rlen s i))) = bstr (34 :: wrs (s.take i)) ++ bstr [92, 117, 48, 48] ++ bstr ((hex3 (code s i + 256)).drop 1) := by
        rw [hq, hqr, ← List.cons_append, bstr_app, bstr_app, List.append_assoc]
      have hlen : (wrs (s.take (i + rlen s i))).length + 1 = (wrs (s.take i)).length + 1 + 4 + ((hex3 (code s i + 256)).drop 1).length := by rw [hq, hqr]; simp [hex3]
      refine ⟨(i + rlen s i, g), ⟨by simp only; omega, by simp only; omega, h3⟩, by simp only; omega, ?_⟩
      simp only [List.length_cons]
      rw [hrow, hlen]
      exact (St.le_slots (by simp only [wsLe_cons, wsLe_nil, slots_get, slots_get_nil, LLe_junk, Nat.reduceEqDiff, reduceIte, Nat.reduceLT, Nat.reduceLeDiff]; simp (disch := omega) [LLe_junk, LLe_refl, LLe_p, wrap_i64] <;> (repeat' apply And.intro) <;> omega) (by simp (disch := omega) [regsLe, RegLe, tmpsLe, findReg, LLe_junk, LLe_refl, LLe_p, wrap_i64]) (by simp [keysOK]))
    · have hqr : qr (code s i) = utf (code s i) := by
        unfold qr; rw [hlr]; simp only; rw [if_neg (by omega)]
      have hrow : bstr (34 :: wrs (s.take (i + rlen s i))) = bstr (34 :: wrs (s.take i)) ++ bstr (utf (code s i)) := by
        rw [hq, hqr, ← List.cons_append, bstr_app]
      have hlen : (wrs (s.take (i + rlen s i))).length + 1 = (wrs (s.take i)).length + 1 + (utf (code s i)).length := by rw [hq, hqr]; simp; omega
      refine ⟨(i + rlen s i, g), ⟨by simp only; omega, by simp only; omega, h3⟩, by simp only; omega, ?_⟩
      simp only [List.length_cons]
      rw [hrow, hlen]
      exact (St.le_slots (by simp only [wsLe_cons, wsLe_nil, slots_get, slots_get_nil, LLe_junk, Nat.reduceEqDiff, reduceIte, Nat.reduceLT, Nat.reduceLeDiff]; simp (disch := omega) [LLe_junk, LLe_refl, LLe_p, wrap_i64] <;> (repeat' apply And.intro) <;> omega) (by simp (disch := omega) [regsLe, RegLe, tmpsLe, findReg, LLe_junk, LLe_refl, LLe_p, wrap_i64]) (by simp [keysOK]))
  · skip
    (refine lwp_sound hm _ _ _ ?_; simp only [e_skip, e_region, e_seq, e_cond, e_block, e_exit, k_seq_normal, k_seq_exit, k_block_exit, o_nil, o_cons, k_put, s_tmp, s_const, s_func, v_int, p_move, p_assign, p_extract, p_call, p_next, p_lookup, whenS_some, getE_some, u_cond, u_kp, u_extract, u_frz_nil, u_frz_cons, u_frz_p, u_frz_ptr, u_call, u_callT, u_callK0, u_callF, u_callA, u_callR_cons, u_up_nil, u_up_cons, u_upR_nil, u_upR_cons, u_upF_some, u_upF_none, u_mR_var, u_mR_row, u_m_p, u_m_ptr, u_m_own, u_ptrO, u_ownO, u_argIds, u_dedup_nil, u_dedup_cons, u_canon_cons, u_canonOf, u_canonD_nil, u_canonD_cons, u_canonI_nil, u_canonI_cons, u_reach1, u_reach2, u_regIds_nil, u_regIds_cons, u_next, u_nxT_s, u_nxS, u_lookup, u_lkT, u_lkZ, u_lkV_st, u_mapOf_mp, u_keyFits, u_kfit_int, u_find_cons, u_set_cons, u_rid_var, u_rid_row, u_id_p, u_id_ptr, u_id_own, slots_set, slots_get, kloop, List.map_cons, List.map_nil, List.length_cons, List.length_nil, List.cons_append, List.nil_append, List.append_nil, List.flatMap_cons, List.flatMap_nil, List.contains_cons, List.contains_nil, List.getElem?_cons_zero, List.getElem?_cons_succ, Nat.reduceLT, Nat.reduceLeDiff, Nat.reduceEqDiff, Nat.reduceAdd, Nat.reduceBEq, true_and, and_true, cx_P, cx_kind, ↓reduceIte, reduceCtorEq, Nat.zero_add, Bool.false_eq_true, Bool.true_and, Bool.and_true, Bool.or_false, beq_self_eq_true, f_zo5, f_u21, f_m79, dec_fold, hd, hmf, hd, hmf])
    (repeat' (first | (refine iteI (fun h => ?_) (fun h => ?_)) | (refine ex_get (by first | omega | (simp (disch := omega) only [wrap_i64, wrap_u8, nil_len] at *; omega)) ?_; intro b hb) | (refine And.intro (by first | omega | (simp (disch := omega) only [wrap_i64, wrap_u8, nil_len] at *; omega)) ?_) | ((first | (refine draw_lex hm (by rfl) (by kernel_rfl) ?_) | (refine Det.use (d_WriteByte_used _ _ _ (by simp [bstr]) (by simp; omega)) ?_) | (refine Det.useQ (d_WriteByte_used _ _ _ (by simp [bstr]) (by simp; omega)) ?_) | (refine XCalls.use (d_WriteByte_used _ _ _ (by simp [bstr]) (by simp; omega)) ?_)); simp only [e_region, e_seq, k_seq_normal, k_block_normal, o_nil, o_cons, k_put, s_put, s_tmp, s_func, p_move, p_call, u_frz_nil, u_frz_cons, u_frz_p, u_frz_ptr, u_call, u_callT, u_callK0, u_callF, u_callA, u_callR_cons, u_kback, u_tmpsBy_cons, u_regBy_cons, u_moved_none, u_movedL_nil, u_movedL_cons, u_after, u_new_none, u_old_nil, u_old_cons, u_oldN_some, u_oldN_none, u_oldF_some, u_keepIt_none, u_newOf, u_newO_f, u_findKey_nil, u_findKey_cons, u_up_nil, u_up_cons, u_dn_cons, u_back_none, u_stay_cons, u_stay_nil, u_upR_nil, u_upR_cons, u_upF_some, u_upF_none, u_mR_var, u_mR_row, u_mR_obj, u_m_p, u_m_ptr, u_m_own, u_m_tup, u_ptrO, u_ownO, u_argIds, u_dedup_nil, u_dedup_cons, u_canon_cons, u_canonOf, u_canonD_nil, u_canonD_cons, u_canonI_nil, u_canonI_cons, u_reach1, u_reach2, u_regIds_nil, u_regIds_cons, u_find_cons, u_rid_var, u_rid_row, u_id_p, u_id_ptr, u_id_own, slots_set, slots_get, slots_keep, mapW_nil, mapW_cons, kloop, List.map_cons, List.map_nil, List.length_cons, List.length_nil, List.cons_append, List.nil_append, List.append_nil, List.flatMap_cons, List.flatMap_nil, List.contains_cons, List.contains_nil, Nat.reduceLT, Nat.reduceLeDiff, Nat.reduceEqDiff, Nat.reduceAdd, Nat.reduceBEq, and_true, cx_kind, ↓reduceIte, reduceCtorEq, Nat.zero_add, Bool.false_eq_true, Bool.and_true, Bool.or_false, beq_self_eq_true]) | (exact True.intro) | (exfalso; omega)))
    have hqr : qr (code s i) = [92, UInt8.ofNat c] := by
      unfold qr; rw [hlr]
    have hrow : bstr (34 :: wrs (s.take (i + rlen s i))) = bstr (34 :: wrs (s.take i)) ++ [[.int .u8 92]] ++ [[.int .u8 c]] := by
      rw [hq, hqr, ← List.cons_append, bstr_app, List.append_assoc]
      simp [bstr]
      omega
    have hlen : (wrs (s.take (i + rlen s i))).length + 1 = (wrs (s.take i)).length + 1 + 1 + 1 := by rw [hq, hqr]; simp
    refine ⟨(i + rlen s i, g), ⟨by simp only; omega, by simp only; omega, h3⟩, by simp only; omega, ?_⟩
    simp only [List.length_cons]
    rw [hrow, hlen]
    exact (St.le_slots (by simp only [wsLe_cons, wsLe_nil, slots_get, slots_get_nil, LLe_junk, Nat.reduceEqDiff, reduceIte, Nat.reduceLT, Nat.reduceLeDiff]; simp (disch := omega) [LLe_junk, LLe_refl, LLe_p, wrap_i64] <;> (repeat' apply And.intro) <;> omega) (by simp (disch := omega) [regsLe, RegLe, tmpsLe, findReg, LLe_junk, LLe_refl, LLe_p, wrap_i64]) (by simp [keysOK]))
end Go.LX
