/- Package quote: Unquote, Utf. -/
import Derived.Test.YteiencnfglbnkaaDoorLxQNum
set_option linter.unusedSimpArgs false
set_option linter.unusedVariables false
set_option linter.unusedSectionVars false
set_option linter.unnecessarySimpa false
set_option linter.unusedSimpArgs false
set_option maxRecDepth 100000
set_option maxHeartbeats 2000000
namespace Go.LX
open Go Go.RowKit Go.Proofs
attribute [local irreducible] LCalls SWP lqcall

theorem code_small {s : List UInt8} {i : Nat} (h : rlen s i ≠ 0) : (code s i < 128 ↔ at_ s i < 128) ∧ (at_ s i < 128 → code s i = at_ s i) := by
  have h0 := at_lt s i
  rcases rlen_cases s i with e | ⟨e, g1⟩ | ⟨e, g1, g2, g3⟩ | ⟨e, g1, g2, g3, g4, g5, g6⟩ | ⟨e, g1, g2, g3, g4, g5, g6, g7⟩
  · exact absurd e h
  · have ec : code s i = at_ s i := by unfold code; rw [if_pos g1]
    omega
  · have ec : code s i = at_ s i % 32 * 64 + at_ s (i + 1) % 64 := by unfold code; rw [if_neg (by omega), if_pos (by omega)]
    omega
  · have ec : code s i = at_ s i % 16 * 4096 + at_ s (i + 1) % 64 * 64 + at_ s (i + 2) % 64 := by unfold code; rw [if_neg (by omega), if_neg (by omega), if_pos (by omega)]
    omega
  · have ec : code s i = at_ s i % 8 * 262144 + at_ s (i + 1) % 64 * 4096 + at_ s (i + 2) % 64 * 64 + at_ s (i + 3) % 64 := by unfold code; rw [if_neg (by omega), if_neg (by omega), if_neg (by omega)]
    omega
theorem rlen_one {s : List UInt8} {i : Nat} : rlen s i = 1 ↔ at_ s i < 128 := by
  rcases rlen_cases s i with e | ⟨e, g1⟩ | ⟨e, g1, g2, g3⟩ | ⟨e, g1, g2, g3, g4, g5, g6⟩ | ⟨e, g1, g2, g3, g4, g5, g6, g7⟩
  · constructor
    · omega
    · intro h; unfold rlen at e; rw [if_pos h] at e; cases e
  all_goals omega
theorem decGo_bad {s : List UInt8} {i : Nat} (h : i < s.length) (hr : rlen s i = 0) : decGo (s.drop i) = (65533, 1) := by
  unfold decGo
  rw [if_neg (by rw [List.length_drop]; omega), dec_drop, Nat.add_zero, dec_rlen, if_pos hr]
theorem decGo_good {s : List UInt8} {i : Nat} (h : i < s.length) (hr : rlen s i ≠ 0) : decGo (s.drop i) = (code s i, rlen s i) := by
  unfold decGo
  rw [if_neg (by rw [List.length_drop]; omega), dec_drop, Nat.add_zero, dec_rlen, if_neg hr]
theorem escR_isRune {s : List UInt8} (h : (escR s).2 ≠ 0) : isRune (escR s).1 := by
  have h1 := u4_le s
  have h2 := u4_le (s.drop 6)
  unfold escR at h ⊢
  unfold isRune
  split at h
  · exact absurd rfl h
  · rename_i hl
    rw [if_neg hl]
    split at h
    · rename_i r hr
      have : r ≤ 92 := by rcases mfind_short (at_ s 1) with ⟨e, _⟩ | ⟨i, r', e, hr', _⟩ <;> rw [hr] at e <;> cases e; exact hr'
      simp only; omega
    · split at h
      · exact absurd rfl h
      · rename_i g1
        rw [if_neg g1]
        split at h
        · rename_i g2
          rw [if_pos g2]; simp only; omega
        · rename_i g2
          rw [if_neg g2]
          split at h
          · exact absurd rfl h
          · rename_i g3
            rw [if_neg g3]; simp only; omega
theorem utf_pos (r : Int) : 1 ≤ (utf r).length := by
  rw [utf_len]; unfold utfC
  repeat' split
  all_goals simp
def uqSt (i : Nat) (s : List UInt8) : List UInt8 → St
  | [] => ⟨slots 60 [(0, .p (.str s)), (5, .ptr 5 0 0), (6, .p (.int .i64 i))], [(5, .var 68 [.p .nptr, .p .snil])]⟩
  | c :: t => ⟨slots 60 [(0, .p (.str s)), (5, .ptr 5 0 0), (6, .p (.int .i64 i))], [(54, .row 5 1 (bstr (c :: t))), (5, .var 68 [.ptr 5 0 0, .own 54 0 (c :: t).length])]⟩
theorem uqSt_ne {i : Nat} {s out : List UInt8} (h : out ≠ []) : uqSt i s out = ⟨slots 60 [(0, .p (.str s)), (5, .ptr 5 0 0), (6, .p (.int .i64 i))], [(54, .row 5 1 (bstr out)), (5, .var 68 [.ptr 5 0 0, .own 54 0 out.length])]⟩ := by
  cases out with
  | nil => exact absurd rfl h
  | cons c t => rfl
theorem uqSt_nil {i : Nat} {s : List UInt8} : uqSt i s [] = ⟨slots 60 [(0, .p (.str s)), (5, .ptr 5 0 0), (6, .p (.int .i64 i))], [(5, .var 68 [.p .nptr, .p .snil])]⟩ := rfl
theorem pre1 {s : List UInt8} : s.take 1 = [34] ↔ ¬ (s.length = 0 ∨ at_ s 0 ≠ 34) := by
  match s with
  | [] => simp
  | a :: t =>
    simp only [List.take_succ_cons, List.take_zero, List.cons.injEq, and_true, at_cons0, List.length_cons]
    constructor
    · rintro rfl; simp
    · intro h
      exact UInt8.toNat_inj.1 (by simp at h ⊢; exact h)
theorem d_Unquote (s : List UInt8) (hs : s.length ≤ 1000000) : Det cx 29 [.p (.str s)] [] (.tup [.str (uq s).1, .int .i64 (uq s).2.1, .int .i64 (uq s).2.2]) [] := by
  (refine LCalls.of_code (X := cx) false [] (by simp) Tryd.func29 (by kernel_rfl) rfl (by simp only [List.length_cons, List.length_nil, Tryd.ntmps29]; decide) (by simp) ?_; refine lwp_sound hm _ _ _ ?_; simp only [Tryd.ntmps29, Tryd.results29, e_region, e_seq, k_seq_normal, o_nil, o_cons, k_put, s_tmp, s_const, s_func, v_int, v_str, p_move, p_assign, p_call, u_frz_nil, u_frz_cons, u_frz_p, u_call, u_callT, u_callK0, u_callF, u_callA, u_callR_nil, u_m_p, u_argIds, u_dedup_nil, u_canon_nil, u_id_p, slots_set, slots_get, argW, List.map_cons, List.map_nil, List.append_nil, List.flatMap_cons, List.flatMap_nil, Nat.reduceLT, Nat.reduceEqDiff, cx_P, cx_kind, ↓reduceIte, reduceCtorEq])
  (repeat' (first | (refine iteI (fun h => ?_) (fun h => ?_)) | (refine ex_get (by first | omega | (simp (disch := omega) only [wrap_i64, wrap_u8, nil_len] at *; omega)) ?_; intro b hb) | (refine And.intro (by first | omega | (simp (disch := omega) only [wrap_i64, wrap_u8, nil_len] at *; omega)) ?_) | ((first | (refine draw_lex hm (by rfl) (by kernel_rfl) ?_) | (refine Det.use (d_HasPrefix s _ hs (by decide)) ?_) | (refine Det.useQ (d_HasPrefix s _ hs (by decide)) ?_) | (refine XCalls.use (d_HasPrefix s _ hs (by decide)) ?_)); simp only [e_skip, e_region, e_seq, e_cond, e_block, e_loop, e_ret, k_seq_normal, k_seq_ret, o_nil, o_cons, k_put, s_put, s_tmp, s_const, v_int, v_str, p_assign, p_un, p_alloc, whenS_some, u_cond, u_not, u_kalloc, u_alloc, u_newReg, u_frz_nil, u_frz_cons, u_frz_p, u_kback0_nil, u_m_p, u_kpure, u_kr2, u_kr1, u_res_nil, u_res_tmp, u_kres, u_norm_nil, u_norm_cons, u_normF_none, u_retF, u_ret3, u_renAll_nil, u_resOps_nil, u_resOps_tmp, u_asRes2, u_find_nil, u_drop_nil, u_f_p, k_ret_ret, slots_set, slots_get, slots_forget, mapW_nil, mapW_cons, List.map_cons, List.map_nil, List.length_cons, List.length_nil, beq_eq_false_iff_ne, Bool.not_eq_eq_eq_not, ne_eq, Nat.reduceLT, Nat.reduceEqDiff, true_and, and_true, cx_P, ↓reduceIte, Nat.zero_add, Bool.not_true, PV.int.injEq, PV.str.injEq, L.tup.injEq, List.cons.injEq, Bool.true_and, Bool.and_true, f_z68]) | (exact True.intro) | (exfalso; omega)))
  · unfold uq; rw [if_pos (by rw [pre1] at *; exact Decidable.not_not.1 (by assumption))]; exact ⟨rfl, rfl, rfl⟩
  have hp : ¬ (s.length = 0 ∨ at_ s 0 ≠ 34) := pre1.1 (Decidable.not_not.1 (by assumption))
  have e : uq s = uqF s (s.length + 1) 1 [] := by unfold uq; rw [if_neg hp]
  refine SWP.loop (fun x : Nat × Nat × List UInt8 => uqSt x.1 s x.2.2) (fun x => 1 ≤ x.1 ∧ x.1 ≤ s.length ∧ s.length + 1 ≤ x.1 + x.2.1 ∧ x.2.2.length ≤ 4 * x.1 ∧ uqF s x.2.1 x.1 x.2.2 = uq s) (fun x => s.length - x.1) (1, s.length + 1, []) (St.le_slots (by simp only [wsLe_cons, wsLe_nil, slots_get, slots_get_nil, LLe_junk, Nat.reduceEqDiff, reduceIte, Nat.reduceLT, Nat.reduceLeDiff]; simp (disch := omega) [LLe_junk, LLe_refl, LLe_p, wrap_i64] <;> (repeat' apply And.intro) <;> omega) (by simp (disch := omega) [regsLe, RegLe, tmpsLe, findReg, LLe_junk, LLe_refl, LLe_p, wrap_i64]) (by simp [keysOK])) ⟨by simp, by simp only; omega, by simp, by simp, e.symm⟩ ?_
  rintro ⟨i, f, out⟩ ⟨h0, h1, h2, h3, h4⟩
  simp only at h0 h1 h2 h3 h4
  obtain ⟨g, rfl⟩ : ∃ g, f = g + 1 := ⟨f - 1, by omega⟩
  show SWP _ _ _ _ (uqSt i s out)
  by_cases hlt : ¬ i < s.length
  · rw [uqF, if_neg hlt] at h4
    by_cases hne : out = []
    · subst hne
      rw [uqSt_nil]
      (refine lwp_sound hm _ _ _ ?_; simp only [e_skip, e_region, e_seq, e_cond, e_block, e_exit, e_ret, k_seq_normal, k_seq_exit, k_block_exit, o_nil, o_cons, k_put, s_tmp, s_const, s_func, v_int, v_str, p_move, p_assign, p_bin, p_slice, p_len, p_call, u_cond, u_bin_int, u_const_t, u_lss, u_len, u_len_str, bnd_none, bnd_some, u_slice, u_sl_ln, u_slG_p, u_frz_nil, u_frz_cons, u_frz_p, u_call, u_callT, u_callK0, u_callF, u_callA, u_callR_nil, u_m_p, u_argIds, u_dedup_nil, u_canon_nil, u_kpure, u_kr2, u_kr1, u_res_nil, u_res_tmp, u_kres, u_norm_nil, u_norm_cons, u_normF_none, u_retF, u_ret3, u_renAll_nil, u_resOps_nil, u_resOps_tmp, u_asRes2, u_find_nil, u_find_cons, u_id_p, k_ret_ret, slots_set, slots_get, kloop, List.map_cons, List.map_nil, List.append_nil, List.flatMap_cons, List.flatMap_nil, decide_eq_true_eq, Nat.reduceLT, Nat.reduceEqDiff, true_and, and_true, cx_P, cx_kind, ↓reduceIte, reduceCtorEq, Int.toNat_natCast, Int.natCast_nonneg, PV.int.injEq, PV.str.injEq, L.tup.injEq, List.cons.injEq, Bool.true_and, Bool.and_true, Bool.or_false, f_u9])
      (repeat' (first | (refine iteI (fun h => ?_) (fun h => ?_)) | (refine ex_get (by first | omega | (simp (disch := omega) only [wrap_i64, wrap_u8, nil_len] at *; omega)) ?_; intro b hb) | (refine And.intro (by first | omega | (simp (disch := omega) only [wrap_i64, wrap_u8, nil_len] at *; omega)) ?_) | ((first | (refine draw_lex hm (by rfl) (by kernel_rfl) ?_)); simp only [e_scope]) | (exact True.intro) | (exfalso; omega)))
      rw [← h4]; exact ⟨rfl, rfl, rfl⟩
    · rw [uqSt_ne hne]
      (refine lwp_sound hm _ _ _ ?_; simp only [e_skip, e_region, e_seq, e_cond, e_block, e_exit, e_ret, k_seq_normal, k_seq_exit, k_block_exit, o_nil, o_cons, k_put, s_tmp, s_const, s_func, v_int, v_str, p_move, p_assign, p_bin, p_slice, p_len, p_call, u_cond, u_bin_int, u_const_t, u_lss, u_len, u_len_str, bnd_none, bnd_some, u_slice, u_sl_ln, u_slG_p, u_frz_nil, u_frz_cons, u_frz_p, u_call, u_callT, u_callK0, u_callF, u_callA, u_callR_nil, u_m_p, u_argIds, u_dedup_nil, u_canon_nil, u_kpure, u_kr2, u_kr1, u_res_nil, u_res_tmp, u_kres, u_norm_nil, u_norm_cons, u_normF_none, u_retF, u_ret3, u_renAll_nil, u_resOps_nil, u_resOps_tmp, u_asRes2, u_find_nil, u_find_cons, u_id_p, k_ret_ret, slots_set, slots_get, kloop, List.map_cons, List.map_nil, List.append_nil, List.flatMap_cons, List.flatMap_nil, decide_eq_true_eq, Nat.reduceLT, Nat.reduceEqDiff, true_and, and_true, cx_P, cx_kind, ↓reduceIte, reduceCtorEq, Int.toNat_natCast, Int.natCast_nonneg, PV.int.injEq, PV.str.injEq, L.tup.injEq, List.cons.injEq, Bool.true_and, Bool.and_true, Bool.or_false, f_u9])
      (repeat' (first | (refine iteI (fun h => ?_) (fun h => ?_)) | (refine ex_get (by first | omega | (simp (disch := omega) only [wrap_i64, wrap_u8, nil_len] at *; omega)) ?_; intro b hb) | (refine And.intro (by first | omega | (simp (disch := omega) only [wrap_i64, wrap_u8, nil_len] at *; omega)) ?_) | ((first | (refine draw_lex hm (by rfl) (by kernel_rfl) ?_)); simp only [e_scope]) | (exact True.intro) | (exfalso; omega)))
      rw [← h4]; exact ⟨rfl, rfl, rfl⟩
  · have hlt := Decidable.not_not.1 hlt
    have ht := tk_le s i hlt
    rw [uqF, if_pos hlt] at h4
    by_cases hr : rlen s i = 0
    · have hd := decGo_bad hlt hr
      have ha : 128 ≤ at_ s i := Nat.le_of_not_lt fun h => by rw [rlen_one.2 h] at hr; cases hr
      have h5 : (tk s i).2 = 0 := by unfold tk; rw [if_neg (by omega)]; exact hr
      rw [if_neg (by omega), if_pos (.inl h5)] at h4
      by_cases hne : out = []
      · subst hne
        rw [uqSt_nil]
        skip
        (refine lwp_sound hm _ _ _ ?_; simp only [e_skip, e_region, e_seq, e_cond, e_block, e_exit, e_ret, k_seq_normal, k_seq_exit, k_block_exit, o_nil, o_cons, k_put, s_tmp, s_const, s_func, v_int, v_str, p_move, p_assign, p_bin, p_slice, p_len, p_call, u_cond, u_bin_int, u_const_t, u_lss, u_len, u_len_str, bnd_none, bnd_some, u_slice, u_sl_ln, u_slG_p, u_frz_nil, u_frz_cons, u_frz_p, u_call, u_callT, u_callK0, u_callF, u_callA, u_callR_nil, u_m_p, u_argIds, u_dedup_nil, u_canon_nil, u_kpure, u_kr2, u_kr1, u_res_nil, u_res_tmp, u_kres, u_norm_nil, u_norm_cons, u_normF_none, u_retF, u_ret3, u_renAll_nil, u_resOps_nil, u_resOps_tmp, u_asRes2, u_find_nil, u_find_cons, u_id_p, k_ret_ret, slots_set, slots_get, kloop, List.map_cons, List.map_nil, List.append_nil, List.flatMap_cons, List.flatMap_nil, decide_eq_true_eq, Nat.reduceLT, Nat.reduceEqDiff, true_and, and_true, cx_P, cx_kind, ↓reduceIte, reduceCtorEq, Int.toNat_natCast, Int.natCast_nonneg, PV.int.injEq, PV.str.injEq, L.tup.injEq, List.cons.injEq, Bool.true_and, Bool.and_true, Bool.or_false, f_u9])
        (repeat' (first | (refine iteI (fun h => ?_) (fun h => ?_)) | (refine ex_get (by first | omega | (simp (disch := omega) only [wrap_i64, wrap_u8, nil_len] at *; omega)) ?_; intro b hb) | (refine And.intro (by first | omega | (simp (disch := omega) only [wrap_i64, wrap_u8, nil_len] at *; omega)) ?_) | ((first | (refine draw_lex hm (by rfl) (by kernel_rfl) ?_) | (refine Det.use (d_DecodeRune _) ?_) | (refine Det.useQ (d_DecodeRune _) ?_) | (refine XCalls.use (d_DecodeRune _) ?_)); simp only [e_skip, e_region, e_seq, e_cond, e_block, e_ret, k_seq_normal, k_seq_ret, k_block_normal, k_block_ret, o_nil, o_cons, o_guard, k_put, k_unit, s_put, s_tmp, s_const, s_func, v_bool, v_int, v_str, p_move, p_assign, p_bin, p_pick, p_slice, p_extract, p_call, getE_some, u_cond, u_guard, u_gsel, u_gval_t, u_pick, u_bin_int, u_const, u_const_t, u_eql, u_lss, u_kp, bnd_none, bnd_some, u_slice, u_sl_ln, u_slG_p, u_extract, u_frz_nil, u_frz_cons, u_frz_p, u_frz_ptr, u_call, u_callT, u_callK0, u_callF, u_callA, u_callR_cons, u_callR_nil, u_kback0_nil, u_up_cons, u_upR_nil, u_upR_cons, u_upF_some, u_mR_var, u_m_p, u_m_ptr, u_m_tup, u_ptrO, u_argIds, u_dedup_nil, u_dedup_cons, u_canon_nil, u_canon_cons, u_canonOf, u_canonD_nil, u_canonD_cons, u_canonI_nil, u_reach1, u_reach2, u_regIds_nil, u_regIds_cons, u_kpure, u_kr2, u_kr1, u_res_nil, u_res_tmp, u_kres, u_norm_nil, u_norm_cons, u_normF_none, u_retF, u_ret3, u_renAll_nil, u_resOps_nil, u_resOps_tmp, u_asRes2, u_find_nil, u_find_cons, u_rid_var, u_id_p, u_id_ptr, k_ret_ret, slots_set, slots_get, kloop, List.map_cons, List.map_nil, List.getD_cons_zero, List.getD_cons_succ, List.length_cons, List.length_nil, List.append_nil, List.flatMap_cons, List.flatMap_nil, List.contains_cons, List.contains_nil, List.getElem?_cons_zero, List.getElem?_cons_succ, decide_eq_true_eq, beq_iff_eq, Nat.reduceLT, Nat.reduceEqDiff, Nat.reduceAdd, true_and, and_true, cx_P, cx_kind, ↓reduceIte, reduceCtorEq, Int.toNat_natCast, Int.natCast_nonneg, Nat.zero_add, PV.int.injEq, PV.str.injEq, L.tup.injEq, List.cons.injEq, Bool.false_eq_true, Bool.true_and, Bool.and_true, Bool.or_false, Bool.or_true, beq_self_eq_true, f_u9, hd]) | (exact True.intro) | (exfalso; omega)))
        rw [← h4]; exact ⟨rfl, rfl, rfl⟩
      · rw [uqSt_ne hne]
        (refine lwp_sound hm _ _ _ ?_; simp only [e_skip, e_region, e_seq, e_cond, e_block, e_exit, e_ret, k_seq_normal, k_seq_exit, k_block_exit, o_nil, o_cons, k_put, s_tmp, s_const, s_func, v_int, v_str, p_move, p_assign, p_bin, p_slice, p_len, p_call, u_cond, u_bin_int, u_const_t, u_lss, u_len, u_len_str, bnd_none, bnd_some, u_slice, u_sl_ln, u_slG_p, u_frz_nil, u_frz_cons, u_frz_p, u_call, u_callT, u_callK0, u_callF, u_callA, u_callR_nil, u_m_p, u_argIds, u_dedup_nil, u_canon_nil, u_kpure, u_kr2, u_kr1, u_res_nil, u_res_tmp, u_kres, u_norm_nil, u_norm_cons, u_normF_none, u_retF, u_ret3, u_renAll_nil, u_resOps_nil, u_resOps_tmp, u_asRes2, u_find_nil, u_find_cons, u_id_p, k_ret_ret, slots_set, slots_get, kloop, List.map_cons, List.map_nil, List.append_nil, List.flatMap_cons, List.flatMap_nil, decide_eq_true_eq, Nat.reduceLT, Nat.reduceEqDiff, true_and, and_true, cx_P, cx_kind, ↓reduceIte, reduceCtorEq, Int.toNat_natCast, Int.natCast_nonneg, PV.int.injEq, PV.str.injEq, L.tup.injEq, List.cons.injEq, Bool.true_and, Bool.and_true, Bool.or_false, f_u9])
        (repeat' (first | (refine iteI (fun h => ?_) (fun h => ?_)) | (refine ex_get (by first | omega | (simp (disch := omega) only [wrap_i64, wrap_u8, nil_len] at *; omega)) ?_; intro b hb) | (refine And.intro (by first | omega | (simp (disch := omega) only [wrap_i64, wrap_u8, nil_len] at *; omega)) ?_) | ((first | (refine draw_lex hm (by rfl) (by kernel_rfl) ?_) | (refine Det.use (d_DecodeRune _) ?_) | (refine Det.useQ (d_DecodeRune _) ?_) | (refine XCalls.use (d_DecodeRune _) ?_)); simp only [e_skip, e_region, e_seq, e_cond, e_block, e_ret, k_seq_normal, k_seq_ret, k_block_normal, k_block_ret, o_nil, o_cons, o_guard, k_put, k_unit, s_put, s_tmp, s_const, s_func, v_bool, v_int, v_str, p_move, p_assign, p_bin, p_pick, p_slice, p_extract, p_call, getE_some, u_cond, u_guard, u_gsel, u_gval_t, u_pick, u_bin_int, u_const, u_const_t, u_eql, u_lss, u_kp, bnd_none, bnd_some, u_slice, u_sl_ln, u_slG_p, u_extract, u_frz_nil, u_frz_cons, u_frz_p, u_frz_ptr, u_call, u_callT, u_callK0, u_callF, u_callA, u_callR_cons, u_callR_nil, u_kback0_nil, u_up_cons, u_upR_nil, u_upR_cons, u_upF_some, u_mR_var, u_mR_row, u_m_p, u_m_ptr, u_m_own, u_m_tup, u_ptrO, u_ownO, u_argIds, u_dedup_nil, u_dedup_cons, u_canon_nil, u_canon_cons, u_canonOf, u_canonD_nil, u_canonD_cons, u_canonI_nil, u_canonI_cons, u_reach1, u_reach2, u_regIds_nil, u_regIds_cons, u_kpure, u_kr2, u_kr1, u_res_nil, u_res_tmp, u_kres, u_norm_nil, u_norm_cons, u_normF_none, u_retF, u_ret3, u_renAll_nil, u_resOps_nil, u_resOps_tmp, u_asRes2, u_find_nil, u_find_cons, u_rid_var, u_rid_row, u_id_p, u_id_ptr, u_id_own, k_ret_ret, slots_set, slots_get, kloop, List.map_cons, List.map_nil, List.getD_cons_zero, List.getD_cons_succ, List.length_cons, List.length_nil, List.cons_append, List.nil_append, List.append_nil, List.flatMap_cons, List.flatMap_nil, List.contains_cons, List.contains_nil, List.getElem?_cons_zero, List.getElem?_cons_succ, decide_eq_true_eq, beq_iff_eq, Nat.reduceLT, Nat.reduceLeDiff, Nat.reduceEqDiff, Nat.reduceAdd, Nat.reduceBEq, true_and, and_true, cx_P, cx_kind, ↓reduceIte, reduceCtorEq, Int.toNat_natCast, Int.natCast_nonneg, Nat.zero_add, PV.int.injEq, PV.str.injEq, L.tup.injEq, List.cons.injEq, Bool.false_eq_true, Bool.true_and, Bool.and_true, Bool.or_false, Bool.or_true, beq_self_eq_true, f_u9, hd]) | (exact True.intro) | (exfalso; omega)))
        rw [← h4]; exact ⟨rfl, rfl, rfl⟩
    · have hd := decGo_good hlt hr
      have hc := code_small hr
      have hone : rlen s i = 1 ↔ at_ s i < 128 := rlen_one
      have hR := code_isRune hr
      unfold isRune at hR
      have hE : (escR (s.drop i)).2 ≠ 0 → 0 ≤ (escR (s.drop i)).1 ∧ (escR (s.drop i)).1 ≤ 1114111 := fun h => by
        have := escR_isRune h
        unfold isRune at this
        omega
      have hEl := escR_le (s.drop i)
      have h4r := rlen_le4 s i
      have hT9 : at_ s i = 92 → (escR (s.drop i)).2 ≠ 0 → tk s i = (utf (escR (s.drop i)).1, (escR (s.drop i)).2) := fun h h' => by
        unfold tk; rw [if_pos h]; unfold escS; rw [if_neg h']
      have hT0 : at_ s i = 92 → (escR (s.drop i)).2 = 0 → (tk s i).2 = 0 := fun h h' => by
        unfold tk; rw [if_pos h]; unfold escS; rw [if_pos h']
      have hTn : at_ s i ≠ 92 → tk s i = (utf (code s i), rlen s i) := fun h => by
        unfold tk; rw [if_neg h, utf_code hr hlt]
      have hu1 := utf_pos (code s i)
      have hu2 := utf_pos (escR (s.drop i)).1
      have hnn : ∀ r, out ++ utf r ≠ [] := fun r h => by have := utf_pos r; rw [(List.append_eq_nil_iff.1 h).2] at this; simp at this
      by_cases hne : out = []
      · subst hne
        rw [uqSt_nil]
        skip
        (refine lwp_sound hm _ _ _ ?_; simp only [e_skip, e_region, e_seq, e_cond, e_block, e_exit, e_ret, k_seq_normal, k_seq_exit, k_block_exit, o_nil, o_cons, k_put, s_tmp, s_const, s_func, v_int, v_str, p_move, p_assign, p_bin, p_slice, p_len, p_call, u_cond, u_bin_int, u_const_t, u_lss, u_len, u_len_str, bnd_none, bnd_some, u_slice, u_sl_ln, u_slG_p, u_frz_nil, u_frz_cons, u_frz_p, u_call, u_callT, u_callK0, u_callF, u_callA, u_callR_nil, u_m_p, u_argIds, u_dedup_nil, u_canon_nil, u_kpure, u_kr2, u_kr1, u_res_nil, u_res_tmp, u_kres, u_norm_nil, u_norm_cons, u_normF_none, u_retF, u_ret3, u_renAll_nil, u_resOps_nil, u_resOps_tmp, u_asRes2, u_find_nil, u_find_cons, u_id_p, k_ret_ret, slots_set, slots_get, kloop, List.map_cons, List.map_nil, List.append_nil, List.flatMap_cons, List.flatMap_nil, decide_eq_true_eq, Nat.reduceLT, Nat.reduceEqDiff, true_and, and_true, cx_P, cx_kind, ↓reduceIte, reduceCtorEq, Int.toNat_natCast, Int.natCast_nonneg, PV.int.injEq, PV.str.injEq, L.tup.injEq, List.cons.injEq, Bool.true_and, Bool.and_true, Bool.or_false, f_u9, wi1 (i := i) (by omega), wia (i := i) (j := rlen s i) (by omega) (by omega), wia (i := i) (j := (escR (s.drop i)).2) (by omega) (by omega)])
        (repeat' (first | (refine iteI (fun h => ?_) (fun h => ?_)) | (refine ex_get (by first | omega | (simp (disch := omega) only [wrap_i64, wrap_u8, nil_len] at *; omega)) ?_; intro b hb) | (refine And.intro (by first | omega | (simp (disch := omega) only [wrap_i64, wrap_u8, nil_len] at *; omega)) ?_) | ((first | (refine draw_lex hm (by rfl) (by kernel_rfl) ?_) | (refine Det.use (d_DecodeRune _) ?_) | (refine Det.useQ (d_DecodeRune _) ?_) | (refine XCalls.use (d_DecodeRune _) ?_) | (refine Det.use (d_String_fresh) ?_) | (refine Det.useQ (d_String_fresh) ?_) | (refine XCalls.use (d_String_fresh) ?_) | (refine Det.use (d_escape _ (by rw [List.length_drop]; omega)) ?_) | (refine Det.useQ (d_escape _ (by rw [List.length_drop]; omega)) ?_) | (refine XCalls.use (d_escape _ (by rw [List.length_drop]; omega)) ?_) | (refine Det.use (d_WriteRune_fresh _ (by omega) (by omega)) ?_) | (refine Det.useQ (d_WriteRune_fresh _ (by omega) (by omega)) ?_) | (refine XCalls.use (d_WriteRune_fresh _ (by omega) (by omega)) ?_)); simp only [e_skip, e_region, e_seq, e_cond, e_block, e_ret, k_seq_normal, k_seq_ret, k_block_normal, k_block_ret, o_nil, o_cons, o_guard, k_put, k_unit, s_put, s_tmp, s_const, s_func, v_bool, v_int, v_str, p_move, p_assign, p_bin, p_pick, p_slice, p_extract, p_call, getE_some, u_cond, u_guard, u_gsel, u_gval_t, u_pick, u_bin_int, u_const, u_const_t, u_add, u_eql, u_lss, u_kp, bnd_none, bnd_some, u_slice, u_sl_ln, u_slG_p, u_extract, u_frz_nil, u_frz_cons, u_frz_p, u_frz_ptr, u_call, u_callT, u_callK0, u_callF, u_callA, u_callR_cons, u_callR_nil, u_kback0_nil, u_kback, u_tmpsBy_nil, u_tmpsBy_cons, u_moved_none, u_moved_some, u_movedL_nil, u_movedL_cons, u_after, u_new_none, u_new_some, u_newF, u_old_nil, u_old_cons, u_oldN_some, u_oldF_some, u_keepIt_none, u_keepIt_some, u_newOf, u_newO_f, u_newO_t, u_findKey_nil, u_findKey_cons, u_up_cons, u_dn_cons, u_back_some, u_backN_some, u_stay_cons, u_stay_nil, u_upR_nil, u_upR_cons, u_upF_some, u_mR_var, u_mR_row, u_m_p, u_m_ptr, u_m_own, u_m_tup, u_ptrO, u_ownO, u_argIds, u_dedup_nil, u_dedup_cons, u_canon_nil, u_canon_cons, u_canonOf, u_canonD_nil, u_canonD_cons, u_canonI_nil, u_reach1, u_reach2, u_regIds_nil, u_regIds_cons, u_kpure, u_kr2, u_kr1, u_res_nil, u_res_tmp, u_kres, u_norm_nil, u_norm_cons, u_normF_none, u_retF, u_ret3, u_renAll_nil, u_resOps_nil, u_resOps_tmp, u_asRes2, u_find_nil, u_find_cons, u_rid_var, u_id_p, u_id_ptr, k_ret_ret, slots_set, slots_get, slots_keep, mapW_nil, mapW_cons, kloop, List.map_cons, List.map_nil, List.getD_cons_zero, List.getD_cons_succ, List.length_cons, List.length_nil, List.cons_append, List.nil_append, List.append_nil, List.flatMap_cons, List.flatMap_nil, List.contains_cons, List.contains_nil, List.getElem?_cons_zero, List.getElem?_cons_succ, decide_eq_true_eq, beq_iff_eq, ne_eq, not_false_eq_true, Nat.reduceLT, Nat.reduceLeDiff, Nat.reduceEqDiff, Nat.reduceAdd, true_and, and_true, cx_P, cx_kind, ↓reduceIte, reduceCtorEq, Int.toNat_natCast, Int.natCast_nonneg, Nat.zero_add, PV.int.injEq, PV.str.injEq, L.tup.injEq, List.cons.injEq, Bool.false_eq_true, Bool.true_and, Bool.and_true, Bool.or_false, Bool.or_true, beq_self_eq_true, f_u9, hd, wi1 (i := i) (by omega), wia (i := i) (j := rlen s i) (by omega) (by omega), wia (i := i) (j := (escR (s.drop i)).2) (by omega) (by omega)]) | (exact True.intro) | (exfalso; omega)))
        all_goals first
          | (rw [if_pos (by omega)] at h4; rw [← h4]; exact ⟨rfl, rfl, rfl⟩)
          | (rw [if_neg (by omega), if_pos (.inl (hT0 (by omega) (by omega)))] at h4; rw [← h4]; exact ⟨rfl, rfl, rfl⟩)
          | (rw [if_neg (by omega), if_pos (.inr (by omega))] at h4; rw [← h4]; exact ⟨rfl, rfl, rfl⟩)
          | (have hT := hTn (by omega)
             rw [hT] at h4 ht
             simp only at h4 ht
             rw [if_neg (by omega), if_neg (by omega)] at h4
             refine ⟨(i + rlen s i, g, [] ++ utf (code s i)), ⟨by simp only; omega, by simp only; omega, by simp only; omega, by simp only [List.length_append, List.length_nil]; omega, h4⟩, by simp only; omega, ?_⟩
             simp only; rw [uqSt_ne (hnn _)]; exact (St.le_slots (by simp only [wsLe_cons, wsLe_nil, slots_get, slots_get_nil, LLe_junk, Nat.reduceEqDiff, reduceIte, Nat.reduceLT, Nat.reduceLeDiff]; simp (disch := omega) [LLe_junk, LLe_refl, LLe_p, wrap_i64] <;> (repeat' apply And.intro) <;> omega) (by simp (disch := omega) [regsLe, RegLe, tmpsLe, findReg, LLe_junk, LLe_refl, LLe_p, wrap_i64]) (by simp [keysOK])))
          | (have hT := hT9 (by omega) (by omega)
             rw [hT] at h4 ht
             simp only at h4 ht
             rw [if_neg (by omega), if_neg (by omega)] at h4
             refine ⟨(i + (escR (s.drop i)).2, g, [] ++ utf (escR (s.drop i)).1), ⟨by simp only; omega, by simp only; omega, by simp only; omega, by simp only [List.length_append, List.length_nil]; omega, h4⟩, by simp only; omega, ?_⟩
             simp only; rw [uqSt_ne (hnn _)]; exact (St.le_slots (by simp only [wsLe_cons, wsLe_nil, slots_get, slots_get_nil, LLe_junk, Nat.reduceEqDiff, reduceIte, Nat.reduceLT, Nat.reduceLeDiff]; simp (disch := omega) [LLe_junk, LLe_refl, LLe_p, wrap_i64] <;> (repeat' apply And.intro) <;> omega) (by simp (disch := omega) [regsLe, RegLe, tmpsLe, findReg, LLe_junk, LLe_refl, LLe_p, wrap_i64]) (by simp [keysOK])))
      · have hl0 : out.length ≠ 0 := fun h => hne (List.eq_nil_of_length_eq_zero h)
        rw [uqSt_ne hne]
        (refine lwp_sound hm _ _ _ ?_; simp only [e_skip, e_region, e_seq, e_cond, e_block, e_exit, e_ret, k_seq_normal, k_seq_exit, k_block_exit, o_nil, o_cons, k_put, s_tmp, s_const, s_func, v_int, v_str, p_move, p_assign, p_bin, p_slice, p_len, p_call, u_cond, u_bin_int, u_const_t, u_lss, u_len, u_len_str, bnd_none, bnd_some, u_slice, u_sl_ln, u_slG_p, u_frz_nil, u_frz_cons, u_frz_p, u_call, u_callT, u_callK0, u_callF, u_callA, u_callR_nil, u_m_p, u_argIds, u_dedup_nil, u_canon_nil, u_kpure, u_kr2, u_kr1, u_res_nil, u_res_tmp, u_kres, u_norm_nil, u_norm_cons, u_normF_none, u_retF, u_ret3, u_renAll_nil, u_resOps_nil, u_resOps_tmp, u_asRes2, u_find_nil, u_find_cons, u_id_p, k_ret_ret, slots_set, slots_get, kloop, List.map_cons, List.map_nil, List.append_nil, List.flatMap_cons, List.flatMap_nil, decide_eq_true_eq, Nat.reduceLT, Nat.reduceEqDiff, true_and, and_true, cx_P, cx_kind, ↓reduceIte, reduceCtorEq, Int.toNat_natCast, Int.natCast_nonneg, PV.int.injEq, PV.str.injEq, L.tup.injEq, List.cons.injEq, Bool.true_and, Bool.and_true, Bool.or_false, f_u9, wi1 (i := i) (by omega), wia (i := i) (j := rlen s i) (by omega) (by omega), wia (i := i) (j := (escR (s.drop i)).2) (by omega) (by omega)])
        (repeat' (first | (refine iteI (fun h => ?_) (fun h => ?_)) | (refine ex_get (by first | omega | (simp (disch := omega) only [wrap_i64, wrap_u8, nil_len] at *; omega)) ?_; intro b hb) | (refine And.intro (by first | omega | (simp (disch := omega) only [wrap_i64, wrap_u8, nil_len] at *; omega)) ?_) | ((first | (refine draw_lex hm (by rfl) (by kernel_rfl) ?_) | (refine Det.use (d_DecodeRune _) ?_) | (refine Det.useQ (d_DecodeRune _) ?_) | (refine XCalls.use (d_DecodeRune _) ?_) | (refine Det.use (d_String_used out _ rfl (by omega) hl0) ?_) | (refine Det.useQ (d_String_used out _ rfl (by omega) hl0) ?_) | (refine XCalls.use (d_String_used out _ rfl (by omega) hl0) ?_) | (refine Det.use (d_escape _ (by rw [List.length_drop]; omega)) ?_) | (refine Det.useQ (d_escape _ (by rw [List.length_drop]; omega)) ?_) | (refine XCalls.use (d_escape _ (by rw [List.length_drop]; omega)) ?_) | (refine Det.use (d_WriteRune_used _ _ _ (bstr_len _) (by omega) (by omega) (by omega)) ?_) | (refine Det.useQ (d_WriteRune_used _ _ _ (bstr_len _) (by omega) (by omega) (by omega)) ?_) | (refine XCalls.use (d_WriteRune_used _ _ _ (bstr_len _) (by omega) (by omega) (by omega)) ?_)); simp only [e_skip, e_region, e_seq, e_cond, e_block, e_ret, k_seq_normal, k_seq_ret, k_block_normal, k_block_ret, o_nil, o_cons, o_guard, k_put, k_unit, s_put, s_tmp, s_const, s_func, v_bool, v_int, v_str, p_move, p_assign, p_bin, p_pick, p_slice, p_extract, p_call, getE_some, u_cond, u_guard, u_gsel, u_gval_t, u_pick, u_bin_int, u_const, u_const_t, u_add, u_eql, u_lss, u_kp, bnd_none, bnd_some, u_slice, u_sl_ln, u_slG_p, u_extract, u_frz_nil, u_frz_cons, u_frz_p, u_frz_ptr, u_call, u_callT, u_callK0, u_callF, u_callA, u_callR_cons, u_callR_nil, u_kback0_nil, u_kback, u_tmpsBy_cons, u_moved_none, u_movedL_nil, u_movedL_cons, u_after, u_new_none, u_old_nil, u_old_cons, u_oldN_some, u_oldF_some, u_oldF_none, u_keepIt_none, u_newOf, u_newO_f, u_findKey_nil, u_findKey_cons, u_up_cons, u_dn_cons, u_back_none, u_stay_cons, u_stay_nil, u_upR_nil, u_upR_cons, u_upF_some, u_mR_var, u_mR_row, u_m_p, u_m_ptr, u_m_own, u_m_tup, u_m_junk, u_ptrO, u_ownO, u_argIds, u_dedup_nil, u_dedup_cons, u_canon_nil, u_canon_cons, u_canonOf, u_canonD_nil, u_canonD_cons, u_canonI_nil, u_canonI_cons, u_reach1, u_reach2, u_regIds_nil, u_regIds_cons, u_kpure, u_kr2, u_kr1, u_res_nil, u_res_tmp, u_kres, u_norm_nil, u_norm_cons, u_normF_none, u_retF, u_ret3, u_renAll_nil, u_resOps_nil, u_resOps_tmp, u_asRes2, u_find_nil, u_find_cons, u_rid_var, u_rid_row, u_id_p, u_id_ptr, u_id_own, k_ret_ret, slots_set, slots_get, slots_keep, mapW_nil, mapW_cons, kloop, List.map_cons, List.map_nil, List.getD_cons_zero, List.getD_cons_succ, List.length_cons, List.length_nil, List.cons_append, List.nil_append, List.append_nil, List.flatMap_cons, List.flatMap_nil, List.contains_cons, List.contains_nil, List.getElem?_cons_zero, List.getElem?_cons_succ, decide_eq_true_eq, beq_iff_eq, Nat.reduceLT, Nat.reduceLeDiff, Nat.reduceEqDiff, Nat.reduceAdd, Nat.reduceBEq, true_and, and_true, cx_P, cx_kind, ↓reduceIte, reduceCtorEq, Int.toNat_natCast, Int.natCast_nonneg, Nat.zero_add, PV.int.injEq, PV.str.injEq, L.tup.injEq, List.cons.injEq, Bool.false_eq_true, Bool.true_and, Bool.and_true, Bool.or_false, Bool.or_true, beq_self_eq_true, f_u9, hd, wi1 (i := i) (by omega), wia (i := i) (j := rlen s i) (by omega) (by omega), wia (i := i) (j := (escR (s.drop i)).2) (by omega) (by omega)]) | (exact True.intro) | (exfalso; omega)))
        all_goals first
          | (rw [if_pos (by omega)] at h4; rw [← h4]; exact ⟨rfl, rfl, rfl⟩)
          | (rw [if_neg (by omega), if_pos (.inl (hT0 (by omega) (by omega)))] at h4; rw [← h4]; exact ⟨rfl, rfl, rfl⟩)
          | (rw [if_neg (by omega), if_pos (.inr (by omega))] at h4; rw [← h4]; exact ⟨rfl, rfl, rfl⟩)
          | (have hT := hTn (by omega)
             rw [hT] at h4 ht
             simp only at h4 ht
             rw [if_neg (by omega), if_neg (by omega)] at h4
             refine ⟨(i + rlen s i, g, out ++ utf (code s i)), ⟨by simp only; omega, by simp only; omega, by simp only; omega, by simp only [List.length_append]; omega, h4⟩, by simp only; omega, ?_⟩
             simp only; rw [uqSt_ne (hnn _), bstr_app, List.length_append]; exact (St.le_slots (by simp only [wsLe_cons, wsLe_nil, slots_get, slots_get_nil, LLe_junk, Nat.reduceEqDiff, reduceIte, Nat.reduceLT, Nat.reduceLeDiff]; simp (disch := omega) [LLe_junk, LLe_refl, LLe_p, wrap_i64] <;> (repeat' apply And.intro) <;> omega) (by simp (disch := omega) [regsLe, RegLe, tmpsLe, findReg, LLe_junk, LLe_refl, LLe_p, wrap_i64]) (by simp [keysOK])))
          | (have hT := hT9 (by omega) (by omega)
             rw [hT] at h4 ht
             simp only at h4 ht
             rw [if_neg (by omega), if_neg (by omega)] at h4
             refine ⟨(i + (escR (s.drop i)).2, g, out ++ utf (escR (s.drop i)).1), ⟨by simp only; omega, by simp only; omega, by simp only; omega, by simp only [List.length_append]; omega, h4⟩, by simp only; omega, ?_⟩
             simp only; rw [uqSt_ne (hnn _), bstr_app, List.length_append]; exact (St.le_slots (by simp only [wsLe_cons, wsLe_nil, slots_get, slots_get_nil, LLe_junk, Nat.reduceEqDiff, reduceIte, Nat.reduceLT, Nat.reduceLeDiff]; simp (disch := omega) [LLe_junk, LLe_refl, LLe_p, wrap_i64] <;> (repeat' apply And.intro) <;> omega) (by simp (disch := omega) [regsLe, RegLe, tmpsLe, findReg, LLe_junk, LLe_refl, LLe_p, wrap_i64]) (by simp [keysOK])))
end Go.LX
