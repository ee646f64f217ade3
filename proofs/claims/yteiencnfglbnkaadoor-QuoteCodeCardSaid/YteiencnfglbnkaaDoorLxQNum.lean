/- Package quote: numbers, escapes. -/
import Derived.Test.YteiencnfglbnkaaDoorLxQEsc
set_option linter.unusedSimpArgs false
set_option linter.unusedVariables false
set_option linter.unusedSectionVars false
set_option linter.unnecessarySimpa false
set_option linter.unusedSimpArgs false
set_option maxRecDepth 100000
set_option maxHeartbeats 2000000
namespace Go.LX
open Go Go.RowKit Go.Proofs
attribute [local irreducible] LCalls SWP lqcall

theorem pre2 {s : List UInt8} (h : 6 ≤ s.length) : s.take 2 = [92, 117] ↔ at_ s 0 = 92 ∧ at_ s 1 = 117 := by
  match s, h with
  | a :: b :: t, _ =>
    simp only [List.take_succ_cons, List.take_zero, List.cons.injEq, and_true, at_cons0, at_consS]
    constructor
    · rintro ⟨rfl, rfl⟩; exact ⟨rfl, rfl⟩
    · rintro ⟨h1, h2⟩; exact ⟨UInt8.toNat_inj.1 h1, UInt8.toNat_inj.1 h2⟩
theorem d_number (s : List UInt8) (hs : s.length ≤ 1000000) : Det cx 68 [.p (.str s)] [] (.p (.int .i64 (u4 s))) [] := by
  by_cases h6 : s.length < 6
  · rw [show u4 s = -1 by unfold u4; rw [if_neg (by omega)]]
    (refine LCalls.of_code (X := cx) false [] (by simp) Tryd.func68 (by kernel_rfl) rfl (by simp only [List.length_cons, List.length_nil, Tryd.ntmps68]; decide) (by simp) ?_; refine lwp_sound hm _ _ _ ?_; simp only [Tryd.ntmps68, Tryd.results68, e_region, e_seq, e_cond, e_ret, k_seq_normal, k_seq_ret, o_nil, o_cons, o_guard, k_put, k_unit, s_tmp, s_const, s_func, v_bool, v_int, v_str, p_move, p_assign, p_bin, p_pick, p_len, p_call, u_cond, u_guard, u_gsel, u_gval_f, u_pick, u_bin_int, u_const, u_const_t, u_lss, u_len, u_len_str, u_frz_nil, u_frz_cons, u_frz_p, u_call, u_callT, u_callK0, u_callF, u_callA, u_callR_nil, u_m_p, u_argIds, u_dedup_nil, u_canon_nil, u_kpure, u_kr2, u_kr1, u_res_nil, u_res_tmp, u_kres, u_norm_nil, u_norm_cons, u_normF_none, u_retF, u_ret3, u_renAll_nil, u_resOps_nil, u_resOps_tmp, u_asRes1, u_find_nil, u_id_p, k_ret_ret, slots_set, slots_get, argW, List.map_cons, List.map_nil, List.getD_cons_zero, List.getD_cons_succ, List.append_nil, List.flatMap_cons, List.flatMap_nil, decide_eq_true_eq, Nat.reduceLT, Nat.reduceEqDiff, Int.reduceNeg, cx_P, cx_kind, ↓reduceIte, reduceCtorEq, Bool.false_eq_true, Bool.or_true, and_self, f_u9])
    (repeat' (first | (refine iteI (fun h => ?_) (fun h => ?_)) | (refine ex_get (by first | omega | (simp (disch := omega) only [wrap_i64, wrap_u8, nil_len] at *; omega)) ?_; intro b hb) | (refine And.intro (by first | omega | (simp (disch := omega) only [wrap_i64, wrap_u8, nil_len] at *; omega)) ?_) | ((first | (refine draw_lex hm (by rfl) (by kernel_rfl) ?_)); simp only [e_scope]) | (exact True.intro) | (exfalso; omega)))
  have hT : ((s.drop 2).take 4).length = 4 := by simp; omega
  have hp := d_ParseUint _ hT
  have hca := d_ContainsAny _ hT
  have hu : u4 s = if at_ s 0 = 92 ∧ at_ s 1 = 117 then (match hexN ((s.drop 2).take 4) 0 with | some n => (n : Int) | none => -1) else -1 := by
    unfold u4
    by_cases hq : at_ s 0 = 92 ∧ at_ s 1 = 117
    · rw [if_pos hq, if_pos ⟨by omega, hq⟩]; rfl
    · rw [if_neg hq, if_neg (fun h => hq h.2)]
  have hmk : 0 ≤ iaF ((s.drop 2).take 4) 5 0 → hexN ((s.drop 2).take 4) 0 = none := fun h => by
    obtain ⟨k, h1, h2⟩ := iaF_mark _ _ _ h
    exact hexN_none _ _ k h1 h2
  generalize hTT : (s.drop 2).take 4 = T at *
  cases hx : hexN T 0 with
  | none =>
    rw [hx] at hp hu
    simp only [numRes2, ite_self] at hp hu
    rw [hu]
    skip
    (refine LCalls.of_code (X := cx) false [] (by simp) Tryd.func68 (by kernel_rfl) rfl (by simp only [List.length_cons, List.length_nil, Tryd.ntmps68]; decide) (by simp) ?_; refine lwp_sound hm _ _ _ ?_; simp only [Tryd.ntmps68, Tryd.results68, e_region, e_seq, e_cond, e_ret, k_seq_normal, k_seq_ret, o_nil, o_cons, o_guard, k_put, k_unit, s_tmp, s_const, s_func, v_bool, v_int, v_str, p_move, p_assign, p_bin, p_pick, p_len, p_call, u_cond, u_guard, u_gsel, u_gval_f, u_pick, u_bin_int, u_const, u_const_t, u_lss, u_len, u_len_str, u_frz_nil, u_frz_cons, u_frz_p, u_call, u_callT, u_callK0, u_callF, u_callA, u_callR_nil, u_m_p, u_argIds, u_dedup_nil, u_canon_nil, u_kpure, u_kr2, u_kr1, u_res_nil, u_res_tmp, u_kres, u_norm_nil, u_norm_cons, u_normF_none, u_retF, u_ret3, u_renAll_nil, u_resOps_nil, u_resOps_tmp, u_asRes1, u_find_nil, u_id_p, k_ret_ret, slots_set, slots_get, argW, List.map_cons, List.map_nil, List.getD_cons_zero, List.getD_cons_succ, List.append_nil, List.flatMap_cons, List.flatMap_nil, decide_eq_true_eq, Nat.reduceLT, Nat.reduceEqDiff, Int.reduceNeg, cx_P, cx_kind, ↓reduceIte, reduceCtorEq, Bool.false_eq_true, Bool.or_true, and_self, f_u9])
    (repeat' (first | (refine iteI (fun h => ?_) (fun h => ?_)) | (refine ex_get (by first | omega | (simp (disch := omega) only [wrap_i64, wrap_u8, nil_len] at *; omega)) ?_; intro b hb) | (refine And.intro (by first | omega | (simp (disch := omega) only [wrap_i64, wrap_u8, nil_len] at *; omega)) ?_) | ((first | (refine draw_lex hm (by rfl) (by kernel_rfl) ?_) | (refine Det.use (d_HasPrefix s _ hs (by decide)) ?_) | (refine Det.useQ (d_HasPrefix s _ hs (by decide)) ?_) | (refine XCalls.use (d_HasPrefix s _ hs (by decide)) ?_) | (refine Det.use (hca) ?_) | (refine Det.useQ (hca) ?_) | (refine XCalls.use (hca) ?_) | (refine Det.use (hp) ?_) | (refine Det.useQ (hp) ?_) | (refine XCalls.use (hp) ?_)); simp only [e_skip, e_region, e_seq, e_cond, e_ret, k_seq_normal, k_seq_ret, o_nil, o_cons, o_guard, k_put, k_unit, s_put, s_tmp, s_const, s_func, v_bool, v_int, v_str, v_nifc, p_move, p_assign, p_bin, p_un, p_pick, p_slice, p_extract, p_call, getE_some, u_cond, u_guard, u_gsel, u_gval_f, u_pick, c_ifcC, u_n_in, u_nilEq_neq, u_const, u_const_t, u_not, u_kp, bnd_some, u_slice, u_sl_lh, u_slG_p, u_extract, u_frz_nil, u_frz_cons, u_frz_p, u_call, u_callT, u_callK0, u_callF, u_callA, u_callR_nil, u_kback0_nil, u_m_p, u_m_tup, u_argIds, u_dedup_nil, u_canon_nil, u_kpure, u_kr2, u_kr1, u_res_nil, u_res_tmp, u_kres, u_norm_nil, u_norm_cons, u_normF_none, u_retF, u_ret3, u_renAll_nil, u_resOps_nil, u_resOps_tmp, u_asRes1, u_find_nil, u_id_p, k_ret_ret, slots_set, slots_get, List.map_cons, List.map_nil, List.getD_cons_zero, List.getD_cons_succ, List.length_cons, List.length_nil, List.append_nil, List.flatMap_cons, List.flatMap_nil, List.getElem?_cons_zero, List.getElem?_cons_succ, decide_eq_true_eq, beq_eq_false_iff_ne, Bool.not_eq_eq_eq_not, ne_eq, Nat.reduceLT, Nat.reduceEqDiff, Nat.reduceAdd, Nat.reduceSub, Int.reduceToNat, Int.reduceLE, Int.reduceNeg, true_and, cx_P, cx_kind, ↓reduceIte, reduceCtorEq, Nat.zero_add, Bool.not_true, Bool.not_false, Bool.false_eq_true, Bool.true_and, Bool.or_true, and_self, f_u9, f_u73, hTT]) | (exact True.intro) | (exfalso; omega)))
    all_goals first
      | (rw [hu, if_neg (by rw [← pre2 (by omega)]; assumption)])
      | (rw [hu, if_pos (by rw [← pre2 (by omega)]; simp_all)])
  | some n =>
    have hia : ¬ 0 ≤ iaF T 5 0 := fun h => by rw [hmk h] at hx; cases hx
    have hn := hexN_lt _ _ _ hx
    rw [hT] at hn
    have hwn := wi0 (c := n) (by omega)
    rw [hx] at hp hu
    simp only [numRes2] at hp hu
    skip
    (refine LCalls.of_code (X := cx) false [] (by simp) Tryd.func68 (by kernel_rfl) rfl (by simp only [List.length_cons, List.length_nil, Tryd.ntmps68]; decide) (by simp) ?_; refine lwp_sound hm _ _ _ ?_; simp only [Tryd.ntmps68, Tryd.results68, e_region, e_seq, e_cond, e_ret, k_seq_normal, k_seq_ret, o_nil, o_cons, o_guard, k_put, k_unit, s_tmp, s_const, s_func, v_bool, v_int, v_str, p_move, p_assign, p_bin, p_pick, p_len, p_call, u_cond, u_guard, u_gsel, u_gval_f, u_pick, u_bin_int, u_const, u_const_t, u_lss, u_len, u_len_str, u_frz_nil, u_frz_cons, u_frz_p, u_call, u_callT, u_callK0, u_callF, u_callA, u_callR_nil, u_m_p, u_argIds, u_dedup_nil, u_canon_nil, u_kpure, u_kr2, u_kr1, u_res_nil, u_res_tmp, u_kres, u_norm_nil, u_norm_cons, u_normF_none, u_retF, u_ret3, u_renAll_nil, u_resOps_nil, u_resOps_tmp, u_asRes1, u_find_nil, u_id_p, k_ret_ret, slots_set, slots_get, argW, List.map_cons, List.map_nil, List.getD_cons_zero, List.getD_cons_succ, List.append_nil, List.flatMap_cons, List.flatMap_nil, decide_eq_true_eq, Nat.reduceLT, Nat.reduceEqDiff, Int.reduceNeg, true_and, and_true, cx_P, cx_kind, ↓reduceIte, reduceCtorEq, L.p.injEq, PV.int.injEq, Bool.false_eq_true, Bool.true_and, Bool.and_true, Bool.or_true, f_u9])
    (repeat' (first | (refine iteI (fun h => ?_) (fun h => ?_)) | (refine ex_get (by first | omega | (simp (disch := omega) only [wrap_i64, wrap_u8, nil_len] at *; omega)) ?_; intro b hb) | (refine And.intro (by first | omega | (simp (disch := omega) only [wrap_i64, wrap_u8, nil_len] at *; omega)) ?_) | ((first | (refine draw_lex hm (by rfl) (by kernel_rfl) ?_) | (refine Det.use (d_HasPrefix s _ hs (by decide)) ?_) | (refine Det.useQ (d_HasPrefix s _ hs (by decide)) ?_) | (refine XCalls.use (d_HasPrefix s _ hs (by decide)) ?_) | (refine Det.use (hca) ?_) | (refine Det.useQ (hca) ?_) | (refine XCalls.use (hca) ?_) | (refine Det.use (hp) ?_) | (refine Det.useQ (hp) ?_) | (refine XCalls.use (hp) ?_)); simp only [e_skip, e_region, e_seq, e_cond, e_ret, k_seq_normal, k_seq_ret, o_nil, o_cons, o_guard, k_put, k_unit, s_put, s_tmp, s_const, s_func, v_bool, v_int, v_str, v_nifc, p_move, p_assign, p_bin, p_un, p_conv, p_pick, p_slice, p_extract, p_call, getE_some, u_cond, u_guard, u_gsel, u_gval_f, u_pick, c_ifcC, u_n_ii, u_nilEq_neq, u_const, u_const_t, u_not, u_cvF, u_cvG_int, u_conv, u_conv_int, u_kp, bnd_some, u_slice, u_sl_lh, u_slG_p, u_extract, u_frz_nil, u_frz_cons, u_frz_p, u_call, u_callT, u_callK0, u_callF, u_callA, u_callR_nil, u_kback0_nil, u_m_p, u_m_tup, u_argIds, u_dedup_nil, u_canon_nil, u_kpure, u_kr2, u_kr1, u_res_nil, u_res_tmp, u_kres, u_norm_nil, u_norm_cons, u_normF_none, u_retF, u_ret3, u_renAll_nil, u_resOps_nil, u_resOps_tmp, u_asRes1, u_find_nil, u_id_p, k_ret_ret, slots_set, slots_get, List.map_cons, List.map_nil, List.getD_cons_zero, List.getD_cons_succ, List.length_cons, List.length_nil, List.append_nil, List.flatMap_cons, List.flatMap_nil, List.getElem?_cons_zero, List.getElem?_cons_succ, decide_eq_true_eq, beq_eq_false_iff_ne, Bool.not_eq_eq_eq_not, ne_eq, Nat.reduceLT, Nat.reduceEqDiff, Nat.reduceAdd, Nat.reduceSub, Int.reduceToNat, Int.reduceLE, Int.reduceNeg, true_and, and_true, cx_P, cx_kind, ↓reduceIte, reduceCtorEq, Nat.zero_add, Bool.not_true, L.p.injEq, PV.int.injEq, Bool.false_eq_true, Bool.true_and, Bool.and_true, Bool.or_true, f_u3, f_u9, f_u73, f_u109, hTT, hTT, hwn]) | (exact True.intro) | (exfalso; omega)))
    all_goals first
      | (rw [hu, if_neg (by rw [← pre2 (by omega)]; assumption)])
      | (rw [hu, if_pos (by rw [← pre2 (by omega)]; simp_all)])
theorem mfind_short (c : Nat) : (shortR c = none ∧ mfind (.int .u8 c) shortL 0 = some none) ∨ ∃ i r, shortR c = some r ∧ r ≤ 92 ∧ mfind (.int .u8 c) shortL 0 = some (some (i, .int .i32 r)) := by
  have key : ∀ (b : Int) (v : PV) (es : List (PV × PV)) (i : Nat), mfind (.int .u8 c) ((.int .u8 b, v) :: es) i = if (c : Int) = b then some (some (i, v)) else mfind (.int .u8 c) es (i + 1) := fun b v es i => by
    by_cases h : (c : Int) = b
    · simp [mfind, keyEq, h]
    · have : ((c : Int) == b) = false := by simp [h]
      simp [mfind, keyEq, this, h]
  unfold shortR shortL
  simp only [key]
  have hc : ∀ b : Nat, ((c : Int) = (b : Int)) = (c = b) := fun b => by apply propext; omega
  have e1 := hc 34
  have e2 := hc 92
  have e3 := hc 47
  have e4 := hc 98
  have e5 := hc 102
  have e6 := hc 110
  have e7 := hc 114
  have e8 := hc 116
  simp only [Int.cast_ofNat_Int] at e1 e2 e3 e4 e5 e6 e7 e8
  simp only [e1, e2, e3, e4, e5, e6, e7, e8]
  by_cases h1 : c = 34
  · exact .inr ⟨0, 34, by simp [h1], by decide, by simp [h1]⟩
  by_cases h2 : c = 92
  · exact .inr ⟨1, 92, by simp [h2], by decide, by simp [h2]⟩
  by_cases h3 : c = 47
  · exact .inr ⟨2, 47, by simp [h3], by decide, by simp [h3]⟩
  by_cases h4 : c = 98
  · exact .inr ⟨3, 8, by simp [h4], by decide, by simp [h4]⟩
  by_cases h5 : c = 102
  · exact .inr ⟨4, 12, by simp [h5], by decide, by simp [h5]⟩
  by_cases h6 : c = 110
  · exact .inr ⟨5, 10, by simp [h6], by decide, by simp [h6]⟩
  by_cases h7 : c = 114
  · exact .inr ⟨6, 13, by simp [h7], by decide, by simp [h7]⟩
  by_cases h8 : c = 116
  · exact .inr ⟨7, 9, by simp [h8], by decide, by simp [h8]⟩
  · refine .inl ⟨by simp [*], ?_⟩
    rw [if_neg h1, if_neg h2, if_neg h3, if_neg h4, if_neg h5, if_neg h6, if_neg h7, if_neg h8]
    rfl
theorem u4_six {s : List UInt8} (h : 0 ≤ u4 s) : 6 ≤ s.length := by
  unfold u4 at h
  split at h
  · rename_i h6; exact h6.1
  · omega
theorem d_escape (s : List UInt8) (hs : s.length ≤ 1000000) : Det cx 49 [.p (.str s)] [] (.tup [.int .i32 (escR s).1, .int .i64 (escR s).2]) [] := by
  obtain ⟨hu1, hu2⟩ := u4_le s
  obtain ⟨hv1, hv2⟩ := u4_le (s.drop 6)
  have hB := at_lt s 1
  have h66 : 0 ≤ u4 s → 6 ≤ s.length := u4_six
  rcases (mfind_short (at_ s 1)).symm with ⟨i, r, hsr, hr, hmf⟩ | ⟨hsr, hmf⟩
  · skip
    (refine LCalls.of_code (X := cx) false [] (by simp) Tryd.func49 (by kernel_rfl) rfl (by simp only [List.length_cons, List.length_nil, Tryd.ntmps49]; decide) (by simp) ?_; refine lwp_sound hm _ _ _ ?_; simp only [Tryd.ntmps49, Tryd.results49, e_skip, e_region, e_seq, e_cond, e_ret, k_seq_normal, k_seq_ret, o_nil, o_cons, k_put, s_tmp, s_const, v_int, p_move, p_assign, p_bin, p_len, u_draw, u_cond, u_bin_int, u_const, u_const_t, u_lss, u_len, u_len_str, u_frz_nil, u_frz_cons, u_frz_p, u_kpure, u_kr2, u_kr1, u_res_nil, u_res_tmp, u_kres, u_norm_nil, u_norm_cons, u_normF_none, u_retF, u_ret3, u_renAll_nil, u_resOps_nil, u_resOps_tmp, u_asRes2, u_find_nil, k_ret_ret, slots_set, slots_get, argW, List.map_cons, List.map_nil, decide_eq_true_eq, Nat.reduceLT, Nat.reduceEqDiff, true_and, and_true, cx_P, ↓reduceIte, reduceCtorEq, PV.int.injEq, L.tup.injEq, List.cons.injEq, Bool.true_and, Bool.and_true, Bool.or_true, f_u9])
    (repeat' (first | (refine iteI (fun h => ?_) (fun h => ?_)) | (refine ex_get (by first | omega | (simp (disch := omega) only [wrap_i64, wrap_u8, nil_len] at *; omega)) ?_; intro b hb) | (refine And.intro (by first | omega | (simp (disch := omega) only [wrap_i64, wrap_u8, nil_len] at *; omega)) ?_) | ((first | (refine draw_lex hm (by rfl) (by kernel_rfl) ?_) | (refine Det.use (d_short) ?_) | (refine Det.useQ (d_short) ?_) | (refine XCalls.use (d_short) ?_) | (refine Det.use (d_number _ hs) ?_) | (refine Det.useQ (d_number _ hs) ?_) | (refine XCalls.use (d_number _ hs) ?_) | (refine Det.use (d_number (s.drop 6) (by simp; omega)) ?_) | (refine Det.useQ (d_number (s.drop 6) (by simp; omega)) ?_) | (refine XCalls.use (d_number (s.drop 6) (by simp; omega)) ?_)); simp only [e_region, e_seq, e_cond, e_ret, k_seq_normal, k_seq_ret, o_nil, o_cons, q_nil, q_cons, k_put, s_tmp, s_const, v_int, p_move, p_assign, q_move, q_assign, q_index, q_extract, q_lookup, q_call, whenS_some, getE_some, u_cond, u_kp, u_index, u_ix_str, u_extract, u_frz_nil, u_frz_cons, u_frz_p, u_lookup, u_lkT, u_lkZ, u_lkV_st, u_mapOf_mp, u_keyFits, u_kfit_int, u_kpure, u_kr2, u_kr1, u_res_nil, u_res_tmp, u_kres, u_norm_nil, u_norm_cons, u_normF_none, u_retF, u_ret3, u_renAll_nil, u_resOps_nil, u_resOps_tmp, u_asRes2, u_find_nil, k_ret_ret, slots_set, slots_get, List.map_cons, List.map_nil, List.getElem?_cons_zero, List.getElem?_cons_succ, Nat.reduceLT, Nat.reduceEqDiff, Int.reduceToNat, Int.reduceLE, true_and, and_true, cx_P, ↓reduceIte, reduceCtorEq, PV.int.injEq, L.tup.injEq, List.cons.injEq, Bool.true_and, Bool.and_true, beq_self_eq_true, f_u5, f_u9, f_zo21, f_m99, hmf]) | (exact True.intro) | (exfalso; omega)))
    · unfold escR; rw [if_pos (by omega)]; exact ⟨rfl, rfl⟩
    · unfold escR; rw [if_neg (by omega), hsr]; exact ⟨rfl, rfl⟩
  · have z0 := wrap_i32 (n := u4 s) (by omega) (by omega)
    have z1 := wrap_i64 (n := u4 s - 55296) (by omega) (by omega)
    have z2 : IntKind.i64.wrap ((u4 s - 55296) * 2 ^ min 10 IntKind.i64.bits) = (u4 s - 55296) * 1024 := wrap_i64 (n := (u4 s - 55296) * 1024) (by omega) (by omega)
    have z3 := wrap_i64 (n := 65536 + (u4 s - 55296) * 1024) (by omega) (by omega)
    have z4 := wrap_i64 (n := 65536 + (u4 s - 55296) * 1024 + u4 (s.drop 6)) (by omega) (by omega)
    have z5 := wrap_i64 (n := 65536 + (u4 s - 55296) * 1024 + u4 (s.drop 6) - 56320) (by omega) (by omega)
    have z6 := wrap_i32 (n := 65536 + (u4 s - 55296) * 1024 + u4 (s.drop 6) - 56320) (by omega) (by omega)
    skip
    (refine LCalls.of_code (X := cx) false [] (by simp) Tryd.func49 (by kernel_rfl) rfl (by simp only [List.length_cons, List.length_nil, Tryd.ntmps49]; decide) (by simp) ?_; refine lwp_sound hm _ _ _ ?_; simp only [Tryd.ntmps49, Tryd.results49, e_skip, e_region, e_seq, e_cond, e_ret, k_seq_normal, k_seq_ret, o_nil, o_cons, k_put, s_tmp, s_const, v_int, p_move, p_assign, p_bin, p_len, u_draw, u_cond, u_bin_int, u_const, u_const_t, u_lss, u_len, u_len_str, u_frz_nil, u_frz_cons, u_frz_p, u_kpure, u_kr2, u_kr1, u_res_nil, u_res_tmp, u_kres, u_norm_nil, u_norm_cons, u_normF_none, u_retF, u_ret3, u_renAll_nil, u_resOps_nil, u_resOps_tmp, u_asRes2, u_find_nil, k_ret_ret, slots_set, slots_get, argW, List.map_cons, List.map_nil, decide_eq_true_eq, Nat.reduceLT, Nat.reduceEqDiff, true_and, and_true, cx_P, ↓reduceIte, reduceCtorEq, PV.int.injEq, L.tup.injEq, List.cons.injEq, Bool.true_and, Bool.and_true, Bool.or_true, f_u9])
    (repeat' (first | (refine iteI (fun h => ?_) (fun h => ?_)) | (refine ex_get (by first | omega | (simp (disch := omega) only [wrap_i64, wrap_u8, nil_len] at *; omega)) ?_; intro b hb) | (refine And.intro (by first | omega | (simp (disch := omega) only [wrap_i64, wrap_u8, nil_len] at *; omega)) ?_) | ((first | (refine draw_lex hm (by rfl) (by kernel_rfl) ?_) | (refine Det.use (d_short) ?_) | (refine Det.useQ (d_short) ?_) | (refine XCalls.use (d_short) ?_) | (refine Det.use (d_number _ hs) ?_) | (refine Det.useQ (d_number _ hs) ?_) | (refine XCalls.use (d_number _ hs) ?_) | (refine Det.use (d_number (s.drop 6) (by simp; omega)) ?_) | (refine Det.useQ (d_number (s.drop 6) (by simp; omega)) ?_) | (refine XCalls.use (d_number (s.drop 6) (by simp; omega)) ?_)); simp only [e_skip, e_region, e_seq, e_cond, e_block, e_ret, k_seq_normal, k_seq_ret, k_block_normal, k_block_ret, o_nil, o_cons, o_guard, q_nil, q_cons, k_put, k_unit, s_put, s_tmp, s_const, s_func, v_bool, v_int, p_move, p_assign, p_bin, p_conv, p_pick, p_slice, p_call, q_move, q_assign, q_index, q_extract, q_lookup, q_call, whenS_some, getE_some, u_cond, u_guard, u_gsel, u_gval_t, u_gval_f, u_gval_tup, u_pick, u_bin_int, u_const, u_const_t, u_shl, u_add, u_sub, u_lss, u_geq, u_cvF, u_cvG_int, u_conv, u_conv_int, u_kp, u_index, u_ix_str, bnd_none, bnd_some, u_slice, u_sl_ln, u_slG_p, u_extract, u_frz_nil, u_frz_cons, u_frz_p, u_call, u_callT, u_callK0, u_callF, u_callA, u_callR_nil, u_kback0_nil, u_m_p, u_argIds, u_dedup_nil, u_canon_nil, u_lookup, u_lkT, u_lkZ, u_lkV_nt, u_mapOf_mp, u_keyFits, u_kfit_int, u_kpure, u_kr2, u_kr1, u_res_nil, u_res_tmp, u_kres, u_norm_nil, u_norm_cons, u_normF_none, u_retF, u_ret3, u_renAll_nil, u_resOps_nil, u_resOps_tmp, u_asRes2, u_find_nil, u_id_p, k_ret_ret, slots_set, slots_get, List.map_cons, List.map_nil, List.getD_cons_zero, List.getD_cons_succ, List.append_nil, List.flatMap_cons, List.flatMap_nil, List.getElem?_cons_zero, List.getElem?_cons_succ, decide_eq_true_eq, Nat.reduceLT, Nat.reduceEqDiff, Int.reduceToNat, Int.reduceLE, true_and, and_true, cx_P, cx_kind, ↓reduceIte, reduceCtorEq, PV.int.injEq, L.tup.injEq, List.cons.injEq, Bool.false_eq_true, Bool.true_and, Bool.and_true, Bool.or_false, Bool.or_true, beq_self_eq_true, f_u3, f_u5, f_u9, f_u21, f_zo21, f_m99, hmf, hmf, z0, z1, z2, z3, z4, z5, z6]) | (exact True.intro) | (exfalso; omega)))
    · unfold escR; rw [if_pos (by omega)]; exact ⟨rfl, rfl⟩
    all_goals (unfold escR; rw [if_neg (by omega), hsr]; simp only)
    all_goals ((repeat' split) <;> first | (exfalso; omega) | (exact ⟨rfl, rfl⟩) | (refine ⟨?_, rfl⟩; simp only; omega))
end Go.LX
