/- Package quote, and what the document says: from below. -/
import Derived.Test.YteiencnfglbnkaaDoorLxQTwo
import Derived.Test.YteiencnfglbnkaaDoorLxBytes
set_option linter.unusedSimpArgs false
set_option linter.unusedVariables false
set_option linter.unusedSectionVars false
set_option linter.unnecessarySimpa false
set_option linter.unusedSimpArgs false
set_option maxRecDepth 100000
set_option maxHeartbeats 2000000
namespace Go.LX
open Go Go.RowKit Go.Proofs
attribute [local irreducible] LCalls SWP lqcall

def shortL : List (PV × PV) := [(.int .u8 34, .int .i32 34), (.int .u8 92, .int .i32 92), (.int .u8 47, .int .i32 47), (.int .u8 98, .int .i32 8), (.int .u8 102, .int .i32 12), (.int .u8 110, .int .i32 10), (.int .u8 114, .int .i32 13), (.int .u8 116, .int .i32 9)]
theorem mp0 : mput (.int .u8 34) (.int .i32 34) [] = some [(.int .u8 34, .int .i32 34)] := rfl
theorem mp1 : mput (.int .u8 92) (.int .i32 92) [(.int .u8 34, .int .i32 34)] = some [(.int .u8 34, .int .i32 34), (.int .u8 92, .int .i32 92)] := rfl
theorem mp2 : mput (.int .u8 47) (.int .i32 47) [(.int .u8 34, .int .i32 34), (.int .u8 92, .int .i32 92)] = some [(.int .u8 34, .int .i32 34), (.int .u8 92, .int .i32 92), (.int .u8 47, .int .i32 47)] := rfl
theorem mp3 : mput (.int .u8 98) (.int .i32 8) [(.int .u8 34, .int .i32 34), (.int .u8 92, .int .i32 92), (.int .u8 47, .int .i32 47)] = some [(.int .u8 34, .int .i32 34), (.int .u8 92, .int .i32 92), (.int .u8 47, .int .i32 47), (.int .u8 98, .int .i32 8)] := rfl
theorem mp4 : mput (.int .u8 102) (.int .i32 12) [(.int .u8 34, .int .i32 34), (.int .u8 92, .int .i32 92), (.int .u8 47, .int .i32 47), (.int .u8 98, .int .i32 8)] = some [(.int .u8 34, .int .i32 34), (.int .u8 92, .int .i32 92), (.int .u8 47, .int .i32 47), (.int .u8 98, .int .i32 8), (.int .u8 102, .int .i32 12)] := rfl
theorem mp5 : mput (.int .u8 110) (.int .i32 10) [(.int .u8 34, .int .i32 34), (.int .u8 92, .int .i32 92), (.int .u8 47, .int .i32 47), (.int .u8 98, .int .i32 8), (.int .u8 102, .int .i32 12)] = some [(.int .u8 34, .int .i32 34), (.int .u8 92, .int .i32 92), (.int .u8 47, .int .i32 47), (.int .u8 98, .int .i32 8), (.int .u8 102, .int .i32 12), (.int .u8 110, .int .i32 10)] := rfl
theorem mp6 : mput (.int .u8 114) (.int .i32 13) [(.int .u8 34, .int .i32 34), (.int .u8 92, .int .i32 92), (.int .u8 47, .int .i32 47), (.int .u8 98, .int .i32 8), (.int .u8 102, .int .i32 12), (.int .u8 110, .int .i32 10)] = some [(.int .u8 34, .int .i32 34), (.int .u8 92, .int .i32 92), (.int .u8 47, .int .i32 47), (.int .u8 98, .int .i32 8), (.int .u8 102, .int .i32 12), (.int .u8 110, .int .i32 10), (.int .u8 114, .int .i32 13)] := rfl
theorem mp7 : mput (.int .u8 116) (.int .i32 9) [(.int .u8 34, .int .i32 34), (.int .u8 92, .int .i32 92), (.int .u8 47, .int .i32 47), (.int .u8 98, .int .i32 8), (.int .u8 102, .int .i32 12), (.int .u8 110, .int .i32 10), (.int .u8 114, .int .i32 13)] = some [(.int .u8 34, .int .i32 34), (.int .u8 92, .int .i32 92), (.int .u8 47, .int .i32 47), (.int .u8 98, .int .i32 8), (.int .u8 102, .int .i32 12), (.int .u8 110, .int .i32 10), (.int .u8 114, .int .i32 13), (.int .u8 116, .int .i32 9)] := rfl
theorem d_short : Det cx 67 [] [] (.p (.mp shortL)) [] := by
  skip
  (refine LCalls.of_code (X := cx) false [] (by simp) Tryd.func67 (by kernel_rfl) rfl (by simp only [List.length_nil, Tryd.ntmps67]; decide) (by simp) ?_; refine lwp_sound hm _ _ _ ?_; simp only [Tryd.ntmps67, Tryd.results67, e_region, e_seq, e_ret, k_seq_normal, o_nil, o_cons, k_put, k_unit_none, s_put, s_tmp, s_const, v_int, v_nmap, p_move, p_assign, p_makeMap, p_insert, whenS_some, u_newReg, u_frz_nil, u_frz_cons, u_frz_p, u_frz_mref, u_freeze, u_fzOf_mp, u_frzBy, u_makeMap, u_muS, u_mapUpdate, u_muF, u_muT, u_muR, u_keyFits, u_kfit_int, u_kpure, u_kr2, u_kr1, u_res_nil, u_res_tmp, u_kres, u_norm_nil, u_norm_cons, u_normF_none, u_retF, u_ret3, u_renAll_nil, u_resOps_nil, u_resOps_tmp, u_asRes1, u_find_nil, u_find_cons, u_drop_nil, u_set_cons, u_frzR_nil, u_frzR_cons, u_f_p, u_z_p, u_z_mref, k_ret_ret, slots_set, slots_get, slots_forget, slots_freeze, mapW_nil, mapW_cons, argW, List.map_cons, List.map_nil, Nat.reduceLT, true_and, and_true, cx_P, ↓reduceIte, L.p.injEq, Bool.true_and, Bool.and_true, beq_self_eq_true, f_u5, f_m99, mp0, mp1, mp2, mp3, mp4, mp5, mp6, mp7])
  rfl
theorem wi1 {i : Nat} (h : i ≤ 3000000) : IntKind.i64.wrap ((i : Int) + 1) = ((i + 1 : Nat) : Int) := by rw [wrap_i64 (by omega) (by omega)]; omega
theorem wi2 {i : Nat} (h : i ≤ 3000000) : IntKind.i64.wrap ((i : Int) + 2) = ((i + 2 : Nat) : Int) := by rw [wrap_i64 (by omega) (by omega)]; omega
theorem wi3 {i : Nat} (h : i ≤ 3000000) : IntKind.i64.wrap ((i : Int) + 3) = ((i + 3 : Nat) : Int) := by rw [wrap_i64 (by omega) (by omega)]; omega
theorem wi6 {i : Nat} (h : i ≤ 3000000) : IntKind.i64.wrap ((i : Int) + 6) = ((i + 6 : Nat) : Int) := by rw [wrap_i64 (by omega) (by omega)]; omega
theorem wia {i j : Nat} (h : i ≤ 3000000) (h2 : j ≤ 3000000) : IntKind.i64.wrap ((i : Int) + (j : Int)) = ((i + j : Nat) : Int) := by rw [wrap_i64 (by omega) (by omega)]; omega
theorem d_cont (s : List UInt8) (i : Nat) (hs : s.length ≤ 1000000) (hi : i ≤ 2000000) : Det cx 72 [.p (.str s), .p (.int .i64 i)] [] (.p (.bool (ct s i))) [] := by
  (refine LCalls.of_code (X := cx) false [] (by simp) Tryd.func72 (by kernel_rfl) rfl (by simp only [List.length_cons, List.length_nil, Tryd.ntmps72]; decide) (by simp) ?_; refine lwp_sound hm _ _ _ ?_; simp only [Tryd.ntmps72, Tryd.results72, e_region, e_seq, e_ret, k_seq_normal, o_nil, o_cons, o_guard, k_put, k_unit, s_tmp, s_const, v_bool, v_int, p_move, p_assign, p_bin, p_pick, p_index, p_len, u_guard, u_gsel, u_gval_t, u_pick, u_bin_int, u_const, u_const_t, u_lss, u_geq, u_len, u_len_str, u_index, u_ix_str, u_frz_nil, u_frz_cons, u_frz_p, u_kpure, u_kr2, u_kr1, u_res_nil, u_res_tmp, u_kres, u_norm_nil, u_norm_cons, u_normF_none, u_retF, u_ret3, u_renAll_nil, u_resOps_nil, u_resOps_tmp, u_asRes1, u_find_nil, k_ret_ret, slots_set, slots_get, argW, List.map_cons, List.map_nil, List.getD_cons_zero, List.getD_cons_succ, decide_eq_true_eq, Nat.reduceLT, Nat.reduceEqDiff, true_and, and_true, cx_P, ↓reduceIte, reduceCtorEq, Int.toNat_natCast, Int.natCast_nonneg, Nat.zero_add, L.p.injEq, PV.bool.injEq, Bool.false_eq_true, Bool.true_and, Bool.and_true, Bool.or_false, Bool.or_true, f_u9])
  (repeat' (first | (refine iteI (fun h => ?_) (fun h => ?_)) | (refine ex_get (by first | omega | (simp (disch := omega) only [wrap_i64, wrap_u8, nil_len] at *; omega)) ?_; intro b hb) | (refine And.intro (by first | omega | (simp (disch := omega) only [wrap_i64, wrap_u8, nil_len] at *; omega)) ?_) | ((first | (refine draw_lex hm (by rfl) (by kernel_rfl) ?_)); simp only [e_scope]) | (exact True.intro) | (exfalso; omega)))
  all_goals (rw [Bool.eq_iff_iff]; simp [ct]; omega)
theorem ct_lt {s : List UInt8} {k : Nat} (h : ct s k = true) : k < s.length := (ct_iff.1 h).1
theorem d_Rune (s : List UInt8) (i : Nat) (hs : s.length ≤ 1000000) (hi : i < s.length) : Det cx 52 [.p (.str s), .p (.int .i64 i)] [] (.p (.int .i64 (rlen s i))) [] := by
  have w1 := wi1 (i := i) (by omega)
  have w2 := wi2 (i := i) (by omega)
  have w3 := wi3 (i := i) (by omega)
  have hA := at_lt s i
  have hB := at_lt s (i + 1)
  skip
  (refine LCalls.of_code (X := cx) false [] (by simp) Tryd.func52 (by kernel_rfl) rfl (by simp only [List.length_cons, List.length_nil, Tryd.ntmps52]; decide) (by simp) ?_; refine lwp_sound hm _ _ _ ?_; simp only [Tryd.ntmps52, Tryd.results52, e_skip, e_region, e_seq, e_cond, e_block, e_ret, k_seq_normal, k_seq_ret, k_block_normal, k_block_ret, o_nil, o_cons, o_guard, k_put, k_unit, s_tmp, s_const, s_func, v_bool, v_int, p_move, p_assign, p_bin, p_pick, p_index, p_call, u_cond, u_guard, u_gsel, u_gval_t, u_pick, u_bin_int, u_const, u_const_t, u_add, u_lss, u_geq, u_index, u_ix_str, u_frz_nil, u_frz_cons, u_frz_p, u_call, u_callT, u_callK0, u_callF, u_callA, u_callR_nil, u_m_p, u_argIds, u_dedup_nil, u_canon_nil, u_kpure, u_kr2, u_kr1, u_res_nil, u_res_tmp, u_kres, u_norm_nil, u_norm_cons, u_normF_none, u_retF, u_ret3, u_renAll_nil, u_resOps_nil, u_resOps_tmp, u_asRes1, u_find_nil, u_id_p, k_ret_ret, slots_set, slots_get, argW, List.map_cons, List.map_nil, List.getD_cons_zero, List.getD_cons_succ, List.append_nil, List.flatMap_cons, List.flatMap_nil, decide_eq_true_eq, Nat.reduceLT, Nat.reduceEqDiff, true_and, and_true, cx_P, cx_kind, ↓reduceIte, reduceCtorEq, Int.toNat_natCast, Int.natCast_nonneg, Nat.zero_add, L.p.injEq, PV.int.injEq, Bool.false_eq_true, Bool.true_and, Bool.and_true, Bool.or_true, f_u9, w1])
  (repeat' (first | (refine iteI (fun h => ?_) (fun h => ?_)) | (refine ex_get (by first | omega | (simp (disch := omega) only [wrap_i64, wrap_u8, nil_len] at *; omega)) ?_; intro b hb) | (refine And.intro (by first | omega | (simp (disch := omega) only [wrap_i64, wrap_u8, nil_len] at *; omega)) ?_) | ((first | (refine draw_lex hm (by rfl) (by kernel_rfl) ?_) | (refine Det.use (d_cont s _ hs (by omega)) ?_) | (refine Det.useQ (d_cont s _ hs (by omega)) ?_) | (refine XCalls.use (d_cont s _ hs (by omega)) ?_)); simp only [e_skip, e_region, e_seq, e_cond, e_ret, k_seq_normal, k_seq_ret, k_block_normal, k_block_ret, o_nil, o_cons, o_guard, k_put, k_unit, s_put, s_tmp, s_const, s_func, v_bool, v_int, p_move, p_assign, p_bin, p_pick, p_index, p_call, u_cond, u_guard, u_gsel, u_gval_t, u_gval_f, u_gval_tup, u_pick, u_bin_int, u_const, u_const_t, u_add, u_eql, u_lss, u_geq, u_index, u_ix_str, u_frz_nil, u_frz_cons, u_frz_p, u_call, u_callT, u_callK0, u_callF, u_callA, u_callR_nil, u_kback0_nil, u_m_p, u_argIds, u_dedup_nil, u_canon_nil, u_kpure, u_kr2, u_kr1, u_res_nil, u_res_tmp, u_kres, u_norm_nil, u_norm_cons, u_normF_none, u_retF, u_ret3, u_renAll_nil, u_resOps_nil, u_resOps_tmp, u_asRes1, u_find_nil, u_id_p, k_ret_ret, slots_set, slots_get, List.map_cons, List.map_nil, List.getD_cons_zero, List.getD_cons_succ, List.append_nil, List.flatMap_cons, List.flatMap_nil, decide_eq_true_eq, beq_iff_eq, Nat.reduceLT, Nat.reduceEqDiff, true_and, and_true, cx_P, cx_kind, ↓reduceIte, reduceCtorEq, Int.toNat_natCast, Int.natCast_nonneg, L.p.injEq, PV.int.injEq, Bool.false_eq_true, Bool.true_and, Bool.and_true, Bool.or_true, f_u9, w1, w2, w3]) | (refine And.intro (ct_lt (by assumption)) ?_) | (exact True.intro) | (exfalso; omega)))
  all_goals (clear w1 w2 w3; unfold rlen; simp only [ct_iff] at *; (repeat' split) <;> omega)
end Go.LX
/- What the document says of strings, as they are written. -/
set_option linter.unusedSimpArgs false
set_option maxRecDepth 100000
set_option maxHeartbeats 2000000
namespace Go.LX
open Go Go.RowKit Go.Proofs
attribute [local irreducible] LCalls SWP lqcall

/-- Where a text is no UTF-8. -/
def uF (s : List UInt8) : Nat → Nat → Nat
  | 0, _ => s.length
  | f + 1, i => if i < s.length then (if rlen s i = 0 then i else uF s f (i + rlen s i)) else s.length
def uAt (s : List UInt8) : Nat := uF s (s.length + 1) 0
def vF (s : List UInt8) : Nat → Nat → Bool
  | 0, _ => true
  | f + 1, i => if i < s.length then (if rlen s i = 0 then false else vF s f (i + rlen s i)) else true
def valid (s : List UInt8) : Bool := vF s (s.length + 1) 0
theorem d_refUtf2 (s : List UInt8) (hs : s.length ≤ 1000000) : Det cx 33 [.p (.str s)] [] (.p (.bool (valid s))) [] := by
  (refine LCalls.of_code (X := cx) false [] (by simp) Tryd.func33 (by kernel_rfl) rfl (by simp only [List.length_cons, List.length_nil, Tryd.ntmps33]; decide) (by simp) ?_; refine lwp_sound hm _ _ _ ?_; simp only [Tryd.ntmps33, Tryd.results33, e_region, e_seq, e_block, e_loop, k_seq_normal, o_nil, o_cons, k_put, s_const, v_bool, v_int, p_assign, slots_set, argW, List.map_cons, List.map_nil, cx_P])
  refine SWP.loop (fun x : Nat × Nat => ⟨slots 17 [(0, .p (.str s)), (3, .p (.int .i64 x.1))], []⟩) (fun x => x.1 ≤ s.length ∧ s.length + 1 ≤ x.1 + x.2 ∧ vF s x.2 x.1 = valid s) (fun x => s.length - x.1) (0, s.length + 1) (St.le_slots (by simp only [wsLe_cons, wsLe_nil, slots_get, slots_get_nil, LLe_junk, Nat.reduceEqDiff, reduceIte, Nat.reduceLT, Nat.reduceLeDiff]; simp (disch := omega) [LLe_junk, LLe_refl, LLe_p, wrap_i64] <;> (repeat' apply And.intro) <;> omega) (by simp (disch := omega) [regsLe, RegLe, tmpsLe, findReg, LLe_junk, LLe_refl, LLe_p, wrap_i64]) (by simp [keysOK])) ⟨by simp, by simp, rfl⟩ ?_
  rintro ⟨i, f⟩ ⟨h1, h2, h3⟩
  simp only at h1 h2 h3
  obtain ⟨g, rfl⟩ : ∃ g, f = g + 1 := ⟨f - 1, by omega⟩
  have h4 := rlen_le4 s i
  have hw := wia (i := i) (j := rlen s i) (by omega) (by omega)
  skip
  (refine lwp_sound hm _ _ _ ?_; simp only [e_skip, e_region, e_seq, e_cond, e_block, e_exit, e_ret, k_seq_normal, k_seq_exit, k_block_exit, o_nil, o_cons, k_put, s_tmp, s_const, s_func, v_bool, p_move, p_assign, p_bin, p_len, p_call, u_cond, u_bin_int, u_const_t, u_lss, u_len, u_len_str, u_frz_nil, u_frz_cons, u_frz_p, u_call, u_callT, u_callK0, u_callF, u_callA, u_callR_nil, u_m_p, u_argIds, u_dedup_nil, u_canon_nil, u_kpure, u_kr2, u_kr1, u_res_nil, u_res_tmp, u_kres, u_norm_nil, u_norm_cons, u_normF_none, u_retF, u_ret3, u_renAll_nil, u_resOps_nil, u_resOps_tmp, u_asRes1, u_find_nil, u_id_p, k_ret_ret, slots_set, slots_get, kloop, List.map_cons, List.map_nil, List.append_nil, List.flatMap_cons, List.flatMap_nil, decide_eq_true_eq, Nat.reduceLT, Nat.reduceEqDiff, and_true, cx_P, cx_kind, ↓reduceIte, reduceCtorEq, L.p.injEq, PV.bool.injEq, Bool.and_true, Bool.or_false, f_u9])
  (repeat' (first | (refine iteI (fun h => ?_) (fun h => ?_)) | (refine ex_get (by first | omega | (simp (disch := omega) only [wrap_i64, wrap_u8, nil_len] at *; omega)) ?_; intro b hb) | (refine And.intro (by first | omega | (simp (disch := omega) only [wrap_i64, wrap_u8, nil_len] at *; omega)) ?_) | ((first | (refine draw_lex hm (by rfl) (by kernel_rfl) ?_) | (refine Det.use (d_Rune s i hs (by omega)) ?_) | (refine Det.useQ (d_Rune s i hs (by omega)) ?_) | (refine XCalls.use (d_Rune s i hs (by omega)) ?_)); simp only [e_skip, e_region, e_seq, e_cond, e_ret, k_seq_normal, k_seq_ret, k_block_normal, k_block_ret, o_nil, o_cons, k_put, s_put, s_tmp, s_const, v_bool, v_int, p_move, p_assign, p_bin, u_cond, u_bin_int, u_const, u_const_t, u_add, u_eql, u_frz_nil, u_frz_cons, u_frz_p, u_kback0_nil, u_m_p, u_kpure, u_kr2, u_kr1, u_res_nil, u_res_tmp, u_kres, u_norm_nil, u_norm_cons, u_normF_none, u_retF, u_ret3, u_renAll_nil, u_resOps_nil, u_resOps_tmp, u_asRes1, u_find_nil, k_ret_ret, slots_set, slots_get, kloop, List.map_cons, List.map_nil, beq_iff_eq, Nat.reduceLT, Nat.reduceEqDiff, and_true, cx_P, ↓reduceIte, reduceCtorEq, L.p.injEq, PV.bool.injEq, Bool.and_true, Bool.or_false, Bool.or_true, hw]) | (exact True.intro) | (exfalso; omega)))
  · rw [← h3, vF, if_pos (by omega), if_pos (by omega)]
  · have := rlen_le s i (by omega)
    exact ⟨(i + rlen s i, g), ⟨by simp only; omega, by simp only; omega, by simp only; rw [← h3, vF, if_pos (by omega), if_neg (by omega)]⟩, by simp only; omega, (St.le_slots (by simp only [wsLe_cons, wsLe_nil, slots_get, slots_get_nil, LLe_junk, Nat.reduceEqDiff, reduceIte, Nat.reduceLT, Nat.reduceLeDiff]; simp (disch := omega) [LLe_junk, LLe_refl, LLe_p, wrap_i64] <;> (repeat' apply And.intro) <;> omega) (by simp (disch := omega) [regsLe, RegLe, tmpsLe, findReg, LLe_junk, LLe_refl, LLe_p, wrap_i64]) (by simp [keysOK]))⟩
  · rw [← h3, vF, if_neg (by omega)]
theorem d_refUtf3 (s : List UInt8) (hs : s.length ≤ 1000000) : Det cx 32 [.p (.str s)] [] (.p (.int .i64 (uAt s))) [] := by
  (refine LCalls.of_code (X := cx) false [] (by simp) Tryd.func32 (by kernel_rfl) rfl (by simp only [List.length_cons, List.length_nil, Tryd.ntmps32]; decide) (by simp) ?_; refine lwp_sound hm _ _ _ ?_; simp only [Tryd.ntmps32, Tryd.results32, e_region, e_seq, e_block, e_loop, k_seq_normal, o_nil, o_cons, k_put, s_const, v_int, p_assign, slots_set, argW, List.map_cons, List.map_nil, cx_P])
  refine SWP.loop (fun x : Nat × Nat => ⟨slots 20 [(0, .p (.str s)), (3, .p (.int .i64 x.1))], []⟩) (fun x => x.1 ≤ s.length ∧ s.length + 1 ≤ x.1 + x.2 ∧ uF s x.2 x.1 = uAt s) (fun x => s.length - x.1) (0, s.length + 1) (St.le_slots (by simp only [wsLe_cons, wsLe_nil, slots_get, slots_get_nil, LLe_junk, Nat.reduceEqDiff, reduceIte, Nat.reduceLT, Nat.reduceLeDiff]; simp (disch := omega) [LLe_junk, LLe_refl, LLe_p, wrap_i64] <;> (repeat' apply And.intro) <;> omega) (by simp (disch := omega) [regsLe, RegLe, tmpsLe, findReg, LLe_junk, LLe_refl, LLe_p, wrap_i64]) (by simp [keysOK])) ⟨by simp, by simp, rfl⟩ ?_
  rintro ⟨i, f⟩ ⟨h1, h2, h3⟩
  simp only at h1 h2 h3
  obtain ⟨g, rfl⟩ : ∃ g, f = g + 1 := ⟨f - 1, by omega⟩
  have h4 := rlen_le4 s i
  have hw := wia (i := i) (j := rlen s i) (by omega) (by omega)
  skip
  (refine lwp_sound hm _ _ _ ?_; simp only [e_skip, e_region, e_seq, e_cond, e_block, e_exit, e_ret, k_seq_normal, k_seq_exit, k_block_exit, o_nil, o_cons, k_put, s_tmp, s_func, p_move, p_assign, p_bin, p_len, p_call, u_cond, u_bin_int, u_const_t, u_lss, u_len, u_len_str, u_frz_nil, u_frz_cons, u_frz_p, u_call, u_callT, u_callK0, u_callF, u_callA, u_callR_nil, u_m_p, u_argIds, u_dedup_nil, u_canon_nil, u_kpure, u_kr2, u_kr1, u_res_nil, u_res_tmp, u_kres, u_norm_nil, u_norm_cons, u_normF_none, u_retF, u_ret3, u_renAll_nil, u_resOps_nil, u_resOps_tmp, u_asRes1, u_find_nil, u_id_p, k_ret_ret, slots_set, slots_get, kloop, List.map_cons, List.map_nil, List.append_nil, List.flatMap_cons, List.flatMap_nil, decide_eq_true_eq, Nat.reduceLT, Nat.reduceEqDiff, true_and, and_true, cx_P, cx_kind, ↓reduceIte, reduceCtorEq, L.p.injEq, PV.int.injEq, Bool.true_and, Bool.and_true, Bool.or_false, f_u9])
  (repeat' (first | (refine iteI (fun h => ?_) (fun h => ?_)) | (refine ex_get (by first | omega | (simp (disch := omega) only [wrap_i64, wrap_u8, nil_len] at *; omega)) ?_; intro b hb) | (refine And.intro (by first | omega | (simp (disch := omega) only [wrap_i64, wrap_u8, nil_len] at *; omega)) ?_) | ((first | (refine draw_lex hm (by rfl) (by kernel_rfl) ?_) | (refine Det.use (d_Rune s i hs (by omega)) ?_) | (refine Det.useQ (d_Rune s i hs (by omega)) ?_) | (refine XCalls.use (d_Rune s i hs (by omega)) ?_)); simp only [e_skip, e_region, e_seq, e_cond, e_ret, k_seq_normal, k_seq_ret, k_block_normal, k_block_ret, o_nil, o_cons, k_put, s_put, s_tmp, s_const, v_int, p_move, p_assign, p_bin, u_cond, u_bin_int, u_const, u_const_t, u_add, u_eql, u_frz_nil, u_frz_cons, u_frz_p, u_kback0_nil, u_m_p, u_kpure, u_kr2, u_kr1, u_res_nil, u_res_tmp, u_kres, u_norm_nil, u_norm_cons, u_normF_none, u_retF, u_ret3, u_renAll_nil, u_resOps_nil, u_resOps_tmp, u_asRes1, u_find_nil, k_ret_ret, slots_set, slots_get, kloop, List.map_cons, List.map_nil, beq_iff_eq, Nat.reduceLT, Nat.reduceEqDiff, true_and, and_true, cx_P, ↓reduceIte, reduceCtorEq, L.p.injEq, PV.int.injEq, Bool.true_and, Bool.and_true, Bool.or_false, Bool.or_true, hw]) | (exact True.intro) | (exfalso; omega)))
  · rw [← h3, uF, if_pos (by omega), if_pos (by omega)]
  · have := rlen_le s i (by omega)
    exact ⟨(i + rlen s i, g), ⟨by simp only; omega, by simp only; omega, by simp only; rw [← h3, uF, if_pos (by omega), if_neg (by omega)]⟩, by simp only; omega, (St.le_slots (by simp only [wsLe_cons, wsLe_nil, slots_get, slots_get_nil, LLe_junk, Nat.reduceEqDiff, reduceIte, Nat.reduceLT, Nat.reduceLeDiff]; simp (disch := omega) [LLe_junk, LLe_refl, LLe_p, wrap_i64] <;> (repeat' apply And.intro) <;> omega) (by simp (disch := omega) [regsLe, RegLe, tmpsLe, findReg, LLe_junk, LLe_refl, LLe_p, wrap_i64]) (by simp [keysOK]))⟩
  · rw [← h3, uF, if_neg (by omega)]
theorem d_hex (n : Nat) (h : n < 16) : Det cx 74 [.p (.int .i64 n)] [] (.p (.str [hexd n])) [] := by
  skip
  (refine LCalls.of_code (X := cx) false [] (by simp) Tryd.func74 (by kernel_rfl) rfl (by simp only [List.length_cons, List.length_nil, Tryd.ntmps74]; decide) (by simp) ?_; refine lwp_sound hm _ _ _ ?_; simp only [Tryd.ntmps74, Tryd.results74, e_region, e_seq, e_ret, k_seq_normal, o_nil, o_cons, k_put, s_tmp, s_const, v_int, v_str, p_move, p_assign, p_bin, p_slice, u_bin_int, u_const, u_const_t, u_add, bnd_some, u_slice, u_sl_lh, u_slG_p, u_frz_nil, u_frz_cons, u_frz_p, u_kpure, u_kr2, u_kr1, u_res_nil, u_res_tmp, u_kres, u_norm_nil, u_norm_cons, u_normF_none, u_retF, u_ret3, u_renAll_nil, u_resOps_nil, u_resOps_tmp, u_asRes1, u_find_nil, k_ret_ret, slots_set, slots_get, argW, List.map_cons, List.map_nil, List.length_cons, List.length_nil, Nat.reduceLT, Nat.reduceEqDiff, Nat.reduceAdd, true_and, and_true, cx_P, ↓reduceIte, reduceCtorEq, Int.toNat_natCast, Int.natCast_nonneg, Nat.zero_add, L.p.injEq, PV.str.injEq, Bool.true_and, Bool.and_true, Bool.or_true, f_u9, wi1 (i := n) (by omega)])
  (repeat' (first | (refine iteI (fun h => ?_) (fun h => ?_)) | (refine ex_get (by first | omega | (simp (disch := omega) only [wrap_i64, wrap_u8, nil_len] at *; omega)) ?_; intro b hb) | (refine And.intro (by first | omega | (simp (disch := omega) only [wrap_i64, wrap_u8, nil_len] at *; omega)) ?_) | ((first | (refine draw_lex hm (by rfl) (by kernel_rfl) ?_)); simp only [e_scope]) | (exact True.intro) | (exfalso; omega)))
  have key : ∀ m : Fin 16, List.take (m.val + 1 - m.val) (List.drop m.val [48, 49, 50, 51, 52, 53, 54, 55, 56, 57, 97, 98, 99, 100, 101, 102]) = [hexd m.val] := by decide
  exact key ⟨n, h⟩
/-- A byte below 128, written. -/
def wr (c : Nat) : List UInt8 :=
  if c = 34 then [92, 34] else if c = 92 then [92, 92] else if c = 8 then [92, 98] else if c = 12 then [92, 102] else if c = 10 then [92, 110] else if c = 13 then [92, 114] else if c = 9 then [92, 116]
  else if c < 32 then [92, 117, 48, 48, hexd (c / 16), hexd (c % 16)] else [UInt8.ofNat c]
theorem td16 {c : Nat} (h : c ≤ 3000000) : IntKind.i64.wrap ((c : Int).tdiv 16) = ((c / 16 : Nat) : Int) := by
  rw [Int.tdiv_eq_ediv_of_nonneg (by omega), wrap_i64 (by omega) (by omega)]; omega
theorem tm16 {c : Nat} : (c : Int).tmod 16 = ((c % 16 : Nat) : Int) := by
  rw [Int.tmod_eq_emod_of_nonneg (by omega)]; omega
theorem wi0 {c : Nat} (h : c ≤ 3000000) : IntKind.i64.wrap (c : Int) = (c : Int) := wrap_i64 (by omega) (by omega)
theorem byteC_nat {c : Nat} (h : c ≤ 255) {bs : List UInt8} : byteC (c : Int) (some bs) = some (UInt8.ofNat c :: bs) := by
  simp only [byteC]
  rw [if_pos (by omega)]
  rfl
theorem d_written (c : Nat) (hc : c ≤ 255) : Det cx 57 [.p (.int .u8 c)] [] (.p (.str (wr c))) [] := by
  skip
  (refine LCalls.of_code (X := cx) false [] (by simp) Tryd.func57 (by kernel_rfl) rfl (by simp only [List.length_cons, List.length_nil, Tryd.ntmps57]; decide) (by simp) ?_; refine lwp_sound hm _ _ _ ?_; simp only [Tryd.ntmps57, Tryd.results57, e_skip, e_region, e_seq, e_cond, e_block, e_ret, k_seq_normal, k_seq_ret, k_block_normal, k_block_ret, o_nil, o_cons, k_put, s_put, s_tmp, s_const, s_func, v_int, v_str, p_move, p_assign, p_bin, p_conv, p_buildSlice, p_call, whenS_some, u_cond, u_bin_int, u_const, u_const_t, u_quo, u_eql, u_lss, u_kstr, u_cvF, u_cvG_int, u_cvG_own, u_conv, u_conv_int, u_conv_bytes, u_bytes_nil, u_bytes_cons, u_newReg, cell_int, u_frz_nil, u_frz_cons, u_frz_p, u_frz_own, u_freeze, u_fzOf_row, u_frzBy, u_call, u_callT, u_callK0, u_callF, u_callA, u_callR_nil, u_m_p, u_argIds, u_dedup_nil, u_canon_nil, u_kbs2, u_kbs, u_zok, u_buildSlice, u_bsT, idx_nil, idx_cons, ppA_some, ppC_some, pp_nil, pp_cons, u_kpure, u_kr2, u_kr1, u_res_nil, u_res_tmp, u_kres, u_norm_nil, u_norm_cons, u_normF_none, u_retF, u_ret3, u_renAll_nil, u_resOps_nil, u_resOps_tmp, u_asRes1, u_find_nil, u_find_cons, u_drop_nil, u_frzR_nil, u_frzR_cons, u_f_p, u_z_p, u_z_own, u_id_p, u_all_nil, u_consO, u_all_cons, u_pure, k_ret_ret, slots_set, slots_get, slots_forget, slots_freeze, mapW_nil, mapW_cons, argW, List.map_cons, List.map_nil, List.length_cons, List.length_nil, List.append_nil, List.flatMap_cons, List.flatMap_nil, List.take_succ_cons, List.take_nil, List.drop_zero, decide_eq_true_eq, beq_iff_eq, ne_eq, not_false_eq_true, Nat.reduceLT, Nat.reduceLeDiff, Nat.reduceEqDiff, Nat.reduceMul, Int.reduceEq, true_and, and_true, cx_P, cx_kind, ↓reduceIte, reduceCtorEq, Nat.zero_add, L.p.injEq, PV.str.injEq, Bool.true_and, Bool.and_true, Bool.or_true, beq_self_eq_true, f_u3, f_u5, f_z5, f_u9, f_u41, f_s41, td16 (c := c) (by omega), wi0 (c := c) (by omega), byteC_nat hc])
  (repeat' (first | (refine iteI (fun h => ?_) (fun h => ?_)) | (refine ex_get (by first | omega | (simp (disch := omega) only [wrap_i64, wrap_u8, nil_len] at *; omega)) ?_; intro b hb) | (refine And.intro (by first | omega | (simp (disch := omega) only [wrap_i64, wrap_u8, nil_len] at *; omega)) ?_) | ((first | (refine draw_lex hm (by rfl) (by kernel_rfl) ?_) | (refine Det.use (d_hex (c / 16) (by omega)) ?_) | (refine Det.useQ (d_hex (c / 16) (by omega)) ?_) | (refine XCalls.use (d_hex (c / 16) (by omega)) ?_) | (refine Det.use (d_hex (c % 16) (by omega)) ?_) | (refine Det.useQ (d_hex (c % 16) (by omega)) ?_) | (refine XCalls.use (d_hex (c % 16) (by omega)) ?_)); simp only [e_ret, k_seq_normal, k_seq_ret, o_nil, o_cons, k_put, s_put, s_tmp, s_const, s_func, v_int, v_str, p_move, p_assign, p_bin, p_conv, p_call, u_bin_int, u_bin_str, u_const, u_const_t, u_rem, u_sadd, u_cvF, u_cvG_int, u_conv, u_conv_int, u_frz_nil, u_frz_cons, u_frz_p, u_call, u_callT, u_callK0, u_callF, u_callA, u_callR_nil, u_kback0_nil, u_m_p, u_argIds, u_dedup_nil, u_canon_nil, u_kpure, u_kr2, u_kr1, u_res_nil, u_res_tmp, u_kres, u_norm_nil, u_norm_cons, u_normF_none, u_retF, u_ret3, u_renAll_nil, u_resOps_nil, u_resOps_tmp, u_asRes1, u_find_nil, u_id_p, k_ret_ret, slots_set, slots_get, List.map_cons, List.map_nil, List.length_cons, List.length_nil, List.cons_append, List.nil_append, List.append_nil, List.flatMap_cons, List.flatMap_nil, ne_eq, not_false_eq_true, Nat.reduceLT, Nat.reduceLeDiff, Nat.reduceEqDiff, Nat.reduceAdd, Int.reduceEq, true_and, and_true, cx_P, cx_kind, ↓reduceIte, reduceCtorEq, Nat.zero_add, L.p.injEq, PV.str.injEq, Bool.true_and, Bool.and_true, Bool.or_false, Bool.or_true, f_u3, f_u5, td16 (c := c) (by omega), tm16, wi0 (c := c) (by omega), byteC_nat hc]) | (exact True.intro) | (exfalso; omega)))
  all_goals (unfold wr; (repeat' split) <;> first | rfl | (exfalso; omega))
end Go.LX
/- What the document says of strings, as they are written: Quote, Unquote. -/
set_option linter.unusedSimpArgs false
set_option maxRecDepth 100000
set_option maxHeartbeats 2000000
namespace Go.LX
open Go Go.RowKit Go.Proofs
attribute [local irreducible] LCalls SWP lqcall

def wrs (s : List UInt8) : List UInt8 := s.flatMap fun c => wr c.toNat
def refQ (s : List UInt8) : List UInt8 := 34 :: wrs s ++ [34]
theorem wr_le (c : Nat) : (wr c).length ≤ 6 := by
  unfold wr
  repeat' split
  all_goals simp
theorem wrs_le (s : List UInt8) : (wrs s).length ≤ 6 * s.length := by
  induction s with
  | nil => simp [wrs]
  | cons c s ih =>
    have := wr_le c.toNat
    simp only [wrs, List.flatMap_cons, List.length_append, List.length_cons] at ih ⊢
    omega
theorem wrs_take {s : List UInt8} {i : Nat} (h : i < s.length) : wrs (s.take (i + 1)) = wrs (s.take i) ++ wr (at_ s i) := by
  have e : s.take (i + 1) = s.take i ++ [s[i]] := by rw [List.take_add_one, List.getElem?_eq_getElem h]; rfl
  rw [e]
  simp only [wrs, List.flatMap_append, List.flatMap_cons, List.flatMap_nil, List.append_nil, at_get h]
@[simp] theorem wrs_nil : wrs [] = [] := rfl
theorem d_refQuote (s : List UInt8) (hs : s.length ≤ 1000000) : Det cx 35 [.p (.str s)] [] (.p (.str (refQ s))) [] := by
  (refine LCalls.of_code (X := cx) false [] (by simp) Tryd.func35 (by kernel_rfl) rfl (by simp only [List.length_cons, List.length_nil, Tryd.ntmps35]; decide) (by simp) ?_; refine lwp_sound hm _ _ _ ?_; simp only [Tryd.ntmps35, Tryd.results35, e_region, e_seq, e_block, e_loop, k_seq_normal, o_nil, o_cons, k_put, s_const, v_int, v_str, p_assign, slots_set, argW, List.map_cons, List.map_nil, cx_P])
  refine SWP.loop (fun i : Nat => ⟨slots 19 [(0, .p (.str s)), (3, .p (.str (34 :: wrs (s.take i)))), (4, .p (.int .i64 i))], []⟩) (fun i => i ≤ s.length) (fun i => s.length - i) 0 (St.le_slots (by simp only [wsLe_cons, wsLe_nil, slots_get, slots_get_nil, LLe_junk, Nat.reduceEqDiff, reduceIte, Nat.reduceLT, Nat.reduceLeDiff]; simp (disch := omega) [LLe_junk, LLe_refl, LLe_p, wrap_i64] <;> (repeat' apply And.intro) <;> omega) (by simp (disch := omega) [regsLe, RegLe, tmpsLe, findReg, LLe_junk, LLe_refl, LLe_p, wrap_i64]) (by simp [keysOK])) (Nat.zero_le _) ?_
  rintro i h1
  have hw := wrs_le (s.take i)
  have hl : (s.take i).length ≤ s.length := List.length_take_le' ..
  have hr := wr_le (at_ s i)
  skip
  (refine lwp_sound hm _ _ _ ?_; simp only [e_skip, e_region, e_seq, e_cond, e_block, e_exit, e_ret, k_seq_normal, k_seq_exit, k_block_exit, o_nil, o_cons, k_put, s_tmp, s_const, s_func, v_str, p_move, p_assign, p_bin, p_index, p_len, p_call, u_cond, u_bin_int, u_bin_str, u_const, u_const_t, u_lss, u_sadd, u_len, u_len_str, u_index, u_ix_str, u_frz_nil, u_frz_cons, u_frz_p, u_call, u_callT, u_callK0, u_callF, u_callA, u_callR_nil, u_m_p, u_argIds, u_dedup_nil, u_canon_nil, u_kpure, u_kr2, u_kr1, u_res_nil, u_res_tmp, u_kres, u_norm_nil, u_norm_cons, u_normF_none, u_retF, u_ret3, u_renAll_nil, u_resOps_nil, u_resOps_tmp, u_asRes1, u_find_nil, u_id_p, k_ret_ret, slots_set, slots_get, kloop, List.map_cons, List.map_nil, List.length_cons, List.length_nil, List.cons_append, List.append_nil, List.flatMap_cons, List.flatMap_nil, decide_eq_true_eq, Nat.reduceLT, Nat.reduceLeDiff, Nat.reduceEqDiff, true_and, and_true, cx_P, cx_kind, ↓reduceIte, reduceCtorEq, Int.toNat_natCast, Int.natCast_nonneg, Nat.zero_add, L.p.injEq, PV.str.injEq, Bool.true_and, Bool.and_true, Bool.or_false, Bool.or_true, f_u9, wi1 (i := i) (by omega)])
  (repeat' (first | (refine iteI (fun h => ?_) (fun h => ?_)) | (refine ex_get (by first | omega | (simp (disch := omega) only [wrap_i64, wrap_u8, nil_len] at *; omega)) ?_; intro b hb) | (refine And.intro (by first | omega | (simp (disch := omega) only [wrap_i64, wrap_u8, nil_len] at *; omega)) ?_) | ((first | (refine draw_lex hm (by rfl) (by kernel_rfl) ?_) | (refine Det.use (d_written _ (at_lt s i)) ?_) | (refine Det.useQ (d_written _ (at_lt s i)) ?_) | (refine XCalls.use (d_written _ (at_lt s i)) ?_)); simp only [e_region, k_seq_normal, k_block_normal, o_nil, o_cons, k_put, s_put, s_tmp, s_const, v_int, p_move, p_assign, p_bin, u_bin_int, u_bin_str, u_const, u_const_t, u_add, u_sadd, u_kback0_nil, u_m_p, slots_set, slots_get, kloop, List.map_cons, List.map_nil, List.length_cons, List.cons_append, Nat.reduceLT, Nat.reduceEqDiff, cx_P, ↓reduceIte, reduceCtorEq, Bool.or_false, Bool.or_true, wi1 (i := i) (by omega)]) | (exact True.intro) | (exfalso; omega)))
  · refine ⟨i + 1, by omega, by omega, ?_⟩
    rw [wrs_take (by omega)]
    exact (St.le_slots (by simp only [wsLe_cons, wsLe_nil, slots_get, slots_get_nil, LLe_junk, Nat.reduceEqDiff, reduceIte, Nat.reduceLT, Nat.reduceLeDiff]; simp (disch := omega) [LLe_junk, LLe_refl, LLe_p, wrap_i64] <;> (repeat' apply And.intro) <;> omega) (by simp (disch := omega) [regsLe, RegLe, tmpsLe, findReg, LLe_junk, LLe_refl, LLe_p, wrap_i64]) (by simp [keysOK]))
  · rw [List.take_of_length_le (by omega)]; rfl
/-- The number of an escape with u; below 0: there is none. -/
def u4 (s : List UInt8) : Int := if 6 ≤ s.length ∧ at_ s 0 = 92 ∧ at_ s 1 = 117 then (match hexN ((s.drop 2).take 4) 0 with | some n => (n : Int) | none => -1) else -1
theorem u4_drop (s : List UInt8) (i : Nat) : u4 (s.drop i) = if i + 6 ≤ s.length ∧ at_ s i = 92 ∧ at_ s (i + 1) = 117 then (match hexN ((s.drop (i + 2)).take 4) 0 with | some n => (n : Int) | none => -1) else -1 := by
  have e : (6 ≤ (s.drop i).length ∧ at_ (s.drop i) 0 = 92 ∧ at_ (s.drop i) 1 = 117) = (i + 6 ≤ s.length ∧ at_ s i = 92 ∧ at_ s (i + 1) = 117) := by
    simp only [List.length_drop, at_drop, Nat.add_zero]
    apply propext
    omega
  unfold u4
  simp only [e, List.drop_drop, Nat.add_comm 2 i]
theorem d_unit (s : List UInt8) (i : Nat) (hs : s.length ≤ 1000000) (hi : i ≤ 2000000) : Det cx 85 [.p (.str s), .p (.int .i64 i)] [] (.p (.int .i64 (u4 (s.drop i)))) [] := by
  have hA := at_lt s i
  have hB := at_lt s (i + 1)
  skip
  (refine LCalls.of_code (X := cx) false [] (by simp) Tryd.func85 (by kernel_rfl) rfl (by simp only [List.length_cons, List.length_nil, Tryd.ntmps85]; decide) (by simp) ?_; refine lwp_sound hm _ _ _ ?_; simp only [Tryd.ntmps85, Tryd.results85, e_skip, e_region, e_seq, e_cond, e_block, e_loop, e_ret, k_seq_normal, k_seq_ret, o_nil, o_cons, o_guard, k_put, k_unit, s_tmp, s_const, v_bool, v_int, p_move, p_assign, p_bin, p_pick, p_index, p_len, u_cond, u_guard, u_gsel, u_gval_f, u_pick, u_bin_int, u_const, u_const_t, u_add, u_neq, u_gtr, u_len, u_len_str, u_index, u_ix_str, u_frz_nil, u_frz_cons, u_frz_p, u_kpure, u_kr2, u_kr1, u_res_nil, u_res_tmp, u_kres, u_norm_nil, u_norm_cons, u_normF_none, u_retF, u_ret3, u_renAll_nil, u_resOps_nil, u_resOps_tmp, u_asRes1, u_find_nil, k_ret_ret, slots_set, slots_get, argW, List.map_cons, List.map_nil, List.getD_cons_zero, List.getD_cons_succ, decide_eq_true_eq, bne_iff_ne, ne_eq, Nat.reduceLT, Nat.reduceEqDiff, Int.reduceNeg, true_and, and_true, cx_P, ↓reduceIte, reduceCtorEq, Int.toNat_natCast, Int.natCast_nonneg, Nat.zero_add, L.p.injEq, PV.int.injEq, Bool.false_eq_true, Bool.true_and, Bool.and_true, Bool.or_false, Bool.or_true, f_u9, wi1 (i := i) (by omega), wi2 (i := i) (by omega), wi6 (i := i) (by omega)])
  rw [u4_drop]
  (repeat' (first | (refine iteI (fun h => ?_) (fun h => ?_)) | (refine ex_get (by first | omega | (simp (disch := omega) only [wrap_i64, wrap_u8, nil_len] at *; omega)) ?_; intro b hb) | (refine And.intro (by first | omega | (simp (disch := omega) only [wrap_i64, wrap_u8, nil_len] at *; omega)) ?_) | ((first | (refine draw_lex hm (by rfl) (by kernel_rfl) ?_)); simp only [e_scope]) | (exact True.intro) | (exfalso; omega)))
  · rw [if_neg (by omega)]
  · rw [if_neg (by omega)]
  · rw [if_neg (by omega)]
  rw [if_pos (by omega)]
  have hT : ((s.drop (i + 2)).take 4).length = 4 := by simp; omega
  have hTa : ∀ j, j < 4 → at_ ((s.drop (i + 2)).take 4) j = at_ s (i + 2 + j) := fun j hj => by
    rw [← at_drop]
    simp [at_, List.getD_eq_getElem?_getD, List.getElem?_take, hj]
  generalize (s.drop (i + 2)).take 4 = T at *
  refine SWP.loop (fun x : Nat × Nat => ⟨slots 77 [(0, .p (.str s)), (1, .p (.int .i64 i)), (5, .p (.int .i64 x.2)), (6, .p (.int .i64 (i + 2 + x.1 : Nat)))], []⟩) (fun x => x.1 ≤ 4 ∧ x.2 < 16 ^ x.1 ∧ hexN (T.drop x.1) x.2 = hexN T 0) (fun x => 4 - x.1) (0, 0) (St.le_slots (by simp only [wsLe_cons, wsLe_nil, slots_get, slots_get_nil, LLe_junk, Nat.reduceEqDiff, reduceIte, Nat.reduceLT, Nat.reduceLeDiff]; simp (disch := omega) [LLe_junk, LLe_refl, LLe_p, wrap_i64] <;> (repeat' apply And.intro) <;> omega) (by simp (disch := omega) [regsLe, RegLe, tmpsLe, findReg, LLe_junk, LLe_refl, LLe_p, wrap_i64]) (by simp [keysOK])) ⟨by omega, by decide, rfl⟩ ?_
  rintro ⟨j, n⟩ ⟨h1, h2, h3⟩
  simp only at h1 h2 h3
  have hP : j < 4 → n < 4096 := fun h => Nat.lt_of_lt_of_le h2 (Nat.le_trans (Nat.pow_le_pow_right (by decide) (show j ≤ 3 by omega)) (by decide))
  have hS : j < 4 → ∀ d < 16, n * 16 + d < 16 ^ (j + 1) := fun h d hd => by rw [Nat.pow_succ]; omega
  have hC := at_lt s (i + 2 + j)
  skip
  (refine lwp_sound hm _ _ _ ?_; simp only [e_skip, e_region, e_seq, e_cond, e_block, e_exit, e_ret, k_seq_normal, k_seq_exit, k_seq_ret, k_block_normal, k_block_exit, k_block_ret, o_nil, o_cons, o_guard, k_put, k_unit, s_tmp, s_const, v_bool, v_int, p_move, p_assign, p_bin, p_conv, p_pick, p_index, u_cond, u_guard, u_gsel, u_gval_t, u_pick, u_bin_int, u_const, u_const_t, u_add, u_sub, u_mul, u_lss, u_leq, u_geq, u_cvF, u_cvG_int, u_conv, u_conv_int, u_index, u_ix_str, u_frz_nil, u_frz_cons, u_frz_p, u_kpure, u_kr2, u_kr1, u_res_nil, u_res_tmp, u_kres, u_norm_nil, u_norm_cons, u_normF_none, u_retF, u_ret3, u_renAll_nil, u_resOps_nil, u_resOps_tmp, u_asRes1, u_find_nil, k_ret_ret, slots_set, slots_get, kloop, List.map_cons, List.map_nil, List.getD_cons_zero, List.getD_cons_succ, decide_eq_true_eq, Nat.reduceLT, Nat.reduceEqDiff, Int.reduceNeg, true_and, and_true, cx_P, ↓reduceIte, reduceCtorEq, Int.toNat_natCast, Int.natCast_nonneg, L.p.injEq, PV.int.injEq, Bool.false_eq_true, Bool.true_and, Bool.and_true, Bool.or_false, Bool.or_true, f_u3, f_u5, f_u9, wi1 (i := i) (by omega), wi2 (i := i) (by omega), wi6 (i := i) (by omega), wi0 (c := at_ s (i + 2 + j)) (by omega), wi1 (i := i + 2 + j) (by omega)])
  (repeat' (first | (refine iteI (fun h => ?_) (fun h => ?_)) | (refine ex_get (by first | omega | (simp (disch := omega) only [wrap_i64, wrap_u8, nil_len] at *; omega)) ?_; intro b hb) | (refine And.intro (by first | omega | (simp (disch := omega) only [wrap_i64, wrap_u8, nil_len] at *; omega)) ?_) | ((first | (refine draw_lex hm (by rfl) (by kernel_rfl) ?_)); simp only [e_scope]) | (exact True.intro) | (exfalso; omega)))
  all_goals first
    | (have hd : 48 ≤ at_ s (i + 2 + j) ∧ at_ s (i + 2 + j) ≤ 57 := by omega
       have hv : hexv (at_ T j) = some (at_ s (i + 2 + j) - 48) := by rw [hTa j (by omega)]; unfold hexv; rw [if_pos (by omega)]
       have hn := hP (by omega)
       refine ⟨(j + 1, n * 16 + (at_ s (i + 2 + j) - 48)), ⟨by simp only; omega, hS (by omega) _ (by omega), ?_⟩, by simp only; omega, (St.le_slots (by simp only [wsLe_cons, wsLe_nil, slots_get, slots_get_nil, LLe_junk, Nat.reduceEqDiff, reduceIte, Nat.reduceLT, Nat.reduceLeDiff]; simp (disch := omega) [LLe_junk, LLe_refl, LLe_p, wrap_i64] <;> (repeat' apply And.intro) <;> omega) (by simp (disch := omega) [regsLe, RegLe, tmpsLe, findReg, LLe_junk, LLe_refl, LLe_p, wrap_i64]) (by simp [keysOK]))⟩
       simp only; rw [← h3, hexN_step (i := j) (n := n) (by omega), hv])
    | (have hd : 97 ≤ at_ s (i + 2 + j) ∧ at_ s (i + 2 + j) ≤ 102 := by omega
       have hv : hexv (at_ T j) = some (at_ s (i + 2 + j) - 87) := by rw [hTa j (by omega)]; unfold hexv; rw [if_neg (by omega), if_pos (by omega)]
       have hn := hP (by omega)
       refine ⟨(j + 1, n * 16 + (at_ s (i + 2 + j) - 87)), ⟨by simp only; omega, hS (by omega) _ (by omega), ?_⟩, by simp only; omega, (St.le_slots (by simp only [wsLe_cons, wsLe_nil, slots_get, slots_get_nil, LLe_junk, Nat.reduceEqDiff, reduceIte, Nat.reduceLT, Nat.reduceLeDiff]; simp (disch := omega) [LLe_junk, LLe_refl, LLe_p, wrap_i64] <;> (repeat' apply And.intro) <;> omega) (by simp (disch := omega) [regsLe, RegLe, tmpsLe, findReg, LLe_junk, LLe_refl, LLe_p, wrap_i64]) (by simp [keysOK]))⟩
       simp only; rw [← h3, hexN_step (i := j) (n := n) (by omega), hv])
    | (have hd : 65 ≤ at_ s (i + 2 + j) ∧ at_ s (i + 2 + j) ≤ 70 := by omega
       have hv : hexv (at_ T j) = some (at_ s (i + 2 + j) - 55) := by rw [hTa j (by omega)]; unfold hexv; rw [if_neg (by omega), if_neg (by omega), if_pos (by omega)]
       have hn := hP (by omega)
       refine ⟨(j + 1, n * 16 + (at_ s (i + 2 + j) - 55)), ⟨by simp only; omega, hS (by omega) _ (by omega), ?_⟩, by simp only; omega, (St.le_slots (by simp only [wsLe_cons, wsLe_nil, slots_get, slots_get_nil, LLe_junk, Nat.reduceEqDiff, reduceIte, Nat.reduceLT, Nat.reduceLeDiff]; simp (disch := omega) [LLe_junk, LLe_refl, LLe_p, wrap_i64] <;> (repeat' apply And.intro) <;> omega) (by simp (disch := omega) [regsLe, RegLe, tmpsLe, findReg, LLe_junk, LLe_refl, LLe_p, wrap_i64]) (by simp [keysOK]))⟩
       simp only; rw [← h3, hexN_step (i := j) (n := n) (by omega), hv])
    | (have e : hexN T 0 = none := by
         rw [← h3, hexN_step (i := j) (n := n) (by omega), hTa j (by omega), show hexv (at_ s (i + 2 + j)) = none by unfold hexv; rw [if_neg (by omega), if_neg (by omega), if_neg (by omega)]]
       rw [e])
    | (have e : hexN T 0 = some n := by
         rw [← h3, List.drop_eq_nil_of_le (by omega)]; rfl
       rw [e])
/-- What the escapes of one letter stand for. -/
def shortR (c : Nat) : Option Nat :=
  if c = 34 then some 34 else if c = 92 then some 92 else if c = 47 then some 47 else if c = 98 then some 8 else if c = 102 then some 12 else if c = 110 then some 10 else if c = 114 then some 13 else if c = 116 then some 9 else none
/-- The rune that an escape stands for, and how many bytes it has; 0: it is none. -/
def escR (s : List UInt8) : Int × Nat :=
  if s.length < 2 then (0, 0) else match shortR (at_ s 1) with
    | some r => (r, 2)
    | none => if u4 s < 0 ∨ (56320 ≤ u4 s ∧ u4 s < 57344) then (0, 0) else if u4 s < 55296 ∨ 57344 ≤ u4 s then (u4 s, 6)
      else if u4 (s.drop 6) < 56320 ∨ 57344 ≤ u4 (s.drop 6) then (0, 0) else (65536 + (u4 s - 55296) * 1024 + (u4 (s.drop 6) - 56320), 12)
/-- What an escape stands for, as bytes. -/
def escS (s : List UInt8) : List UInt8 × Nat := if (escR s).2 = 0 then ([], 0) else (utf (escR s).1, (escR s).2)
theorem u4_le (s : List UInt8) : -1 ≤ u4 s ∧ u4 s < 65536 := by
  unfold u4
  split
  · split
    · rename_i n h
      have := hexN_lt _ _ _ h
      have hl : ((s.drop 2).take 4).length = 4 := by simp; omega
      rw [hl] at this
      omega
    · omega
  · omega
theorem d_utf (n : Int) (h : isRune n) : Det cx 86 [.p (.int .i64 n)] [] (.p (.str (utf n))) [] := by
  have h' := h
  unfold isRune at h'
  (refine LCalls.of_code (X := cx) false [] (by simp) Tryd.func86 (by kernel_rfl) rfl (by simp only [List.length_cons, List.length_nil, Tryd.ntmps86]; decide) (by simp) ?_; refine lwp_sound hm _ _ _ ?_; simp only [Tryd.ntmps86, Tryd.results86, e_skip, e_region, e_seq, e_cond, e_ret, k_seq_normal, k_seq_ret, o_nil, o_cons, k_put, s_put, s_tmp, s_const, v_int, v_str, p_move, p_assign, p_bin, p_conv, p_buildSlice, whenS_some, u_cond, u_bin_int, u_const, u_const_t, u_add, u_quo, u_rem, u_lss, u_kstr, u_cvF, u_cvG_int, u_cvG_own, u_conv, u_conv_int, u_conv_bytes, u_bytes_nil, u_bytes_cons, u_byteC_wrap, u_newReg, cell_int, u_frz_nil, u_frz_cons, u_frz_p, u_frz_own, u_freeze, u_fzOf_row, u_frzBy, u_kbs2, u_kbs, u_zok, u_buildSlice, u_bsT, idx_nil, idx_cons, ppA_some, ppC_some, pp_nil, pp_cons, u_kpure, u_kr2, u_kr1, u_res_nil, u_res_tmp, u_kres, u_norm_nil, u_norm_cons, u_normF_none, u_retF, u_ret3, u_renAll_nil, u_resOps_nil, u_resOps_tmp, u_asRes1, u_find_nil, u_find_cons, u_drop_nil, u_frzR_nil, u_frzR_cons, u_f_p, u_z_p, u_z_own, u_all_nil, u_consO, u_all_cons, u_pure, k_ret_ret, slots_set, slots_get, slots_forget, slots_freeze, mapW_nil, mapW_cons, argW, List.map_cons, List.map_nil, List.length_cons, List.length_nil, List.take_succ_cons, List.take_nil, List.drop_zero, decide_eq_true_eq, ne_eq, not_false_eq_true, Nat.reduceLT, Nat.reduceLeDiff, Nat.reduceEqDiff, Nat.reduceAdd, Nat.reduceMul, Int.reduceEq, true_and, and_true, cx_P, ↓reduceIte, reduceCtorEq, Nat.zero_add, L.p.injEq, PV.str.injEq, Bool.true_and, Bool.and_true, Bool.or_false, Bool.or_true, beq_self_eq_true, f_u3, f_u5, f_z5, f_u9, f_u41, f_s41])
  (repeat' (first | (refine iteI (fun h => ?_) (fun h => ?_)) | (refine ex_get (by first | omega | (simp (disch := omega) only [wrap_i64, wrap_u8, nil_len] at *; omega)) ?_; intro b hb) | (refine And.intro (by first | omega | (simp (disch := omega) only [wrap_i64, wrap_u8, nil_len] at *; omega)) ?_) | ((first | (refine draw_lex hm (by rfl) (by kernel_rfl) ?_)); simp only [e_scope]) | (exact True.intro) | (exfalso; omega)))
  · rw [utf, utfC_1 (by omega)]; rfl
  · rw [utf, utfC_2 (by omega)]
    simp (disch := omega) only [Int.tdiv_eq_ediv_of_nonneg, Int.tmod_eq_emod_of_nonneg, wrap_i64, List.map_cons, List.map_nil]
  · rw [utf, utfC_3 (by omega)]
    simp (disch := omega) only [Int.tdiv_eq_ediv_of_nonneg, Int.tmod_eq_emod_of_nonneg, wrap_i64, List.map_cons, List.map_nil]
  · rw [utf, utfC_4 (by omega)]
    simp (disch := omega) only [Int.tdiv_eq_ediv_of_nonneg, Int.tmod_eq_emod_of_nonneg, wrap_i64, List.map_cons, List.map_nil]
end Go.LX
