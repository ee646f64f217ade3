/- What the document says of strings, as they are written: escapes, Unquote. -/
import Derived.Test.YteiencnfglbnkaaDoorLxQRef
set_option linter.unusedSimpArgs false
set_option linter.unusedVariables false
set_option linter.unusedSectionVars false
set_option linter.unnecessarySimpa false
set_option linter.unusedSimpArgs false
set_option maxRecDepth 100000
set_option maxHeartbeats 2000000
namespace Go.LX
open Go Go.RowKit Go.Proofs
attribute [local irreducible] LCalls SWP lqcall

theorem fl0 : at_ [34, 92, 47, 98, 102, 110, 114, 116] 0 = 34 := rfl
theorem fl1 : at_ [34, 92, 47, 98, 102, 110, 114, 116] 1 = 92 := rfl
theorem fl2 : at_ [34, 92, 47, 98, 102, 110, 114, 116] 2 = 47 := rfl
theorem fl3 : at_ [34, 92, 47, 98, 102, 110, 114, 116] 3 = 98 := rfl
theorem fl4 : at_ [34, 92, 47, 98, 102, 110, 114, 116] 4 = 102 := rfl
theorem fl5 : at_ [34, 92, 47, 98, 102, 110, 114, 116] 5 = 110 := rfl
theorem fl6 : at_ [34, 92, 47, 98, 102, 110, 114, 116] 6 = 114 := rfl
theorem fl7 : at_ [34, 92, 47, 98, 102, 110, 114, 116] 7 = 116 := rfl
theorem wk1 : IntKind.i64.wrap 1 = 1 := by decide
theorem wk2 : IntKind.i64.wrap 2 = 2 := by decide
theorem wk3 : IntKind.i64.wrap 3 = 3 := by decide
theorem wk4 : IntKind.i64.wrap 4 = 4 := by decide
theorem wk5 : IntKind.i64.wrap 5 = 5 := by decide
theorem wk6 : IntKind.i64.wrap 6 = 6 := by decide
theorem wk7 : IntKind.i64.wrap 7 = 7 := by decide
theorem wk8 : IntKind.i64.wrap 8 = 8 := by decide
theorem escR_short {s : List UInt8} {i : Nat} (h : s.length ≤ i + 1) : escR (s.drop i) = (0, 0) := by
  unfold escR
  rw [if_pos (by rw [List.length_drop]; omega)]
theorem escR_some {s : List UInt8} {i r : Nat} (h : i + 1 < s.length) (hr : shortR (at_ s (i + 1)) = some r) : escR (s.drop i) = ((r : Int), 2) := by
  unfold escR
  rw [if_neg (by rw [List.length_drop]; omega), at_drop, hr]
theorem escR_none {s : List UInt8} {i : Nat} (h : i + 1 < s.length) (hr : shortR (at_ s (i + 1)) = none) : escR (s.drop i) =
    if u4 (s.drop i) < 0 ∨ (56320 ≤ u4 (s.drop i) ∧ u4 (s.drop i) < 57344) then (0, 0) else if u4 (s.drop i) < 55296 ∨ 57344 ≤ u4 (s.drop i) then (u4 (s.drop i), 6)
      else if u4 (s.drop (i + 6)) < 56320 ∨ 57344 ≤ u4 (s.drop (i + 6)) then (0, 0) else (65536 + (u4 (s.drop i) - 55296) * 1024 + (u4 (s.drop (i + 6)) - 56320), 12) := by
  unfold escR
  rw [if_neg (by rw [List.length_drop]; omega), at_drop, hr]
  simp only [List.drop_drop]
theorem escS_none {s : List UInt8} (h : escR s = (0, 0)) : escS s = ([], 0) := by
  unfold escS; rw [h]; rfl
theorem escS_some {s : List UInt8} {r : Int} {n : Nat} (h : escR s = (r, n)) (hn : n ≠ 0) : escS s = (utf r, n) := by
  unfold escS; rw [h]; simp [hn]
theorem d_refEscape (s : List UInt8) (i : Nat) (hs : s.length ≤ 1000000) (hi : i < s.length) : Det cx 71 [.p (.str s), .p (.int .i64 i)] [] (.tup [.str (escS (s.drop i)).1, .int .i64 (escS (s.drop i)).2]) [] := by
  have hB := at_lt s (i + 1)
  obtain ⟨hu1, hu2⟩ := u4_le (s.drop i)
  obtain ⟨hv1, hv2⟩ := u4_le (s.drop (i + 6))
  have z1 := wrap_i64 (n := u4 (s.drop i) - 55296) (by omega) (by omega)
  have z2 := wrap_i64 (n := 1024 * (u4 (s.drop i) - 55296)) (by omega) (by omega)
  have z3 := wrap_i64 (n := 65536 + 1024 * (u4 (s.drop i) - 55296)) (by omega) (by omega)
  have z4 := wrap_i64 (n := 65536 + 1024 * (u4 (s.drop i) - 55296) + u4 (s.drop (i + 6))) (by omega) (by omega)
  have z5 := wrap_i64 (n := 65536 + 1024 * (u4 (s.drop i) - 55296) + u4 (s.drop (i + 6)) - 56320) (by omega) (by omega)
  skip
  (refine LCalls.of_code (X := cx) false [] (by simp) Tryd.func71 (by kernel_rfl) rfl (by simp only [List.length_cons, List.length_nil, Tryd.ntmps71]; decide) (by simp) ?_; refine lwp_sound hm _ _ _ ?_; simp only [Tryd.ntmps71, Tryd.results71, e_skip, e_region, e_seq, e_cond, e_block, e_loop, e_ret, k_seq_normal, k_seq_ret, o_nil, o_cons, k_put, s_tmp, s_const, v_int, v_str, p_move, p_assign, p_bin, p_len, u_cond, u_bin_int, u_const, u_const_t, u_add, u_geq, u_len, u_len_str, u_frz_nil, u_frz_cons, u_frz_p, u_kpure, u_kr2, u_kr1, u_res_nil, u_res_tmp, u_kres, u_norm_nil, u_norm_cons, u_normF_none, u_retF, u_ret3, u_renAll_nil, u_resOps_nil, u_resOps_tmp, u_asRes2, u_find_nil, k_ret_ret, slots_set, slots_get, argW, List.map_cons, List.map_nil, decide_eq_true_eq, Nat.reduceLT, Nat.reduceEqDiff, true_and, and_true, cx_P, ↓reduceIte, reduceCtorEq, Nat.zero_add, PV.int.injEq, PV.str.injEq, L.tup.injEq, List.cons.injEq, Bool.true_and, Bool.and_true, Bool.or_false, Bool.or_true, f_u9, wi1 (i := i) (by omega), wi6 (i := i) (by omega)])
  (repeat' (first | (refine iteI (fun h => ?_) (fun h => ?_)) | (refine ex_get (by first | omega | (simp (disch := omega) only [wrap_i64, wrap_u8, nil_len] at *; omega)) ?_; intro b hb) | (refine And.intro (by first | omega | (simp (disch := omega) only [wrap_i64, wrap_u8, nil_len] at *; omega)) ?_) | ((first | (refine draw_lex hm (by rfl) (by kernel_rfl) ?_)); simp only [e_scope]) | (exact True.intro) | (exfalso; omega)))
  · rw [escS_none (escR_short (by omega))]; exact ⟨rfl, rfl⟩
  (refine SWP.rounds 9 ?_; refine SWP.roundI hm ?_; simp only [e_skip, e_region, e_seq, e_cond, e_block, e_exit, k_seq_normal, k_seq_exit, k_block_exit, o_nil, o_cons, k_put, s_tmp, s_func, p_move, p_bin, p_len, p_call, u_draw, u_cond, u_bin_int, u_const_t, u_lss, u_len, u_len_str, u_frz_nil, u_frz_cons, u_frz_p, u_call, u_callT, u_callK0, u_callF, u_callA, u_callR_nil, u_m_p, u_argIds, u_dedup_nil, u_canon_nil, u_id_p, kun_e, slots_set, slots_get, List.map_cons, List.map_nil, List.length_cons, List.length_nil, List.append_nil, List.flatMap_cons, List.flatMap_nil, decide_eq_true_eq, Nat.reduceLT, Nat.reduceEqDiff, Nat.reduceAdd, cx_P, cx_kind, ↓reduceIte, reduceCtorEq, Nat.zero_add, Bool.or_false, f_u9, wi1 (i := i) (by omega), wi6 (i := i) (by omega)])
  (repeat' (first | (refine iteI (fun h => ?_) (fun h => ?_)) | (refine ex_get (by first | omega | (simp (disch := omega) only [wrap_i64, wrap_u8, nil_len] at *; omega)) ?_; intro b hb) | (refine And.intro (by first | omega | (simp (disch := omega) only [wrap_i64, wrap_u8, nil_len] at *; omega)) ?_) | ((first | (refine draw_lex hm (by rfl) (by kernel_rfl) ?_) | (refine Det.use (d_unit s _ hs (by omega)) ?_) | (refine Det.useQ (d_unit s _ hs (by omega)) ?_) | (refine XCalls.use (d_unit s _ hs (by omega)) ?_) | (refine Det.use (d_utf _ (by unfold isRune; omega)) ?_) | (refine Det.useQ (d_utf _ (by unfold isRune; omega)) ?_) | (refine XCalls.use (d_utf _ (by unfold isRune; omega)) ?_)); simp only [e_skip, e_region, e_seq, e_cond, e_ret, k_seq_normal, k_seq_ret, k_block_normal, k_block_ret, o_nil, o_cons, o_guard, q_nil, q_cons, k_put, k_unit, s_put, s_tmp, s_const, s_func, v_bool, v_int, v_str, p_move, p_assign, p_bin, p_pick, p_slice, p_call, q_move, q_bin, q_index, u_cond, u_guard, u_gsel, u_gval_t, u_gval_f, u_gval_tup, u_pick, u_bin_int, u_const, u_const_t, u_add, u_sub, u_mul, u_eql, u_lss, u_geq, u_index, u_ix_str, bnd_some, u_slice, u_sl_lh, u_slG_p, u_frz_nil, u_frz_cons, u_frz_p, u_call, u_callT, u_callK0, u_callF, u_callA, u_callR_nil, u_kback0_nil, u_m_p, u_argIds, u_dedup_nil, u_canon_nil, u_kpure, u_kr2, u_kr1, u_res_nil, u_res_tmp, u_kres, u_norm_nil, u_norm_cons, u_normF_none, u_retF, u_ret3, u_renAll_nil, u_resOps_nil, u_resOps_tmp, u_asRes2, u_find_nil, u_id_p, k_ret_ret, kun_n, kun_r, slots_set, slots_get, List.map_cons, List.map_nil, List.getD_cons_zero, List.getD_cons_succ, List.length_cons, List.length_nil, List.append_nil, List.flatMap_cons, List.flatMap_nil, List.take_succ_cons, List.take_zero, List.take_nil, List.drop_succ_cons, List.drop_zero, List.drop_nil, decide_eq_true_eq, beq_iff_eq, Nat.reduceLT, Nat.reduceEqDiff, Nat.reduceAdd, Nat.reduceSub, Int.reduceToNat, Int.reduceLE, Int.reduceAdd, true_and, and_true, cx_P, cx_kind, ↓reduceIte, reduceCtorEq, Int.toNat_natCast, Int.natCast_nonneg, Nat.zero_add, PV.int.injEq, PV.str.injEq, L.tup.injEq, List.cons.injEq, Bool.false_eq_true, Bool.true_and, Bool.and_true, Bool.or_false, Bool.or_true, f_u9, wi1 (i := i) (by omega), wi6 (i := i) (by omega), fl0, fl1, fl2, fl3, fl4, fl5, fl6, fl7, wk1, wk2, wk3, wk4, wk5, wk6, wk7, wk8, z1, z2, z3, z4, z5]) | (refine SWP.roundI hm ?_; simp only [e_skip, e_region, e_seq, e_cond, e_block, e_exit, k_seq_normal, k_seq_exit, k_block_exit, o_nil, o_cons, k_put, s_tmp, s_func, p_move, p_bin, p_len, p_call, u_draw, u_cond, u_bin_int, u_const_t, u_lss, u_len, u_len_str, u_frz_nil, u_frz_cons, u_frz_p, u_call, u_callT, u_callK0, u_callF, u_callA, u_callR_nil, u_m_p, u_argIds, u_dedup_nil, u_canon_nil, u_id_p, kun_e, slots_set, slots_get, List.map_cons, List.map_nil, List.length_cons, List.length_nil, List.append_nil, List.flatMap_cons, List.flatMap_nil, decide_eq_true_eq, Nat.reduceLT, Nat.reduceEqDiff, Nat.reduceAdd, cx_P, cx_kind, ↓reduceIte, reduceCtorEq, Nat.zero_add, Bool.or_false, f_u9, wi1 (i := i) (by omega), wi6 (i := i) (by omega)]) | (exact True.intro) | (exfalso; omega)))
  · rw [escS_some (escR_some (r := 34) (by omega) (by unfold shortR; (repeat (first | rw [if_pos (by omega)] | rw [if_neg (by omega)])))) (by decide)]; exact ⟨rfl, rfl⟩
  · rw [escS_some (escR_some (r := 92) (by omega) (by unfold shortR; (repeat (first | rw [if_pos (by omega)] | rw [if_neg (by omega)])))) (by decide)]; exact ⟨rfl, rfl⟩
  · rw [escS_some (escR_some (r := 47) (by omega) (by unfold shortR; (repeat (first | rw [if_pos (by omega)] | rw [if_neg (by omega)])))) (by decide)]; exact ⟨rfl, rfl⟩
  · rw [escS_some (escR_some (r := 8) (by omega) (by unfold shortR; (repeat (first | rw [if_pos (by omega)] | rw [if_neg (by omega)])))) (by decide)]; exact ⟨rfl, rfl⟩
  · rw [escS_some (escR_some (r := 12) (by omega) (by unfold shortR; (repeat (first | rw [if_pos (by omega)] | rw [if_neg (by omega)])))) (by decide)]; exact ⟨rfl, rfl⟩
  · rw [escS_some (escR_some (r := 10) (by omega) (by unfold shortR; (repeat (first | rw [if_pos (by omega)] | rw [if_neg (by omega)])))) (by decide)]; exact ⟨rfl, rfl⟩
  · rw [escS_some (escR_some (r := 13) (by omega) (by unfold shortR; (repeat (first | rw [if_pos (by omega)] | rw [if_neg (by omega)])))) (by decide)]; exact ⟨rfl, rfl⟩
  · rw [escS_some (escR_some (r := 9) (by omega) (by unfold shortR; (repeat (first | rw [if_pos (by omega)] | rw [if_neg (by omega)])))) (by decide)]; exact ⟨rfl, rfl⟩
  all_goals have hsr : shortR (at_ s (i + 1)) = none := by unfold shortR; (repeat (first | rw [if_pos (by omega)] | rw [if_neg (by omega)]))
  all_goals have hn := escR_none (s := s) (i := i) (by omega) hsr
  all_goals first
    | (rw [if_pos (by omega)] at hn; rw [escS_none hn]; exact ⟨rfl, rfl⟩)
    | (rw [if_neg (by omega), if_pos (by omega)] at hn; rw [escS_some hn (by decide)]; exact ⟨rfl, rfl⟩)
    | (rw [if_neg (by omega), if_neg (by omega), if_pos (by omega)] at hn; rw [escS_none hn]; exact ⟨rfl, rfl⟩)
    | (rw [if_neg (by omega), if_neg (by omega), if_neg (by omega)] at hn; rw [escS_some hn (by decide)]; refine ⟨?_, rfl⟩; simp only; congr 1; omega)
end Go.LX
/- What the document says of strings, as they are written: Unquote. -/
set_option linter.unusedSimpArgs false
set_option maxRecDepth 100000
set_option maxHeartbeats 2000000
namespace Go.LX
open Go Go.RowKit Go.Proofs
attribute [local irreducible] LCalls SWP lqcall

/-- What stands at a place, and how many bytes it has; 0: it may not stand there. -/
def tk (s : List UInt8) (i : Nat) : List UInt8 × Nat := if at_ s i = 92 then escS (s.drop i) else ((s.drop i).take (rlen s i), rlen s i)
def uqF (s : List UInt8) : Nat → Nat → List UInt8 → List UInt8 × Nat × Nat
  | 0, _, _ => ([], s.length, 1)
  | f + 1, i, out => if i < s.length then (if at_ s i = 34 then (out, i + 1, 0) else if (tk s i).2 = 0 ∨ at_ s i < 32 then ([], i, 1) else uqF s f (i + (tk s i).2) (out ++ (tk s i).1)) else ([], s.length, 1)
/-- A string that is written: what it is, where it ends, and whether it is one. -/
def uq (s : List UInt8) : List UInt8 × Nat × Nat := if s.length = 0 ∨ at_ s 0 ≠ 34 then ([], 0, 1) else uqF s (s.length + 1) 1 []
theorem escR_le (s : List UInt8) : (escR s).2 ≤ 12 ∧ (s.length < (escR s).2 → (escR s).2 = 0) := by
  have key : ∀ s : List UInt8, 0 ≤ u4 s → 6 ≤ s.length := fun s h => by
    unfold u4 at h
    split at h
    · rename_i h6; exact h6.1
    · omega
  unfold escR
  split
  · exact ⟨by decide, fun _ => rfl⟩
  · split
    · exact ⟨by simp only; omega, fun h => by simp only at h; omega⟩
    · split
      · exact ⟨by decide, fun _ => rfl⟩
      · split
        · exact ⟨by simp only; omega, fun h => by have := key s (by omega); simp only at h; omega⟩
        · split
          · exact ⟨by decide, fun _ => rfl⟩
          · exact ⟨by simp only; omega, fun h => by
              have h1 := key (s.drop 6) (by omega)
              rw [List.length_drop] at h1
              simp only at h; omega⟩
theorem escS_le (s : List UInt8) : (escS s).1.length ≤ 4 ∧ (escS s).2 ≤ 12 ∧ (escS s).2 ≤ s.length := by
  have h := escR_le s
  unfold escS
  split
  · exact ⟨by decide, by decide, Nat.zero_le _⟩
  · exact ⟨utf_le _, h.1, by rename_i hn; simp only; omega⟩
theorem tk_le (s : List UInt8) (i : Nat) (h : i < s.length) : (tk s i).1.length ≤ 4 ∧ (tk s i).2 ≤ 12 ∧ i + (tk s i).2 ≤ s.length := by
  unfold tk
  split
  · have h1 := escS_le (s.drop i)
    rw [List.length_drop] at h1
    exact ⟨h1.1, h1.2.1, by omega⟩
  · have h1 := rlen_le s i h
    have h2 := rlen_le4 s i
    exact ⟨by simp; omega, by simp only; omega, h1⟩
theorem d_taken (s : List UInt8) (i : Nat) (hs : s.length ≤ 1000000) (hi : i < s.length) : Det cx 51 [.p (.str s), .p (.int .i64 i)] [] (.tup [.str (tk s i).1, .int .i64 (tk s i).2]) [] := by
  have h4 := rlen_le4 s i
  have h5 := rlen_le s i hi
  skip
  (refine LCalls.of_code (X := cx) false [] (by simp) Tryd.func51 (by kernel_rfl) rfl (by simp only [List.length_cons, List.length_nil, Tryd.ntmps51]; decide) (by simp) ?_; refine lwp_sound hm _ _ _ ?_; simp only [Tryd.ntmps51, Tryd.results51, e_skip, e_region, e_seq, e_cond, k_seq_normal, o_nil, o_cons, k_put, s_tmp, s_const, s_func, v_int, v_str, p_move, p_assign, p_bin, p_index, p_call, u_cond, u_bin_int, u_const, u_const_t, u_eql, u_index, u_ix_str, u_frz_nil, u_frz_cons, u_frz_p, u_call, u_callT, u_callK0, u_callF, u_callA, u_callR_nil, u_m_p, u_argIds, u_dedup_nil, u_canon_nil, u_id_p, slots_set, slots_get, argW, List.map_cons, List.map_nil, List.append_nil, List.flatMap_cons, List.flatMap_nil, beq_iff_eq, Nat.reduceLT, Nat.reduceEqDiff, true_and, cx_P, cx_kind, ↓reduceIte, reduceCtorEq, Int.toNat_natCast, Int.natCast_nonneg, Nat.zero_add, Bool.true_and, Bool.or_true, f_u9, wia (i := i) (j := rlen s i) (by omega) (by omega)])
  (repeat' (first | (refine iteI (fun h => ?_) (fun h => ?_)) | (refine ex_get (by first | omega | (simp (disch := omega) only [wrap_i64, wrap_u8, nil_len] at *; omega)) ?_; intro b hb) | (refine And.intro (by first | omega | (simp (disch := omega) only [wrap_i64, wrap_u8, nil_len] at *; omega)) ?_) | ((first | (refine draw_lex hm (by rfl) (by kernel_rfl) ?_) | (refine Det.use (d_refEscape s i hs hi) ?_) | (refine Det.useQ (d_refEscape s i hs hi) ?_) | (refine XCalls.use (d_refEscape s i hs hi) ?_) | (refine Det.use (d_Rune s i hs hi) ?_) | (refine Det.useQ (d_Rune s i hs hi) ?_) | (refine XCalls.use (d_Rune s i hs hi) ?_)); simp only [e_region, e_seq, e_ret, k_seq_normal, k_seq_ret, o_nil, o_cons, k_put, s_put, s_tmp, p_move, p_assign, p_bin, p_slice, p_extract, getE_some, u_bin_int, u_const_t, u_add, u_kp, bnd_some, u_slice, u_sl_lh, u_slG_p, u_extract, u_frz_nil, u_frz_cons, u_frz_p, u_kback0_nil, u_m_p, u_m_tup, u_kpure, u_kr2, u_kr1, u_res_nil, u_res_tmp, u_kres, u_norm_nil, u_norm_cons, u_normF_none, u_retF, u_ret3, u_renAll_nil, u_resOps_nil, u_resOps_tmp, u_asRes2, u_find_nil, k_ret_ret, slots_set, slots_get, List.map_cons, List.map_nil, List.getElem?_cons_zero, List.getElem?_cons_succ, Nat.reduceLT, Nat.reduceEqDiff, true_and, and_true, cx_P, ↓reduceIte, reduceCtorEq, Int.toNat_natCast, Int.natCast_nonneg, PV.int.injEq, PV.str.injEq, L.tup.injEq, List.cons.injEq, Bool.true_and, Bool.and_true, Bool.or_false, f_u9, wia (i := i) (j := rlen s i) (by omega) (by omega)]) | (exact True.intro) | (exfalso; omega)))
  · unfold tk; rw [if_pos (by omega)]; exact ⟨rfl, rfl⟩
  · unfold tk; rw [if_neg (by omega), Nat.add_sub_cancel_left]; exact ⟨rfl, rfl⟩
theorem d_refUnquote (s : List UInt8) (hs : s.length ≤ 1000000) : Det cx 30 [.p (.str s)] [] (.tup [.str (uq s).1, .int .i64 (uq s).2.1, .int .i64 (uq s).2.2]) [] := by
  (refine LCalls.of_code (X := cx) false [] (by simp) Tryd.func30 (by kernel_rfl) rfl (by simp only [List.length_cons, List.length_nil, Tryd.ntmps30]; decide) (by simp) ?_; refine lwp_sound hm _ _ _ ?_; simp only [Tryd.ntmps30, Tryd.results30, e_skip, e_region, e_seq, e_cond, e_block, e_loop, e_ret, k_seq_normal, k_seq_ret, o_nil, o_cons, o_guard, k_put, k_unit, s_tmp, s_const, v_bool, v_int, v_str, p_move, p_assign, p_bin, p_pick, p_index, u_cond, u_guard, u_gsel, u_gval_f, u_pick, u_bin_int, u_bin_str, u_const, u_const_t, u_neq, u_seql, u_index, u_ix_str, u_frz_nil, u_frz_cons, u_frz_p, u_kpure, u_kr2, u_kr1, u_res_nil, u_res_tmp, u_kres, u_norm_nil, u_norm_cons, u_normF_none, u_retF, u_ret3, u_renAll_nil, u_resOps_nil, u_resOps_tmp, u_asRes2, u_find_nil, k_ret_ret, slots_set, slots_get, argW, List.map_cons, List.map_nil, List.getD_cons_zero, List.getD_cons_succ, beq_iff_eq, bne_iff_ne, ne_eq, Nat.reduceLT, Nat.reduceEqDiff, Int.reduceToNat, Int.reduceLE, true_and, and_true, cx_P, ↓reduceIte, reduceCtorEq, nil_len, PV.int.injEq, PV.str.injEq, L.tup.injEq, List.cons.injEq, Bool.false_eq_true, Bool.true_and, Bool.and_true, Bool.or_true, f_u9])
  (repeat' (first | (refine iteI (fun h => ?_) (fun h => ?_)) | (refine ex_get (by first | omega | (simp (disch := omega) only [wrap_i64, wrap_u8, nil_len] at *; omega)) ?_; intro b hb) | (refine And.intro (by first | omega | (simp (disch := omega) only [wrap_i64, wrap_u8, nil_len] at *; omega)) ?_) | ((first | (refine draw_lex hm (by rfl) (by kernel_rfl) ?_)); simp only [e_scope]) | (exact True.intro) | (exfalso; omega)))
  · unfold uq; rw [if_pos (by omega)]; exact ⟨rfl, rfl, rfl⟩
  · unfold uq; rw [if_pos (by omega)]; exact ⟨rfl, rfl, rfl⟩
  have e : uq s = uqF s (s.length + 1) 1 [] := by unfold uq; rw [if_neg (by omega)]
  refine SWP.loop (fun x : Nat × Nat × List UInt8 => ⟨slots 50 [(0, .p (.str s)), (5, .p (.str x.2.2)), (6, .p (.int .i64 x.1))], []⟩) (fun x => 1 ≤ x.1 ∧ x.1 ≤ s.length ∧ s.length + 1 ≤ x.1 + x.2.1 ∧ x.2.2.length ≤ 4 * x.1 ∧ uqF s x.2.1 x.1 x.2.2 = uq s) (fun x => s.length - x.1) (1, s.length + 1, []) (St.le_slots (by simp only [wsLe_cons, wsLe_nil, slots_get, slots_get_nil, LLe_junk, Nat.reduceEqDiff, reduceIte, Nat.reduceLT, Nat.reduceLeDiff]; simp (disch := omega) [LLe_junk, LLe_refl, LLe_p, wrap_i64] <;> (repeat' apply And.intro) <;> omega) (by simp (disch := omega) [regsLe, RegLe, tmpsLe, findReg, LLe_junk, LLe_refl, LLe_p, wrap_i64]) (by simp [keysOK])) ⟨by simp, by simp only; omega, by simp, by simp, e.symm⟩ ?_
  rintro ⟨i, f, out⟩ ⟨h0, h1, h2, h3, h4⟩
  simp only at h0 h1 h2 h3 h4
  obtain ⟨g, rfl⟩ : ∃ g, f = g + 1 := ⟨f - 1, by omega⟩
  by_cases hlt : ¬ i < s.length
  · (refine lwp_sound hm _ _ _ ?_; simp only [e_skip, e_region, e_seq, e_cond, e_block, e_exit, e_ret, k_seq_normal, k_seq_exit, k_seq_ret, k_block_exit, k_block_ret, o_nil, o_cons, k_put, s_tmp, s_const, s_func, v_int, v_str, p_move, p_assign, p_bin, p_index, p_len, p_call, u_cond, u_bin_int, u_const, u_const_t, u_add, u_eql, u_lss, u_len, u_len_str, u_index, u_ix_str, u_frz_nil, u_frz_cons, u_frz_p, u_call, u_callT, u_callK0, u_callF, u_callA, u_callR_nil, u_m_p, u_argIds, u_dedup_nil, u_canon_nil, u_kpure, u_kr2, u_kr1, u_res_nil, u_res_tmp, u_kres, u_norm_nil, u_norm_cons, u_normF_none, u_retF, u_ret3, u_renAll_nil, u_resOps_nil, u_resOps_tmp, u_asRes2, u_find_nil, u_id_p, k_ret_ret, slots_set, slots_get, kloop, List.map_cons, List.map_nil, List.append_nil, List.flatMap_cons, List.flatMap_nil, decide_eq_true_eq, beq_iff_eq, Nat.reduceLT, Nat.reduceEqDiff, true_and, and_true, cx_P, cx_kind, ↓reduceIte, reduceCtorEq, Int.toNat_natCast, Int.natCast_nonneg, PV.int.injEq, PV.str.injEq, L.tup.injEq, List.cons.injEq, Bool.true_and, Bool.and_true, Bool.or_false, Bool.or_true, f_u9])
    (repeat' (first | (refine iteI (fun h => ?_) (fun h => ?_)) | (refine ex_get (by first | omega | (simp (disch := omega) only [wrap_i64, wrap_u8, nil_len] at *; omega)) ?_; intro b hb) | (refine And.intro (by first | omega | (simp (disch := omega) only [wrap_i64, wrap_u8, nil_len] at *; omega)) ?_) | ((first | (refine draw_lex hm (by rfl) (by kernel_rfl) ?_)); simp only [e_scope]) | (exact True.intro) | (exfalso; omega)))
    rw [← h4, uqF, if_neg hlt]; exact ⟨rfl, rfl, rfl⟩
  · have hlt := Decidable.not_not.1 hlt
    have ht := tk_le s i hlt
    skip
    (refine lwp_sound hm _ _ _ ?_; simp only [e_skip, e_region, e_seq, e_cond, e_block, e_exit, e_ret, k_seq_normal, k_seq_exit, k_seq_ret, k_block_exit, k_block_ret, o_nil, o_cons, k_put, s_tmp, s_const, s_func, v_int, v_str, p_move, p_assign, p_bin, p_index, p_len, p_call, u_cond, u_bin_int, u_const, u_const_t, u_add, u_eql, u_lss, u_len, u_len_str, u_index, u_ix_str, u_frz_nil, u_frz_cons, u_frz_p, u_call, u_callT, u_callK0, u_callF, u_callA, u_callR_nil, u_m_p, u_argIds, u_dedup_nil, u_canon_nil, u_kpure, u_kr2, u_kr1, u_res_nil, u_res_tmp, u_kres, u_norm_nil, u_norm_cons, u_normF_none, u_retF, u_ret3, u_renAll_nil, u_resOps_nil, u_resOps_tmp, u_asRes2, u_find_nil, u_id_p, k_ret_ret, slots_set, slots_get, kloop, List.map_cons, List.map_nil, List.append_nil, List.flatMap_cons, List.flatMap_nil, decide_eq_true_eq, beq_iff_eq, Nat.reduceLT, Nat.reduceEqDiff, true_and, and_true, cx_P, cx_kind, ↓reduceIte, reduceCtorEq, Int.toNat_natCast, Int.natCast_nonneg, PV.int.injEq, PV.str.injEq, L.tup.injEq, List.cons.injEq, Bool.true_and, Bool.and_true, Bool.or_false, Bool.or_true, f_u9, wi1 (i := i) (by omega), wia (i := i) (j := (tk s i).2) (by omega) (by omega)])
    (repeat' (first | (refine iteI (fun h => ?_) (fun h => ?_)) | (refine ex_get (by first | omega | (simp (disch := omega) only [wrap_i64, wrap_u8, nil_len] at *; omega)) ?_; intro b hb) | (refine And.intro (by first | omega | (simp (disch := omega) only [wrap_i64, wrap_u8, nil_len] at *; omega)) ?_) | ((first | (refine draw_lex hm (by rfl) (by kernel_rfl) ?_) | (refine Det.use (d_taken s i hs hlt) ?_) | (refine Det.useQ (d_taken s i hs hlt) ?_) | (refine XCalls.use (d_taken s i hs hlt) ?_)); simp only [e_skip, e_region, e_seq, e_cond, e_ret, k_seq_normal, k_seq_ret, k_block_normal, k_block_ret, o_nil, o_cons, o_guard, k_put, k_unit, s_put, s_tmp, s_const, v_bool, v_int, v_str, p_move, p_assign, p_bin, p_pick, p_index, p_extract, getE_some, u_cond, u_guard, u_gsel, u_gval_f, u_pick, u_bin_int, u_bin_str, u_const, u_const_t, u_add, u_eql, u_lss, u_sadd, u_kp, u_index, u_ix_str, u_extract, u_frz_nil, u_frz_cons, u_frz_p, u_kback0_nil, u_m_tup, u_kpure, u_kr2, u_kr1, u_res_nil, u_res_tmp, u_kres, u_norm_nil, u_norm_cons, u_normF_none, u_retF, u_ret3, u_renAll_nil, u_resOps_nil, u_resOps_tmp, u_asRes2, u_find_nil, k_ret_ret, slots_set, slots_get, kloop, List.map_cons, List.map_nil, List.getD_cons_zero, List.getD_cons_succ, List.getElem?_cons_zero, List.getElem?_cons_succ, decide_eq_true_eq, beq_iff_eq, Nat.reduceLT, Nat.reduceEqDiff, true_and, and_true, cx_P, ↓reduceIte, reduceCtorEq, Int.toNat_natCast, Int.natCast_nonneg, PV.int.injEq, PV.str.injEq, L.tup.injEq, List.cons.injEq, Bool.false_eq_true, Bool.true_and, Bool.and_true, Bool.or_false, Bool.or_true, f_u9, wi1 (i := i) (by omega), wia (i := i) (j := (tk s i).2) (by omega) (by omega)]) | (exact True.intro) | (exfalso; omega)))
    · rw [← h4, uqF, if_pos hlt, if_pos (by omega)]; exact ⟨rfl, rfl, rfl⟩
    · rw [← h4, uqF, if_pos hlt, if_neg (by omega), if_pos (by omega)]; exact ⟨rfl, rfl, rfl⟩
    · rw [← h4, uqF, if_pos hlt, if_neg (by omega), if_pos (by omega)]; exact ⟨rfl, rfl, rfl⟩
    · refine ⟨(i + (tk s i).2, g, out ++ (tk s i).1), ⟨by simp only; omega, by simp only; omega, by simp only; omega, by simp only [List.length_append]; omega, ?_⟩, by simp only; omega, (St.le_slots (by simp only [wsLe_cons, wsLe_nil, slots_get, slots_get_nil, LLe_junk, Nat.reduceEqDiff, reduceIte, Nat.reduceLT, Nat.reduceLeDiff]; simp (disch := omega) [LLe_junk, LLe_refl, LLe_p, wrap_i64] <;> (repeat' apply And.intro) <;> omega) (by simp (disch := omega) [regsLe, RegLe, tmpsLe, findReg, LLe_junk, LLe_refl, LLe_p, wrap_i64]) (by simp [keysOK]))⟩
      simp only
      rw [← h4, uqF, if_pos hlt, if_neg (by omega), if_neg (by omega)]
end Go.LX
