/-
  AllocRenamed walks. No condition.
-/
import Derived.Test.YtfdbkclbcajkiaaD6
import Derived.Test.YtfdbkclbcajkiaaE2
namespace Go.Proofs.Ytfdbkclbcajkiaa
set_option linter.unusedSimpArgs false
set_option linter.unusedVariables false
open Go.RowKit

set_option maxRecDepth 100000 in
set_option maxHeartbeats 1000000 in
theorem renamed_law (vs : SV) (s : List Int) (a0 a1 : Int) (ha0 : 0 ≤ a0 ∧ a0 < 256) (ha1 : 0 ≤ a1 ∧ a1 < 256) :
    Spec Try.prog 9 [sv vs, .agg ((List.range 2).map (vb a0 a1)).toArray] [] [sl 1 eI (sv vs) s] (X := Unit) (fun _ => True) (fun _ => .bool true) (fun _ => []) (fun _ => []) := by
  refine r_enter Try.func9 rfl Try.ntmps9 rfl fun w0 M H => ?_
  obtain ⟨n0, rfl⟩ := Int.eq_ofNat_of_zero_le ha0.1
  obtain ⟨n1, rfl⟩ := Int.eq_ofNat_of_zero_le ha1.1
  refine r_seq ?_
  refine r_region ?_
  refine r_box_arr rfl rfl fun b3 => ?_
  refine r_p (p_assign rfl) rfl ?_
  refine r_nil ?_
  refine r_seq ?_
  refine r_region ?_
  refine r_call (xs := []) sanity_spec cb13 [] [] [] [] rfl rfl rfl rfl rfl rfl rfl rfl (fun _ _ => rfl) (fun _ _ _ => rfl) rfl (fun _ _ => ?_)
  refine r_p (p_assign rfl) rfl ?_
  refine r_nil ?_
  refine r_seq ?_
  refine r_region ?_
  refine r_p (p_move rfl) rfl ?_
  refine r_call (xs := [.tmp 18]) (made_spec vs s) cb19 [] [(false, 0)] [] [60, 61, 62] rfl rfl rfl rfl rfl rfl rfl rfl (fun _ _ => rfl) (fun _ _ _ => rfl) rfl (fun ⟨va, vp, vo, sw, sa, ops⟩ hx14 => ?_)
  obtain ⟨hl, hal⟩ := hx14
  dsimp only at hl hal
  have hl5 : ops.length ≤ 100000 := by omega
  have hub := uses_bd ops hl5
  dsimp only
  refine r_alloc t28 rfl rfl fun b6 => ?_
  refine r_store_all (k := 6) t28 rfl rfl rfl rfl rfl rfl ?_
  refine r_nil ?_
  refine r_seq ?_
  refine r_region ?_
  refine r_p (p_idx_arr1 (j := 0) Try.underlying38 t5 rfl rfl (by first | rfl | omega) (by first | omega | (simp; done) | (simp; omega))) rfl ?_
  refine r_p (p_load1 t5 rfl rfl (g_arr1 (k := 3) rfl (by omega))) rfl ?_
  refine r_p (p_bin rfl rfl (b_rem (by omega) (by first | exact tmod_pos (by omega) | rfl))) rfl ?_
  refine r_p (p_conv Try.underlying5 Try.underlying3 rfl (by first | exact w_i64 (by omega) (by omega) | rfl)) rfl ?_
  refine r_p (p_assign rfl) rfl ?_
  refine r_nil ?_
  refine r_seq ?_
  refine r_region ?_
  refine r_p (p_idx_arr1 (j := 1) Try.underlying38 t5 rfl rfl (by first | rfl | omega) (by first | omega | (simp; done) | (simp; omega))) rfl ?_
  refine r_p (p_load1 t5 rfl rfl (g_arr1 (k := 3) rfl (by omega))) rfl ?_
  refine r_p (p_bin rfl rfl (b_rem (by omega) (by first | exact tmod_pos (by omega) | rfl))) rfl ?_
  refine r_p (p_conv Try.underlying5 Try.underlying3 rfl (by first | exact w_i64 (by omega) (by omega) | rfl)) rfl ?_
  refine r_p (p_assign rfl) rfl ?_
  refine r_nil ?_
  refine r_seq ?_
  refine r_region ?_
  refine r_p (p_loadA t28 rfl rfl rfl (g_all (k := 6) rfl)) rfl ?_
  refine r_call (xs := [.tmp 28]) (ownL_spec va vp vo sw sa ops hl hal) cb20 [] [(false, 60), (false, 61), (false, 62)] [100, 101, 102] [] rfl rfl rfl rfl rfl rfl rfl rfl (fun _ _ => rfl) (fun _ _ _ => rfl) rfl (fun ⟨wa, wp, wo⟩ _ => ?_)
  dsimp only
  refine r_alloc t28 rfl rfl fun b9 => ?_
  refine r_store_all (k := 9) t28 rfl rfl rfl rfl rfl rfl ?_
  refine r_nil ?_
  refine r_seq ?_
  refine r_seq ?_
  refine r_region ?_
  refine r_p (p_assign rfl) rfl ?_
  refine r_nil ?_
  refine r_block ?_
  refine r_loop (X := Nat) (fun k => k ≤ ops.length) (fun k => [(5, .bool true), (6, .pointer (some ⟨b6, 0, none⟩)), (7, .int .i64 ((n0 : Int) % 19)), (8, .int .i64 ((n1 : Int) % 19)), (9, .pointer (some ⟨b9, 0, none⟩)), (10, .int .i64 (k : Int))]) (fun k => [(6, row b6 28 [sv va, sv vp, sv vo]), (9, row b9 28 [sv wa, sv wp, sv wo]), (102, own 47 5 eOp (sv wo) (rnL ((n0 : Int) % 19) ((n1 : Int) % 19) ops k))]) (fun k => [(62, sl 5 eOp (sv vo) ops)]) (fun k => ops.length - k) 0 (Nat.zero_le _) rfl (by rw [rnL_zero]; rfl) rfl (fun k hk0 => ?_)
  have hlen := rnL_len ((n0 : Int) % 19) ((n1 : Int) % 19) ops k
  refine r_seq ?_
  refine r_seq ?_
  refine r_region ?_
  refine r_p (p_move rfl) rfl ?_
  refine r_p (p_field0 fo28_2 rfl) rfl ?_
  refine r_p (p_load1 t26 rfl rfl (g_row1 (k := 9) rfl rfl)) rfl ?_
  refine r_p (p_len_sl Try.underlying26 rfl (hs_own (k := 102) rfl)) rfl ?_
  refine r_p (p_bin rfl rfl b_lt) rfl ?_
  refine r_nil ?_
  refine r_cond rfl (fun h1 => ?_) (fun h1 => ?_)
  · (try simp only [decide_eq_true_eq, decide_eq_false_iff_not, Bool.and_eq_true, Bool.or_eq_true, Bool.and_eq_false_iff, Bool.or_eq_false_iff, Bool.not_eq_true, Bool.not_eq_false, Bool.not_eq_true', Bool.not_eq_false', Bool.not_not, bne_iff_ne, beq_iff_eq] at h1)
    have hlen := rnL_len ((n0 : Int) % 19) ((n1 : Int) % 19) ops k
    have hk : k < ops.length := by omega
    refine r_skip ?_
    refine r_seq ?_
    refine r_block ?_
    refine r_seq ?_
    refine r_region ?_
    refine r_p (p_field0 fo28_2 rfl) rfl ?_
    refine r_p (p_load1 t26 rfl rfl (g_row1 (k := 9) rfl rfl)) rfl ?_
    refine r_p (p_move rfl) rfl ?_
    refine r_p (p_idx_sl (j := k) Try.underlying26 t47 rfl rfl (hs_own (k := 102) rfl) (by first | rfl | omega) (by omega)) rfl ?_
    refine r_p (p_field fo47_0 rfl) rfl ?_
    refine r_p (p_load1 t3 rfl rfl (g_elp (hs_own (k := 102) rfl) (by intro _; rfl) (rnL_get hk) rfl)) rfl ?_
    refine r_call (xs := [.tmp 42]) (shapeRef_spec _) cb21 [] [] [] [] rfl rfl rfl rfl rfl rfl rfl rfl (fun _ _ => rfl) (fun _ _ _ => rfl) rfl (fun _ _ => ?_)
    refine r_alloc t43 rfl rfl fun b11 => ?_
    refine r_store_all (k := 11) t43 rfl rfl rfl rfl rfl rfl ?_
    refine r_nil ?_
    refine r_seq ?_
    refine r_draw [44, 45, 46, 47, 48, 49, 50, 51, 52, 53, 54, 55, 56, 57, 58, 59, 60, 61, 62, 12] _ rfl (stg_mem (V := [(0, 44, _), (1, 45, _), (2, 46, _), (3, 47, _), (4, 48, _), (5, 49, _), (6, 50, _), (7, 51, _), (8, 52, _), (9, 53, _), (10, 54, _), (11, 55, _), (12, 56, _), (13, 57, _), (14, 58, _), (15, 59, _), (16, 60, _), (17, 61, _), (18, 62, _)]) [0, 1, 2, 3, 4, 5, 6, 7, 8, 9, 10, 11, 12, 13, 14, 15, 16, 17, 18] 19 [19] [] (fun b12 => []) rfl rfl (prs_cons (pri rfl (p_field0 fo28_2 rfl)) (prs_cons (pri rfl (p_load1 t26 rfl rfl (g_row1 (k := 9) rfl rfl))) (prs_cons (pri rfl (p_move rfl)) (prs_cons (pri rfl (p_idx_sl (j := k) Try.underlying26 t47 rfl rfl (hs_own (k := 102) rfl) (by first | rfl | omega) (by omega))) (prs_cons (pri rfl (p_field fo47_1 rfl)) (prs_cons (pri rfl (p_load1 t3 rfl rfl (g_elp (hs_own (k := 102) rfl) (by intro _; rfl) (rnL_get hk) rfl))) (prs_cons (pri rfl (p_field0 fo28_2 rfl)) (prs_cons (pri rfl (p_load1 t26 rfl rfl (g_row1 (k := 9) rfl rfl))) (prs_cons (pri rfl (p_move rfl)) (prs_cons (pri rfl (p_idx_sl (j := k) Try.underlying26 t47 rfl rfl (hs_own (k := 102) rfl) (by first | rfl | omega) (by omega))) (prs_cons (pri rfl (p_field fo47_2 rfl)) (prs_cons (pri rfl (p_load1 t3 rfl rfl (g_elp (hs_own (k := 102) rfl) (by intro _; rfl) (rnL_get hk) rfl))) (prs_cons (pri rfl (p_field0 fo28_2 rfl)) (prs_cons (pri rfl (p_load1 t26 rfl rfl (g_row1 (k := 9) rfl rfl))) (prs_cons (pri rfl (p_move rfl)) (prs_cons (pri rfl (p_idx_sl (j := k) Try.underlying26 t47 rfl rfl (hs_own (k := 102) rfl) (by first | rfl | omega) (by omega))) (prs_cons (pri rfl (p_field fo47_3 rfl)) (prs_cons (pri rfl (p_load1 t3 rfl rfl (g_elp (hs_own (k := 102) rfl) (by intro _; rfl) (rnL_get hk) rfl))) (prs_cons (pri rfl (p_buildA (D := .bool) (parts := [(0, .tmp 49), (1, .tmp 55), (2, .tmp 61)]) t23 t3 rfl rfl)) prs_nil))))))))))))))))))) rfl rfl rfl rfl rfl rfl rfl rfl rfl rfl rfl (fun _ _ => rfl) rfl (ms_alloc_arr (n := 3) (u := (.int .i64 0)) t23 rfl) (fun b12 _ => stg_mem0 [0, 1, 2, 3, 4, 5, 6, 7, 8, 9, 10, 11, 12, 13, 14, 15, 16, 17, 18] 20 [20, 19, 18, 17, 16, 15, 14, 13, 12, 11, 10, 9, 8, 7, 6, 5, 4, 3, 2, 1, 0] [] (fun _ => []) rfl rfl (prs_cons (pri rfl (p_field0 fo28_2 rfl)) (prs_cons (pri rfl (p_load1 t26 rfl rfl (g_row1 (k := 9) rfl rfl))) (prs_cons (pri rfl (p_move rfl)) (prs_cons (pri rfl (p_idx_sl (j := k) Try.underlying26 t47 rfl rfl (hs_own (k := 102) rfl) (by first | rfl | omega) (by omega))) (prs_cons (pri rfl (p_field fo47_1 rfl)) (prs_cons (pri rfl (p_load1 t3 rfl rfl (g_elp (hs_own (k := 102) rfl) (by intro _; rfl) (rnL_get hk) rfl))) (prs_cons (pri rfl (p_field0 fo28_2 rfl)) (prs_cons (pri rfl (p_load1 t26 rfl rfl (g_row1 (k := 9) rfl rfl))) (prs_cons (pri rfl (p_move rfl)) (prs_cons (pri rfl (p_idx_sl (j := k) Try.underlying26 t47 rfl rfl (hs_own (k := 102) rfl) (by first | rfl | omega) (by omega))) (prs_cons (pri rfl (p_field fo47_2 rfl)) (prs_cons (pri rfl (p_load1 t3 rfl rfl (g_elp (hs_own (k := 102) rfl) (by intro _; rfl) (rnL_get hk) rfl))) (prs_cons (pri rfl (p_field0 fo28_2 rfl)) (prs_cons (pri rfl (p_load1 t26 rfl rfl (g_row1 (k := 9) rfl rfl))) (prs_cons (pri rfl (p_move rfl)) (prs_cons (pri rfl (p_idx_sl (j := k) Try.underlying26 t47 rfl rfl (hs_own (k := 102) rfl) (by first | rfl | omega) (by omega))) (prs_cons (pri rfl (p_field fo47_3 rfl)) (prs_cons (pri rfl (p_load1 t3 rfl rfl (g_elp (hs_own (k := 102) rfl) (by intro _; rfl) (rnL_get hk) rfl))) (prs_cons (pri rfl (p_buildA (D := .bool) (parts := [(0, .tmp 49), (1, .tmp 55), (2, .tmp 61)]) t23 t3 rfl rfl)) prs_nil))))))))))))))))))) rfl rfl rfl rfl rfl rfl rfl rfl rfl (fun _ _ => rfl) rfl (ms_store_arrAll (k := 12) (g := vi (f3 (ops.getD k o0).d (ops.getD k o0).a (ops.getD k o0).b)) t23 rfl rfl rfl (vi_one _) rfl) (fun _ _ => stg_end [] rfl rfl prs_nil rfl rfl rfl ?_)))
    refine r_seq ?_
    refine r_region ?_
    refine r_p (p_field0 fo43_1 rfl) rfl ?_
    refine r_p (p_load1 t4 rfl rfl (g_row1 (k := 11) rfl rfl)) rfl ?_
    refine r_p (p_field0 fo43_2 rfl) rfl ?_
    refine r_p (p_load1 t4 rfl rfl (g_row1 (k := 11) rfl rfl)) rfl ?_
    refine r_p (p_field0 fo43_3 rfl) rfl ?_
    refine r_p (p_load1 t4 rfl rfl (g_row1 (k := 11) rfl rfl)) rfl ?_
    refine r_p (p_buildA (D := .bool) (parts := [(0, .tmp 64), (1, .tmp 66), (2, .tmp 68)]) t48 t4 rfl rfl) rfl ?_
    refine r_alloc_arr (n := 3) (u := (.bool false)) t48 rfl rfl fun b13 => ?_
    refine r_store_arrAll (k := 13) (g := vbo (h3 (shR (ops.getD k o0).c).d (shR (ops.getD k o0).c).a (shR (ops.getD k o0).c).b)) t48 rfl rfl rfl (all_one (fun _ => rfl)) rfl ?_
    refine r_nil ?_
    refine r_seq ?_
    refine r_seq ?_
    refine r_region ?_
    refine r_p (p_assign rfl) rfl ?_
    refine r_nil ?_
    refine r_block ?_
    refine r_loop (X := Nat) (fun t => t ≤ 3) (fun t => [(5, .bool true), (6, .pointer (some ⟨b6, 0, none⟩)), (7, .int .i64 ((n0 : Int) % 19)), (8, .int .i64 ((n1 : Int) % 19)), (9, .pointer (some ⟨b9, 0, none⟩)), (10, .int .i64 (k : Int)), (12, .pointer (some ⟨b12, 0, none⟩)), (13, .pointer (some ⟨b13, 0, none⟩)), (14, .int .i64 (t : Int))]) (fun t => [(6, row b6 28 [sv va, sv vp, sv vo]), (9, row b9 28 [sv wa, sv wp, sv wo]), (102, own 47 5 eOp (sv wo) (rnL ((n0 : Int) % 19) ((n1 : Int) % 19) ops k)), (12, arr b12 23 3 (vi (f2 ((n0 : Int) % 19) ((n1 : Int) % 19) (h3 (shR (ops.getD k o0).c).d (shR (ops.getD k o0).c).a (shR (ops.getD k o0).c).b) (f3 (ops.getD k o0).d (ops.getD k o0).a (ops.getD k o0).b) t))), (13, arr b13 48 3 (vbo (h3 (shR (ops.getD k o0).c).d (shR (ops.getD k o0).c).a (shR (ops.getD k o0).c).b)))]) (fun t => [(62, sl 5 eOp (sv vo) ops)]) (fun t => 3 - t) 0 (Nat.zero_le _) rfl rfl rfl (fun t ht0 => ?_)
    refine r_seq ?_
    refine r_seq ?_
    refine r_region ?_
    refine r_p (p_move rfl) rfl ?_
    refine r_p (p_bin rfl rfl b_lt) rfl ?_
    refine r_nil ?_
    refine r_cond rfl (fun h2 => ?_) (fun h2 => ?_)
    · (try simp only [decide_eq_true_eq, decide_eq_false_iff_not, Bool.and_eq_true, Bool.or_eq_true, Bool.and_eq_false_iff, Bool.or_eq_false_iff, Bool.not_eq_true, Bool.not_eq_false, Bool.not_eq_true', Bool.not_eq_false', Bool.not_not, bne_iff_ne, beq_iff_eq] at h2)
      have ht : t < 3 := by omega
      refine r_skip ?_
      refine r_seq ?_
      refine r_block ?_
      refine r_seq ?_
      refine r_region ?_
      refine r_p (p_move rfl) rfl ?_
      refine r_p (p_idx_arr1 (j := t) Try.underlying48 t4 rfl rfl (by first | rfl | omega) (by first | omega | (simp; done) | (simp; omega))) rfl ?_
      refine r_p (p_load1 t4 rfl rfl (g_arr1 (k := 13) rfl (by omega))) rfl ?_
      refine r_p (p_move rfl) rfl ?_
      refine r_gp [] rfl rfl trivial (fun hg3 => p_move rfl) rfl ?_
      refine r_gp [(78, _)] rfl rfl ⟨rfl, trivial⟩ (fun hg4 => p_idx_arr1 (j := t) Try.underlying23 t3 rfl rfl (by first | rfl | omega) (by first | omega | (simp; done) | (simp; omega))) rfl ?_
      refine r_gp [(78, _), (79, _)] rfl rfl ⟨rfl, rfl, trivial⟩ (fun hg5 => p_load1 t3 rfl rfl (g_arr1 (k := 12) rfl (by omega))) rfl ?_
      refine r_gp [(78, _), (79, _), (80, _)] rfl rfl ⟨rfl, rfl, rfl, trivial⟩ (fun hg6 => p_move rfl) rfl ?_
      refine r_gp [(78, _), (79, _), (80, _), (81, _)] rfl rfl ⟨rfl, rfl, rfl, rfl, trivial⟩ (fun hg7 => p_bin rfl rfl b_eq) rfl ?_
      refine r_p (p_pick rfl rfl rfl (by first | exact pick_and | exact pick_or |  rfl)) rfl ?_
      refine r_nil ?_
      refine r_cond rfl (fun h8 => ?_) (fun h8 => ?_)
      · (try simp only [decide_eq_true_eq, decide_eq_false_iff_not, Bool.and_eq_true, Bool.or_eq_true, Bool.and_eq_false_iff, Bool.or_eq_false_iff, Bool.not_eq_true, Bool.not_eq_false, Bool.not_eq_true', Bool.not_eq_false', Bool.not_not, bne_iff_ne, beq_iff_eq] at h8)
        have hq : ((h3 (shR (ops.getD k o0).c).d (shR (ops.getD k o0).c).a (shR (ops.getD k o0).c).b) t = true ∧ (f3 (ops.getD k o0).d (ops.getD k o0).a (ops.getD k o0).b) t = ((n0 : Int) % 19)) := by rw [f2_at] at h8; simpa [vbo] using h8
        refine r_region ?_
        refine r_p (p_move rfl) rfl ?_
        refine r_p (p_move rfl) rfl ?_
        refine r_p (p_idx_arr1 (j := t) Try.underlying23 t3 rfl rfl (by first | rfl | omega) (by first | omega | (simp; done) | (simp; omega))) rfl ?_
        refine r_store_arr (k := 12) t3 rfl rfl rfl rfl rfl (by omega) ?_
        refine r_nil ?_
        refine r_region ?_
        refine r_p (p_move rfl) rfl ?_
        refine r_p (p_bin rfl rfl (b_add (by first | exact w_i64 (by omega) (by omega) | rfl))) rfl ?_
        refine r_p (p_assign rfl) rfl ?_
        refine r_nil ?_
        refine r_here (t + 1) ⟨by omega, by omega⟩ rfl (by rw [f2_step (by simp only [swp]; rw [if_pos hq])]; rfl) rfl
      · (try simp only [decide_eq_true_eq, decide_eq_false_iff_not, Bool.and_eq_true, Bool.or_eq_true, Bool.and_eq_false_iff, Bool.or_eq_false_iff, Bool.not_eq_true, Bool.not_eq_false, Bool.not_eq_true', Bool.not_eq_false', Bool.not_not, bne_iff_ne, beq_iff_eq] at h8)
        have hq3 : ¬((h3 (shR (ops.getD k o0).c).d (shR (ops.getD k o0).c).a (shR (ops.getD k o0).c).b) t = true ∧ (f3 (ops.getD k o0).d (ops.getD k o0).a (ops.getD k o0).b) t = ((n0 : Int) % 19)) := by rw [f2_at] at h8; rintro ⟨ha, hb⟩; exact h8.elim (fun hh => by rw [ha] at hh; cases hh) (fun hh => hh hb)
        refine r_seq ?_
        refine r_region ?_
        refine r_p (p_move rfl) rfl ?_
        refine r_p (p_idx_arr1 (j := t) Try.underlying48 t4 rfl rfl (by first | rfl | omega) (by first | omega | (simp; done) | (simp; omega))) rfl ?_
        refine r_p (p_load1 t4 rfl rfl (g_arr1 (k := 13) rfl (by omega))) rfl ?_
        refine r_p (p_move rfl) rfl ?_
        refine r_gp [] rfl rfl trivial (fun hg9 => p_move rfl) rfl ?_
        refine r_gp [(91, _)] rfl rfl ⟨rfl, trivial⟩ (fun hg10 => p_idx_arr1 (j := t) Try.underlying23 t3 rfl rfl (by first | rfl | omega) (by first | omega | (simp; done) | (simp; omega))) rfl ?_
        refine r_gp [(91, _), (92, _)] rfl rfl ⟨rfl, rfl, trivial⟩ (fun hg11 => p_load1 t3 rfl rfl (g_arr1 (k := 12) rfl (by omega))) rfl ?_
        refine r_gp [(91, _), (92, _), (93, _)] rfl rfl ⟨rfl, rfl, rfl, trivial⟩ (fun hg12 => p_move rfl) rfl ?_
        refine r_gp [(91, _), (92, _), (93, _), (94, _)] rfl rfl ⟨rfl, rfl, rfl, rfl, trivial⟩ (fun hg13 => p_bin rfl rfl b_eq) rfl ?_
        refine r_p (p_pick rfl rfl rfl (by first | exact pick_and | exact pick_or |  rfl)) rfl ?_
        refine r_nil ?_
        refine r_cond rfl (fun h14 => ?_) (fun h14 => ?_)
        · (try simp only [decide_eq_true_eq, decide_eq_false_iff_not, Bool.and_eq_true, Bool.or_eq_true, Bool.and_eq_false_iff, Bool.or_eq_false_iff, Bool.not_eq_true, Bool.not_eq_false, Bool.not_eq_true', Bool.not_eq_false', Bool.not_not, bne_iff_ne, beq_iff_eq] at h14)
          have hq4 : ((h3 (shR (ops.getD k o0).c).d (shR (ops.getD k o0).c).a (shR (ops.getD k o0).c).b) t = true ∧ (f3 (ops.getD k o0).d (ops.getD k o0).a (ops.getD k o0).b) t = ((n1 : Int) % 19)) := by rw [f2_at] at h14; simpa [vbo] using h14
          refine r_region ?_
          refine r_p (p_move rfl) rfl ?_
          refine r_p (p_move rfl) rfl ?_
          refine r_p (p_idx_arr1 (j := t) Try.underlying23 t3 rfl rfl (by first | rfl | omega) (by first | omega | (simp; done) | (simp; omega))) rfl ?_
          refine r_store_arr (k := 12) t3 rfl rfl rfl rfl rfl (by omega) ?_
          refine r_nil ?_
          refine r_region ?_
          refine r_p (p_move rfl) rfl ?_
          refine r_p (p_bin rfl rfl (b_add (by first | exact w_i64 (by omega) (by omega) | rfl))) rfl ?_
          refine r_p (p_assign rfl) rfl ?_
          refine r_nil ?_
          refine r_here (t + 1) ⟨by omega, by omega⟩ rfl (by rw [f2_step (by simp only [swp]; rw [if_neg hq3, if_pos hq4])]; rfl) rfl
        · (try simp only [decide_eq_true_eq, decide_eq_false_iff_not, Bool.and_eq_true, Bool.or_eq_true, Bool.and_eq_false_iff, Bool.or_eq_false_iff, Bool.not_eq_true, Bool.not_eq_false, Bool.not_eq_true', Bool.not_eq_false', Bool.not_not, bne_iff_ne, beq_iff_eq] at h14)
          have hq4 : ¬((h3 (shR (ops.getD k o0).c).d (shR (ops.getD k o0).c).a (shR (ops.getD k o0).c).b) t = true ∧ (f3 (ops.getD k o0).d (ops.getD k o0).a (ops.getD k o0).b) t = ((n1 : Int) % 19)) := by rw [f2_at] at h14; rintro ⟨ha, hb⟩; exact h14.elim (fun hh => by rw [ha] at hh; cases hh) (fun hh => hh hb)
          refine r_skip ?_
          refine r_region ?_
          refine r_p (p_move rfl) rfl ?_
          refine r_p (p_bin rfl rfl (b_add (by first | exact w_i64 (by omega) (by omega) | rfl))) rfl ?_
          refine r_p (p_assign rfl) rfl ?_
          refine r_nil ?_
          refine r_here (t + 1) ⟨by omega, by omega⟩ rfl (by rw [f2_same (by simp only [swp]; rw [if_neg hq3, if_neg hq4])]; rfl) rfl
    · (try simp only [decide_eq_true_eq, decide_eq_false_iff_not, Bool.and_eq_true, Bool.or_eq_true, Bool.and_eq_false_iff, Bool.or_eq_false_iff, Bool.not_eq_true, Bool.not_eq_false, Bool.not_eq_true', Bool.not_eq_false', Bool.not_not, bne_iff_ne, beq_iff_eq] at h2)
      have ht : t = 3 := by omega
      subst ht
      refine r_exit ?_
      refine r_seq ?_
      refine r_region ?_
      refine r_p (p_field0 fo28_2 rfl) rfl ?_
      refine r_p (p_load1 t26 rfl rfl (g_row1 (k := 9) rfl rfl)) rfl ?_
      refine r_p (p_move rfl) rfl ?_
      refine r_p (p_idx_arr1 (j := 0) Try.underlying23 t3 rfl rfl (by rfl) (by decide)) rfl ?_
      refine r_p (p_load1 t3 rfl rfl (g_arr1 (k := 12) rfl (by omega))) rfl ?_
      refine r_p (p_idx_sl (j := k) Try.underlying26 t47 rfl rfl (hs_own (k := 102) rfl) (by first | rfl | omega) (by omega)) rfl ?_
      refine r_p (p_field fo47_1 rfl) rfl ?_
      refine r_store_own (k := 102) (o := 1) (e' := ⟨(ops.getD k o0).c, (swp ((n0 : Int) % 19) ((n1 : Int) % 19) (shR (ops.getD k o0).c).d (ops.getD k o0).d), (ops.getD k o0).a, (ops.getD k o0).b, (ops.getD k o0).n⟩) t3 rfl rfl rfl rfl rfl rfl (by intro _; rfl) (rnL_get hk) (by show _ + 1 ≤ _; decide) rfl ?_
      refine r_nil ?_
      refine r_seq ?_
      refine r_region ?_
      refine r_p (p_field0 fo28_2 rfl) rfl ?_
      refine r_p (p_load1 t26 rfl rfl (g_row1 (k := 9) rfl rfl)) rfl ?_
      refine r_p (p_move rfl) rfl ?_
      refine r_p (p_idx_arr1 (j := 1) Try.underlying23 t3 rfl rfl (by rfl) (by decide)) rfl ?_
      refine r_p (p_load1 t3 rfl rfl (g_arr1 (k := 12) rfl (by omega))) rfl ?_
      refine r_p (p_idx_sl (j := k) Try.underlying26 t47 rfl rfl (hs_own (k := 102) rfl) (by first | rfl | omega) (by first | omega | (simp; done) | (simp; omega))) rfl ?_
      refine r_p (p_field fo47_2 rfl) rfl ?_
      refine r_store_own (k := 102) (o := 2) (e' := ⟨(ops.getD k o0).c, (swp ((n0 : Int) % 19) ((n1 : Int) % 19) (shR (ops.getD k o0).c).d (ops.getD k o0).d), (swp ((n0 : Int) % 19) ((n1 : Int) % 19) (shR (ops.getD k o0).c).a (ops.getD k o0).a), (ops.getD k o0).b, (ops.getD k o0).n⟩) t3 rfl rfl rfl rfl rfl rfl (by intro _; rfl) (set_get (by first | omega | (simp; omega))) (by show _ + 1 ≤ _; decide) rfl ?_
      refine r_nil ?_
      refine r_region ?_
      refine r_p (p_field0 fo28_2 rfl) rfl ?_
      refine r_p (p_load1 t26 rfl rfl (g_row1 (k := 9) rfl rfl)) rfl ?_
      refine r_p (p_move rfl) rfl ?_
      refine r_p (p_idx_arr1 (j := 2) Try.underlying23 t3 rfl rfl (by rfl) (by decide)) rfl ?_
      refine r_p (p_load1 t3 rfl rfl (g_arr1 (k := 12) rfl (by omega))) rfl ?_
      refine r_p (p_idx_sl (j := k) Try.underlying26 t47 rfl rfl (hs_own (k := 102) rfl) (by first | rfl | omega) (by first | omega | (simp; done) | (simp; omega))) rfl ?_
      refine r_p (p_field fo47_3 rfl) rfl ?_
      refine r_store_own (k := 102) (o := 3) (e' := ⟨(ops.getD k o0).c, (swp ((n0 : Int) % 19) ((n1 : Int) % 19) (shR (ops.getD k o0).c).d (ops.getD k o0).d), (swp ((n0 : Int) % 19) ((n1 : Int) % 19) (shR (ops.getD k o0).c).a (ops.getD k o0).a), (swp ((n0 : Int) % 19) ((n1 : Int) % 19) (shR (ops.getD k o0).c).b (ops.getD k o0).b), (ops.getD k o0).n⟩) t3 rfl rfl rfl rfl rfl rfl (by intro _; rfl) (set_get (by first | omega | (simp; omega))) (by show _ + 1 ≤ _; decide) rfl ?_
      refine r_nil ?_
      refine r_region ?_
      refine r_p (p_move rfl) rfl ?_
      refine r_p (p_bin rfl rfl (b_add (by first | exact w_i64 (by omega) (by omega) | rfl))) rfl ?_
      refine r_p (p_assign rfl) rfl ?_
      refine r_nil ?_
      refine r_here (k + 1) ⟨by omega, by omega⟩ rfl (by rw [← rnL_step hk (e1 := ⟨(ops.getD k o0).c, (swp ((n0 : Int) % 19) ((n1 : Int) % 19) (shR (ops.getD k o0).c).d (ops.getD k o0).d), (ops.getD k o0).a, (ops.getD k o0).b, (ops.getD k o0).n⟩) (e2 := ⟨(ops.getD k o0).c, (swp ((n0 : Int) % 19) ((n1 : Int) % 19) (shR (ops.getD k o0).c).d (ops.getD k o0).d), (swp ((n0 : Int) % 19) ((n1 : Int) % 19) (shR (ops.getD k o0).c).a (ops.getD k o0).a), (ops.getD k o0).b, (ops.getD k o0).n⟩) (e3 := ⟨(ops.getD k o0).c, (swp ((n0 : Int) % 19) ((n1 : Int) % 19) (shR (ops.getD k o0).c).d (ops.getD k o0).d), (swp ((n0 : Int) % 19) ((n1 : Int) % 19) (shR (ops.getD k o0).c).a (ops.getD k o0).a), (swp ((n0 : Int) % 19) ((n1 : Int) % 19) (shR (ops.getD k o0).c).b (ops.getD k o0).b), (ops.getD k o0).n⟩) rfl]; rfl) rfl
  · (try simp only [decide_eq_true_eq, decide_eq_false_iff_not, Bool.and_eq_true, Bool.or_eq_true, Bool.and_eq_false_iff, Bool.or_eq_false_iff, Bool.not_eq_true, Bool.not_eq_false, Bool.not_eq_true', Bool.not_eq_false', Bool.not_not, bne_iff_ne, beq_iff_eq] at h1)
    have hlen := rnL_len ((n0 : Int) % 19) ((n1 : Int) % 19) ops k
    have hk : k = ops.length := by omega
    subst hk
    refine r_conva (k := 102) (A' := own 47 5 eOp (sv wo) (ops.map (renO ((n0 : Int) % 19) ((n1 : Int) % 19)))) rfl (by rw [rnL_all]; exact fun _ _ h => h) ?_
    refine r_exit ?_
    refine r_seq ?_
    refine r_region ?_
    refine r_p (p_loadA t28 rfl rfl rfl (g_all (k := 6) rfl)) rfl ?_
    refine r_call (xs := [.tmp 121]) (uses_spec va vp vo ops hl5) cb15 [] [(false, 62)] [] [] rfl rfl rfl rfl rfl rfl rfl rfl (fun _ _ => rfl) (fun _ _ _ => rfl) rfl (fun _ _ => ?_)
    refine r_alloc_arr (n := 28) (u := (.int .i64 0)) t30 rfl rfl fun b15 => ?_
    refine r_store_arrAll (k := 15) t30 rfl rfl rfl (vi_one _) rfl ?_
    refine r_nil ?_
    refine r_seq ?_
    refine r_region ?_
    refine r_p (p_loadA t28 rfl rfl rfl (g_all (k := 9) rfl)) rfl ?_
    refine r_call (xs := [.tmp 123]) ((uses_spec wa wp wo (ops.map (renO ((n0 : Int) % 19) ((n1 : Int) % 19))) (by rw [List.length_map]; omega)).ro1 (own_to_sl (T := 47))) cb15 [] [(true, 102)] [] [] rfl rfl rfl rfl rfl rfl rfl rfl (fun _ _ => rfl) (fun _ _ _ => rfl) rfl (fun _ _ => ?_)
    refine r_alloc_arr (n := 28) (u := (.int .i64 0)) t30 rfl rfl fun b16 => ?_
    refine r_store_arrAll (k := 16) t30 rfl rfl rfl (vi_one _) rfl ?_
    refine r_nil ?_
    refine r_seq ?_
    refine r_drawM [0, 1, 2, 3, 4, 5, 6, 7, 8, 9, 10, 11] [0, 9, 1, 2, 3, 4, 5, 6, 7, 8, 10, 11] [125, 126, 127, 128, 129, 130, 131, 132, 133, 134] _ rfl rfl rfl (stg_mem0 (V := [(0, 125, _), (1, 126, _), (2, 127, _), (3, 128, _), (4, 129, _), (5, 130, _), (6, 131, _), (7, 132, _), (8, 133, _)]) [0, 1, 2, 3, 4, 5, 6, 7, 8] 9 [9, 8, 7, 6, 5, 4, 3, 2, 0] [10] (fun _ => [(10, 134, _)]) rfl rfl (prs_cons (pri rfl (p_move rfl)) (prs_cons (pri rfl (p_move rfl)) (prs_cons (pri rfl (p_move rfl)) (prs_cons (pri rfl (p_idx_arr1 (j := (n1 % 19)) Try.underlying30 t3 rfl rfl (by first | rfl | omega) (by first | omega | (simp; done) | (simp; omega)))) (prs_cons (pri rfl (p_load1 t3 rfl rfl (g_arr1 (k := 15) rfl (by omega)))) (prs_cons (pri rfl (p_move rfl)) (prs_cons (pri rfl (p_idx_arr1 (j := (n0 % 19)) Try.underlying30 t3 rfl rfl (by first | rfl | omega) (by first | omega | (simp; done) | (simp; omega)))) (prs_cons (pri rfl (p_load1 t3 rfl rfl (g_arr1 (k := 15) rfl (by omega)))) (prs_cons (pri rfl (p_idx_arr1 (j := (n0 % 19)) Try.underlying30 t3 rfl rfl (by first | rfl | omega) (by first | omega | (simp; done) | (simp; omega)))) prs_nil))))))))) rfl rfl rfl rfl rfl rfl rfl rfl rfl (fun _ _ => rfl) rfl (ms_store_arr (k := 15) t3 rfl rfl rfl rfl rfl (by omega)) (fun _ _ => stg_mem0 [10, 1] 11 [11, 10, 9, 8, 7, 6, 5, 4, 3, 2, 1, 0] [] (fun _ => []) rfl rfl (prs_cons (pri rfl (p_idx_arr1 (j := (n1 % 19)) Try.underlying30 t3 rfl rfl (by first | rfl | omega) (by first | omega | (simp; done) | (simp; omega)))) (prs_cons (pri rfl (p_move rfl)) prs_nil)) rfl rfl rfl rfl rfl rfl rfl rfl rfl (fun _ _ => rfl) rfl (ms_store_arr (k := 15) t3 rfl rfl rfl rfl rfl (by omega)) (fun _ _ => stg_end [] rfl rfl prs_nil rfl rfl rfl ?_)))
    refine r_conva (k := 15) (A' := arr b15 30 28 (vi (fun i => uses ops (sig (n0 % 19) (n1 % 19) i)))) rfl (arr_fg fun i _ => ?_) ?_
    · simp only [fset, vi, sig]
      repeat' split
      all_goals first | rfl | (subst_vars; rfl) | (subst_vars; simp_all)
    refine r_seq ?_
    refine r_region ?_
    refine r_p (p_move rfl) rfl ?_
    refine r_p (p_move rfl) rfl ?_
    refine r_gp [] rfl rfl trivial (fun hg15 => p_loadA t30 rfl rfl (by simp) (g_arr (k := 15) rfl)) rfl ?_
    refine r_gp [(137, _)] rfl rfl ⟨rfl, trivial⟩ (fun hg16 => p_loadA t30 rfl rfl (by simp) (g_arr (k := 16) rfl)) rfl ?_
    refine r_gp [(137, _), (138, _)] rfl rfl ⟨rfl, rfl, trivial⟩ (fun hg17 => p_bin rfl rfl (b_eqA Try.underlying30 t3 (by kernel_rfl))) rfl ?_
    refine r_p (p_pick rfl rfl rfl (by first | exact pick_and | exact pick_or |  rfl)) rfl ?_
    refine r_p (p_assign rfl) rfl ?_
    refine r_nil ?_
    refine r_cret ?_
    refine r_ret () trivial rfl (rs1 (rv_tmp rfl)) (congrArg Value.bool (by have := @uses_ren (n0 % 19) (n1 % 19) (by omega) (by omega) ops; simp only [Int.natCast_emod] at this; simp; intro j hj; exact (this j).symm)) [] [] rfl rfl rfl

end Go.Proofs.Ytfdbkclbcajkiaa
