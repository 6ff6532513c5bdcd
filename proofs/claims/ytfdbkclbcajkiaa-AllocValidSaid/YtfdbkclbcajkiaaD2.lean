/-
  The examples of the chapter hold. No condition.
-/
import Derived.Test.YtfdbkclbcajkiaaD1
namespace Go.Proofs.Ytfdbkclbcajkiaa
set_option linter.unusedSimpArgs false
set_option linter.unusedVariables false
open Go.RowKit

set_option maxRecDepth 100000 in
set_option maxHeartbeats 1000000 in
theorem sanity_spec  :
    Spec Try.prog 13 [] [] [] (X := Unit) (fun _ => True) (fun _ => .bool true) (fun _ => []) (fun _ => []) := by
  refine r_enter Try.func13 rfl Try.ntmps13 rfl fun w0 M H => ?_
  refine r_seq ?_
  refine r_region ?_
  refine r_p (p_assign rfl) rfl ?_
  refine r_nil ?_
  refine r_seq ?_
  refine r_region ?_
  refine r_bslice1 eW (0 : Int) Try.underlying25 t45 rfl (by decide) (by decide) rfl rfl rfl rfl fun v6 => ?_
  refine r_p (p_build (parts := [(0, .const (.int .i64 20))]) t47 pl47 rfl rfl) rfl ?_
  refine r_p (p_build (parts := [(0, .const (.int .i64 3)), (1, .const (.int .i64 1)), (2, .const (.int .i64 2)), (3, .const (.int .i64 2))]) t47 pl47 rfl rfl) rfl ?_
  refine r_p (p_build (parts := [(0, .const (.int .i64 25)), (2, .const (.int .i64 1))]) t47 pl47 rfl rfl) rfl ?_
  refine r_bslice eOp [(⟨20, 0, 0, 0, 0⟩ : OpR), ⟨3, 1, 2, 2, 0⟩, ⟨25, 0, 1, 0, 0⟩] (parts := [(0, .tmp 7), (1, .tmp 8), (2, .tmp 9)]) Try.underlying26 t47 rfl (by decide) (by intro _; rfl) rfl (by decide) (by decide) rfl rfl rfl rfl fun v10 => ?_
  refine r_freeze 10 10 rfl own_to_sl ?_
  refine r_p (p_build (parts := [(0, .tmp 6), (2, .tmp 10)]) t28 pl28 rfl rfl) rfl ?_
  refine r_alloc t28 rfl rfl fun b1 => ?_
  refine r_store_all (k := 1) t28 rfl rfl rfl rfl rfl rfl ?_
  refine r_nil ?_
  refine r_seq ?_
  refine r_region ?_
  refine r_p (p_loadA t28 rfl rfl rfl (g_all (k := 1) rfl)) rfl ?_
  refine r_call (xs := [.tmp 12]) (uses_spec v6 nilS v10 _ (by decide)) cb15 [] [(false, 10)] [] [] rfl rfl rfl rfl rfl rfl rfl rfl (fun _ _ => rfl) (fun _ _ _ => rfl) rfl (fun _ _ => ?_)
  refine r_alloc_arr (n := 28) (u := (.int .i64 0)) t30 rfl rfl fun b2 => ?_
  refine r_store_arrAll (k := 2) t30 rfl rfl rfl (vi_one _) rfl ?_
  refine r_nil ?_
  refine r_seq ?_
  refine r_region ?_
  refine r_p (p_loadA t28 rfl rfl rfl (g_all (k := 1) rfl)) rfl ?_
  refine r_call (xs := [.tmp 14, .const (.int .i64 1)]) (assign_spec v6 nilS v10 _ (by decide) 1) cb17 [] [(false, 10)] [] [] rfl rfl rfl rfl rfl rfl rfl rfl (fun _ _ => rfl) (fun _ _ _ => rfl) rfl (fun _ _ => ?_)
  refine r_alloc_arr (n := 28) (u := (.int .i64 0)) t33 rfl rfl fun b3 => ?_
  refine r_store_arrAll (k := 3) t33 rfl rfl rfl (vi_one _) rfl ?_
  refine r_nil ?_
  refine r_seq ?_
  refine r_region ?_
  refine r_p (p_loadA t28 rfl rfl rfl (g_all (k := 1) rfl)) rfl ?_
  refine r_call (xs := [.tmp 16, .const (.int .i64 5)]) (assign_spec v6 nilS v10 _ (by decide) 5) cb17 [] [(false, 10)] [] [] rfl rfl rfl rfl rfl rfl rfl rfl (fun _ _ => rfl) (fun _ _ _ => rfl) rfl (fun _ _ => ?_)
  refine r_alloc_arr (n := 28) (u := (.int .i64 0)) t33 rfl rfl fun b4 => ?_
  refine r_store_arrAll (k := 4) t33 rfl rfl rfl (vi_one _) rfl ?_
  refine r_nil ?_
  refine r_seq ?_
  refine r_region ?_
  refine r_bslice1 eW (0 : Int) Try.underlying25 t45 rfl (by decide) (by decide) rfl rfl rfl rfl fun v18 => ?_
  refine r_p (p_build (parts := [(0, .const (.int .i64 20))]) t47 pl47 rfl rfl) rfl ?_
  refine r_p (p_build (parts := [(0, .const (.int .i64 22))]) t47 pl47 rfl rfl) rfl ?_
  refine r_bslice eOp [(⟨20, 0, 0, 0, 0⟩ : OpR), ⟨22, 0, 0, 0, 0⟩] (parts := [(0, .tmp 19), (1, .tmp 20)]) Try.underlying26 t47 rfl (by decide) (by intro _; rfl) rfl (by decide) (by decide) rfl rfl rfl rfl fun v21 => ?_
  refine r_freeze 21 21 rfl own_to_sl ?_
  refine r_p (p_build (parts := [(0, .tmp 18), (2, .tmp 21)]) t28 pl28 rfl rfl) rfl ?_
  refine r_call (xs := [.tmp 22, .const (.int .i64 5)]) (assign_spec v18 nilS v21 _ (by decide) 5) cb17 [] [(false, 21)] [] [] rfl rfl rfl rfl rfl rfl rfl rfl (fun _ _ => rfl) (fun _ _ _ => rfl) rfl (fun _ _ => ?_)
  refine r_alloc_arr (n := 28) (u := (.int .i64 0)) t33 rfl rfl fun b5 => ?_
  refine r_store_arrAll (k := 5) t33 rfl rfl rfl (vi_one _) rfl ?_
  refine r_nil ?_
  refine r_seq ?_
  refine r_draw [24, 25, 26, 27, 28, 29, 30, 31, 32, 33, 34, 35, 36, 37, 38, 39, 40, 41, 42, 43, 44, 45, 46, 47, 48, 49, 50, 51, 52, 53, 54, 55, 56, 57, 58, 59, 60, 61, 62, 63, 64, 65, 66, 67, 68, 69, 70, 71, 0] _ rfl (stg_memg (V := [(0, 24, _), (1, 25, _), (2, 26, _), (3, 27, _), (4, 28, _), (5, 29, _), (6, 30, _), (7, 31, _), (8, 32, _), (9, 33, _), (10, 34, _), (11, 35, _), (12, 36, _), (13, 37, _), (14, 38, _), (15, 39, _), (16, 40, _), (17, 41, _), (18, 42, _), (19, 43, _), (20, 44, _), (21, 45, _), (22, 46, _), (23, 47, _), (24, 48, _), (25, 49, _), (26, 50, _), (27, 51, _), (28, 52, _), (29, 53, _), (30, 54, _), (31, 55, _), (32, 56, _), (33, 57, _), (34, 58, _), (35, 59, _), (36, 60, _), (37, 61, _), (38, 62, _), (39, 63, _)]) [0, 1, 2, 3, 4, 5, 6, 7, 8, 9, 10, 11, 12, 13, 14, 15, 16, 17, 18, 19, 20, 21, 22, 23, 24, 25, 26, 27, 28, 29, 30, 31, 32, 33, 34, 35, 36, 37, 38, 39] 40 [40, 38, 37, 36, 35, 34, 33, 32, 31, 30, 29, 28, 27, 26, 25, 24, 23, 22, 21, 20, 19, 18, 17, 16, 15, 14, 13, 12, 11, 10, 9, 8, 7, 6, 5, 4, 3, 2, 1, 0] [41, 42, 43, 44, 45, 46, 47, 48] (fun x64 => [(41, 65, _), (42, 66, _), (43, 67, _), (44, 68, _), (45, 69, _), (46, 70, _), (47, 71, _), (48, 0, _)]) rfl rfl (prs_cons (pri rfl (p_idx_arr1 (j := 1) Try.underlying30 t3 rfl rfl (by rfl) (by decide))) (prs_cons (pri rfl (p_load1 t3 rfl rfl (g_arr1 (k := 2) rfl (by omega)))) (prs_cons (pri rfl (p_bin rfl rfl b_eq)) (prs_cons (pri rfl (p_move rfl)) (prs_cons (prig_y rfl rfl rfl (by kernel_rfl) (p_idx_arr1 (j := 2) Try.underlying30 t3 rfl rfl (by rfl) (by decide))) (prs_cons (prig_y rfl rfl rfl (by kernel_rfl) (p_load1 t3 rfl rfl (g_arr1 (k := 2) rfl (by omega)))) (prs_cons (prig_y rfl rfl rfl (by kernel_rfl) (p_bin rfl rfl b_eq)) (prs_cons (pri rfl (p_pick rfl rfl rfl (pick_t (by kernel_rfl)))) (prs_cons (pri rfl (p_move rfl)) (prs_cons (prig_y rfl rfl rfl (by kernel_rfl) (p_idx_arr1 (j := 0) Try.underlying30 t3 rfl rfl (by rfl) (by decide))) (prs_cons (prig_y rfl rfl rfl (by kernel_rfl) (p_load1 t3 rfl rfl (g_arr1 (k := 2) rfl (by omega)))) (prs_cons (prig_y rfl rfl rfl (by kernel_rfl) (p_bin rfl rfl b_eq)) (prs_cons (pri rfl (p_pick rfl rfl rfl (pick_t (by kernel_rfl)))) (prs_cons (pri rfl (p_move rfl)) (prs_cons (prig_y rfl rfl rfl (by kernel_rfl) (p_idx_arr1 (j := 1) Try.underlying33 t3 rfl rfl (by rfl) (by decide))) (prs_cons (prig_y rfl rfl rfl (by kernel_rfl) (p_load1 t3 rfl rfl (g_arr1 (k := 3) rfl (by omega)))) (prs_cons (prig_y rfl rfl rfl (by kernel_rfl) (p_bin rfl rfl b_eq)) (prs_cons (pri rfl (p_pick rfl rfl rfl (pick_t (by kernel_rfl)))) (prs_cons (pri rfl (p_move rfl)) (prs_cons (prig_y rfl rfl rfl (by kernel_rfl) (p_idx_arr1 (j := 2) Try.underlying33 t3 rfl rfl (by rfl) (by decide))) (prs_cons (prig_y rfl rfl rfl (by kernel_rfl) (p_load1 t3 rfl rfl (g_arr1 (k := 3) rfl (by omega)))) (prs_cons (prig_y rfl rfl rfl (by kernel_rfl) (p_bin rfl rfl b_eq)) (prs_cons (pri rfl (p_pick rfl rfl rfl (pick_t (by kernel_rfl)))) (prs_cons (pri rfl (p_move rfl)) (prs_cons (prig_y rfl rfl rfl (by kernel_rfl) (p_idx_arr1 (j := 1) Try.underlying33 t3 rfl rfl (by rfl) (by decide))) (prs_cons (prig_y rfl rfl rfl (by kernel_rfl) (p_load1 t3 rfl rfl (g_arr1 (k := 4) rfl (by omega)))) (prs_cons (prig_y rfl rfl rfl (by kernel_rfl) (p_bin rfl rfl b_eq)) (prs_cons (pri rfl (p_pick rfl rfl rfl (pick_t (by kernel_rfl)))) (prs_cons (pri rfl (p_move rfl)) (prs_cons (prig_y rfl rfl rfl (by kernel_rfl) (p_idx_arr1 (j := 2) Try.underlying33 t3 rfl rfl (by rfl) (by decide))) (prs_cons (prig_y rfl rfl rfl (by kernel_rfl) (p_load1 t3 rfl rfl (g_arr1 (k := 4) rfl (by omega)))) (prs_cons (prig_y rfl rfl rfl (by kernel_rfl) (p_bin rfl rfl b_eq)) (prs_cons (pri rfl (p_pick rfl rfl rfl (pick_t (by kernel_rfl)))) (prs_cons (pri rfl (p_move rfl)) (prs_cons (prig_y rfl rfl rfl (by kernel_rfl) (p_idx_arr1 (j := 3) Try.underlying33 t3 rfl rfl (by rfl) (by decide))) (prs_cons (prig_y rfl rfl rfl (by kernel_rfl) (p_load1 t3 rfl rfl (g_arr1 (k := 4) rfl (by omega)))) (prs_cons (prig_y rfl rfl rfl (by kernel_rfl) (p_bin rfl rfl b_eq)) (prs_cons (pri rfl (p_pick rfl rfl rfl (pick_t (by kernel_rfl)))) (prs_cons (pri rfl (p_move rfl)) (prs_cons (prig_y rfl rfl rfl (by kernel_rfl) (p_loadA t33 rfl rfl (by simp) (g_arr (k := 5) rfl))) prs_nil)))))))))))))))))))))))))))))))))))))))) rfl rfl rfl rfl rfl (by kernel_rfl) rfl rfl rfl rfl rfl rfl (fun _ _ => rfl) rfl (ms_call (xs := []) none_spec cb23 [] [] [] [] rfl rfl rfl rfl rfl rfl rfl rfl (fun _ _ => rfl) (fun _ _ _ => rfl)) (fun x64 hx64 => stg_end [41, 42, 43, 44, 45, 46, 47, 48, 39] rfl rfl (prs_cons (prig_y rfl rfl rfl (by kernel_rfl) (p_bin rfl rfl (b_eqA Try.underlying33 t3 (by kernel_rfl)))) (prs_cons (pri rfl (p_pick rfl rfl rfl (pick_t (by kernel_rfl)))) (prs_cons (pri rfl (p_move rfl)) (prs_cons (prig_y rfl rfl rfl (by kernel_rfl) (p_idx_arr1 (j := 0) Try.underlying33 t3 rfl rfl (by rfl) (by decide))) (prs_cons (prig_y rfl rfl rfl (by kernel_rfl) (p_load1 t3 rfl rfl (g_arr1 (k := 5) rfl (by omega)))) (prs_cons (prig_y rfl rfl rfl (by kernel_rfl) (p_bin rfl rfl b_eq)) (prs_cons (pri rfl (p_pick rfl rfl rfl (pick_t (by kernel_rfl)))) (prs_cons (pri rfl (p_assign rfl)) (prs_cons (prig_y rfl rfl rfl (by kernel_rfl) (p_loadA t33 rfl rfl (by simp) (g_arr (k := 5) rfl))) prs_nil))))))))) rfl rfl rfl ?_))
  refine r_cret ?_
  refine r_ret () trivial rfl (rs1 (rv_tmp rfl)) (congrArg Value.bool (by kernel_rfl)) [] [] rfl rfl rfl

end Go.Proofs.Ytfdbkclbcajkiaa
