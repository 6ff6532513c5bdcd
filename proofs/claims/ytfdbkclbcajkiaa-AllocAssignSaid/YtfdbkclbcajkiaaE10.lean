/-
  AllocAssign walks. No condition.
-/
import Derived.Test.YtfdbkclbcajkiaaDA
namespace Go.Proofs.Ytfdbkclbcajkiaa
set_option linter.unusedSimpArgs false
set_option linter.unusedVariables false
open Go.RowKit

set_option maxRecDepth 100000 in
theorem assign_law (vs : SV) (s : List Int) (a0 a1 a2 regs : Int) :
    Spec Try.prog 4 [sv vs, .agg ((List.range 3).map (vi (f3 a0 a1 a2))).toArray, .int .i64 regs] [] [sl 1 eI (sv vs) s] (X := Unit) (fun _ => True) (fun _ => .bool true) (fun _ => []) (fun _ => []) := by
  refine r_enter Try.func4 rfl Try.ntmps4 rfl fun w0 M H => ?_
  refine r_seq ?_
  refine r_region ?_
  refine r_box_arr rfl rfl fun b4 => ?_
  refine r_p (p_assign rfl) rfl ?_
  refine r_nil ?_
  refine r_seq ?_
  refine r_region ?_
  refine r_call (xs := []) sanity_spec cb13 [] [] [] [] rfl rfl rfl rfl rfl rfl rfl rfl (fun _ _ => rfl) (fun _ _ _ => rfl) rfl (fun _ _ => ?_)
  refine r_p (p_assign rfl) rfl ?_
  refine r_nil ?_
  refine r_seq ?_
  refine r_region ?_
  refine r_p (p_move rfl) rfl ?_
  refine r_p (p_loadA t23 rfl rfl (by simp) (g_arr (k := 4) rfl)) rfl ?_
  refine r_call (xs := [.tmp 10, .tmp 11]) (block_spec vs s (f3 a0 a1 a2)) cb14 [] [(false, 0)] [] [62] rfl rfl rfl rfl rfl rfl rfl rfl (fun _ _ => rfl) (fun _ _ _ => rfl) rfl (fun ⟨va, vp, vo, ops⟩ hl => ?_)
  dsimp only at hl ⊢
  have hl5 : ops.length ≤ 100000 := by omega
  refine r_alloc t28 rfl rfl fun b8 => ?_
  refine r_store_all (k := 8) t28 rfl rfl rfl rfl rfl rfl ?_
  refine r_nil ?_
  refine r_seq ?_
  refine r_draw [13, 14, 15, 16, 17, 18, 19, 20, 21, 22, 6] _ rfl (stg_memg (V := [(0, 13, _), (1, 14, _), (2, 15, _), (3, 16, _), (5, 18, _), (6, 19, _)]) [0, 1, 2, 3, 5, 6] 4 [4, 3, 2, 1, 0] [] (fun _ => []) rfl rfl (prs_cons (pri rfl (p_move rfl)) (prs_cons (pri rfl (p_move rfl)) (prs_cons (prig_y rfl rfl rfl rfl (p_loadA t28 rfl rfl rfl (g_all (k := 8) rfl))) (prs_cons (prig_y rfl rfl rfl rfl (p_move rfl)) (prs_cons (prig_y rfl rfl rfl rfl (p_loadA t28 rfl rfl rfl (g_all (k := 8) rfl))) (prs_cons (prig_y rfl rfl rfl rfl (p_move rfl)) prs_nil)))))) rfl rfl rfl rfl rfl rfl rfl rfl rfl rfl rfl rfl (fun _ _ => rfl) rfl (ms_call (xs := [.tmp 15, .tmp 16]) (assign_spec va vp vo ops hl5 regs) cb17 [] [(false, 62)] [] [] rfl rfl rfl rfl rfl rfl rfl rfl (fun _ _ => rfl) (fun _ _ _ => rfl)) (fun _ _ => stg_memg [5, 6] 7 [7, 6, 5, 4, 3, 2, 1, 0] [8, 9, 10] (fun _ => [(8, 21, _), (9, 22, _), (10, 6, _)]) rfl rfl (prs_cons (prig_y rfl rfl rfl rfl (p_loadA t28 rfl rfl rfl (g_all (k := 8) rfl))) (prs_cons (prig_y rfl rfl rfl rfl (p_move rfl)) prs_nil)) rfl rfl rfl rfl rfl rfl rfl rfl rfl rfl rfl rfl (fun _ _ => rfl) rfl (ms_call (xs := [.tmp 18, .tmp 19]) (rassign_spec va vp vo ops hl5 regs) cb18 [] [(false, 62)] [] [] rfl rfl rfl rfl rfl rfl rfl rfl (fun _ _ => rfl) (fun _ _ _ => rfl)) (fun _ _ => stg_end [8, 9, 10] rfl rfl (prs_cons (prig_y rfl rfl rfl rfl (p_bin rfl rfl (b_eqA Try.underlying33 t3 (by kernel_rfl)))) (prs_cons (pri rfl (p_pick rfl rfl rfl (pick_t rfl))) (prs_cons (pri rfl (p_assign rfl)) prs_nil))) rfl rfl rfl ?_)))
  refine r_cret ?_
  refine r_ret () trivial rfl (rs1 (rv_tmp rfl)) (congrArg Value.bool (by simp)) [] [] rfl rfl rfl

end Go.Proofs.Ytfdbkclbcajkiaa
