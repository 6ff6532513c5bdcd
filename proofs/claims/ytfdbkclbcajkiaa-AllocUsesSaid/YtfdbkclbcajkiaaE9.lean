/-
  AllocUses walks. No condition.
-/
import Derived.Test.YtfdbkclbcajkiaaD8
namespace Go.Proofs.Ytfdbkclbcajkiaa
set_option linter.unusedSimpArgs false
set_option linter.unusedVariables false
open Go.RowKit

set_option maxRecDepth 100000 in
theorem uses_law (vs : SV) (s : List Int) (a0 a1 a2 : Int) :
    Spec Try.prog 3 [sv vs, .agg ((List.range 3).map (vi (f3 a0 a1 a2))).toArray] [] [sl 1 eI (sv vs) s] (X := Unit) (fun _ => True) (fun _ => .bool true) (fun _ => []) (fun _ => []) := by
  refine r_enter Try.func3 rfl Try.ntmps3 rfl fun w0 M H => ?_
  refine r_seq ?_
  refine r_region ?_
  refine r_box_arr rfl rfl fun b3 => ?_
  refine r_p (p_assign rfl) rfl ?_
  refine r_nil ?_
  refine r_seq ?_
  refine r_region ?_
  refine r_call (xs := []) sanity_spec cb13 [] [] [] [] rfl rfl rfl rfl rfl rfl rfl rfl (fun _ _ => rfl) (fun _ _ _ => rfl) rfl (fun _ _ => ?_)
  refine r_p (p_assign rfl) rfl ?_
  refine r_nil ?_
  refine r_seq ?_
  refine r_region ?_
  refine r_p (p_move rfl) rfl ?_
  refine r_p (p_loadA t23 rfl rfl (by simp) (g_arr (k := 3) rfl)) rfl ?_
  refine r_call (xs := [.tmp 8, .tmp 9]) (block_spec vs s (f3 a0 a1 a2)) cb14 [] [(false, 0)] [] [62] rfl rfl rfl rfl rfl rfl rfl rfl (fun _ _ => rfl) (fun _ _ _ => rfl) rfl (fun ⟨va, vp, vo, ops⟩ hl => ?_)
  dsimp only at hl ⊢
  have hl5 : ops.length ≤ 100000 := by omega
  refine r_alloc t28 rfl rfl fun b6 => ?_
  refine r_store_all (k := 6) t28 rfl rfl rfl rfl rfl rfl ?_
  refine r_nil ?_
  refine r_seq ?_
  refine r_draw [11, 12, 13, 14, 15, 16, 17, 18, 4] _ rfl (stg_memg (V := [(0, 11, _), (1, 12, _), (2, 13, _), (4, 15, _)]) [0, 1, 2, 4] 3 [3, 2, 1, 0] [] (fun _ => []) rfl rfl (prs_cons (pri rfl (p_move rfl)) (prs_cons (pri rfl (p_move rfl)) (prs_cons (prig_y rfl rfl rfl rfl (p_loadA t28 rfl rfl rfl (g_all (k := 6) rfl))) (prs_cons (prig_y rfl rfl rfl rfl (p_loadA t28 rfl rfl rfl (g_all (k := 6) rfl))) prs_nil)))) rfl rfl rfl rfl rfl rfl rfl rfl rfl rfl rfl rfl (fun _ _ => rfl) rfl (ms_call (xs := [.tmp 13]) (uses_spec va vp vo ops hl5) cb15 [] [(false, 62)] [] [] rfl rfl rfl rfl rfl rfl rfl rfl (fun _ _ => rfl) (fun _ _ _ => rfl)) (fun _ _ => stg_memg [4] 5 [5, 4, 3, 2, 1, 0] [6, 7, 8] (fun _ => [(6, 17, _), (7, 18, _), (8, 4, _)]) rfl rfl (prs_cons (prig_y rfl rfl rfl rfl (p_loadA t28 rfl rfl rfl (g_all (k := 6) rfl))) prs_nil) rfl rfl rfl rfl rfl rfl rfl rfl rfl rfl rfl rfl (fun _ _ => rfl) rfl (ms_call (xs := [.tmp 15]) (ruses_spec va vp vo ops hl5) cb16 [] [(false, 62)] [] [] rfl rfl rfl rfl rfl rfl rfl rfl (fun _ _ => rfl) (fun _ _ _ => rfl)) (fun _ _ => stg_end [6, 7, 8] rfl rfl (prs_cons (prig_y rfl rfl rfl rfl (p_bin rfl rfl (b_eqA Try.underlying30 t3 (by kernel_rfl)))) (prs_cons (pri rfl (p_pick rfl rfl rfl (pick_t rfl))) (prs_cons (pri rfl (p_assign rfl)) prs_nil))) rfl rfl rfl ?_)))
  refine r_cret ?_
  refine r_ret () trivial rfl (rs1 (rv_tmp rfl)) (congrArg Value.bool (by simp)) [] [] rfl rfl rfl

end Go.Proofs.Ytfdbkclbcajkiaa
