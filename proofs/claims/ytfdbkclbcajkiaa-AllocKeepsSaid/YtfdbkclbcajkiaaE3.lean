/-
  AllocKeeps walks. No condition.
-/
import Derived.Test.YtfdbkclbcajkiaaD4
namespace Go.Proofs.Ytfdbkclbcajkiaa
set_option linter.unusedSimpArgs false
set_option linter.unusedVariables false
open Go.RowKit

set_option maxRecDepth 100000 in
set_option maxHeartbeats 1000000 in
theorem keeps_law (vs : SV) (s : List Int) (regs : Int) :
    Spec Try.prog 10 [sv vs, .int .i64 regs] [] [sl 1 eI (sv vs) s] (X := Unit) (fun _ => True) (fun _ => .bool true) (fun _ => []) (fun _ => []) := by
  refine r_enter Try.func10 rfl Try.ntmps10 rfl fun w0 M H => ?_
  refine r_seq ?_
  refine r_region ?_
  refine r_p (p_assign rfl) rfl ?_
  refine r_nil ?_
  refine r_seq ?_
  refine r_region ?_
  refine r_call (xs := []) sanity_spec cb13 [] [] [] [] rfl rfl rfl rfl rfl rfl rfl rfl (fun _ _ => rfl) (fun _ _ _ => rfl) rfl (fun _ _ => ?_)
  refine r_p (p_assign rfl) rfl ?_
  refine r_nil ?_
  refine r_seq ?_
  refine r_region ?_
  refine r_p (p_move rfl) rfl ?_
  refine r_call (xs := [.tmp 10]) (made_spec vs s) cb19 [] [(false, 0)] [] [60, 61, 62] rfl rfl rfl rfl rfl rfl rfl rfl (fun _ _ => rfl) (fun _ _ _ => rfl) rfl (fun ⟨va, vp, vo, sw, sa, ops⟩ hx14 => ?_)
  obtain ⟨hl, hal⟩ := hx14
  dsimp only at hl hal
  have hl5 : ops.length ≤ 100000 := by omega
  have hub := uses_bd ops hl5
  refine r_alloc t28 rfl rfl fun b6 => ?_
  refine r_store_all (k := 6) t28 rfl rfl rfl rfl rfl rfl ?_
  refine r_nil ?_
  refine r_seq ?_
  refine r_region ?_
  refine r_p (p_loadA t28 rfl rfl rfl (g_all (k := 6) rfl)) rfl ?_
  refine r_call (xs := [.tmp 12]) (own_spec va vp vo sw sa ops hl hal) cb20 [] [(false, 60), (false, 61), (false, 62)] [] [70, 71, 72] rfl rfl rfl rfl rfl rfl rfl rfl (fun _ _ => rfl) (fun _ _ _ => rfl) rfl (fun ⟨wa, wp, wo⟩ _ => ?_)
  dsimp only
  refine r_alloc t28 rfl rfl fun b7 => ?_
  refine r_store_all (k := 7) t28 rfl rfl rfl rfl rfl rfl ?_
  refine r_nil ?_
  refine r_seq ?_
  refine r_region ?_
  refine r_p (p_loadA t28 rfl rfl rfl (g_all (k := 6) rfl)) rfl ?_
  refine r_p (p_move rfl) rfl ?_
  refine r_call (xs := [.tmp 14, .tmp 15]) (assign_spec va vp vo ops hl5 regs) cb17 [] [(false, 62)] [] [] rfl rfl rfl rfl rfl rfl rfl rfl (fun _ _ => rfl) (fun _ _ _ => rfl) rfl (fun _ _ => ?_)
  refine r_alloc_arr (n := 28) (u := (.int .i64 0)) t33 rfl rfl fun b8 => ?_
  refine r_store_arrAll (k := 8) t33 rfl rfl rfl (vi_one _) rfl ?_
  refine r_nil ?_
  refine r_seq ?_
  refine r_region ?_
  refine r_p (p_loadA t28 rfl rfl rfl (g_all (k := 6) rfl)) rfl ?_
  refine r_call (xs := [.tmp 17]) (uses_spec va vp vo ops hl5) cb15 [] [(false, 62)] [] [] rfl rfl rfl rfl rfl rfl rfl rfl (fun _ _ => rfl) (fun _ _ _ => rfl) rfl (fun _ _ => ?_)
  refine r_nil ?_
  refine r_seq ?_
  refine r_draw [19, 20, 21, 22, 23, 24, 25, 26, 27, 28, 29, 30, 31, 4] _ rfl (stg_memg (V := [(0, 19, _), (1, 20, _), (2, 21, _), (3, 22, _)]) [0, 1, 2, 3] 4 [4, 3, 2, 1, 0] [5, 6, 7, 8, 9] (fun _ => [(5, 24, _), (6, 25, _), (7, 26, _), (8, 27, _), (9, 28, _)]) rfl rfl (prs_cons (pri rfl (p_move rfl)) (prs_cons (pri rfl (p_move rfl)) (prs_cons (prig_y rfl rfl rfl rfl (p_loadA t28 rfl rfl rfl (g_all (k := 6) rfl))) (prs_cons (prig_y rfl rfl rfl rfl (p_loadA t28 rfl rfl rfl (g_all (k := 7) rfl))) prs_nil)))) rfl rfl rfl rfl rfl rfl rfl rfl rfl rfl rfl rfl (fun _ _ => rfl) rfl (ms_call (xs := [.tmp 21, .tmp 22]) (same_spec va vp vo wa wp wo sw sa ops hl hal) cb22 [] [(false, 60), (false, 61), (false, 62), (false, 70), (false, 71), (false, 72)] [] [] rfl rfl rfl rfl rfl rfl rfl rfl (fun _ _ => rfl) (fun _ _ _ => rfl)) (fun _ _ => stg_memg [5, 6, 7, 8, 9] 10 [10, 9, 8, 6, 5, 4, 3, 2, 1, 0] [11, 12, 13] (fun _ => [(11, 30, _), (12, 31, _), (13, 4, _)]) rfl rfl (prs_cons (pri rfl (p_pick rfl rfl rfl (pick_t rfl))) (prs_cons (pri rfl (p_move rfl)) (prs_cons (prig_y rfl rfl rfl rfl (p_loadA t33 rfl rfl (by simp) (g_arr (k := 8) rfl))) (prs_cons (prig_y rfl rfl rfl rfl (p_loadA t28 rfl rfl rfl (g_all (k := 7) rfl))) (prs_cons (prig_y rfl rfl rfl rfl (p_move rfl)) prs_nil))))) rfl rfl rfl rfl rfl rfl rfl rfl rfl rfl rfl rfl (fun _ _ => rfl) rfl (ms_call (xs := [.tmp 27, .tmp 28]) (assign_spec wa wp wo ops hl5 regs) cb17 [] [(false, 72)] [] [] rfl rfl rfl rfl rfl rfl rfl rfl (fun _ _ => rfl) (fun _ _ _ => rfl)) (fun _ _ => stg_end [11, 12, 13, 7] rfl rfl (prs_cons (prig_y rfl rfl rfl rfl (p_bin rfl rfl (b_eqA Try.underlying33 t3 (by kernel_rfl)))) (prs_cons (pri rfl (p_pick rfl rfl rfl (pick_t rfl))) (prs_cons (pri rfl (p_assign rfl)) (prs_cons (prig_y rfl rfl rfl rfl (p_loadA t33 rfl rfl (by simp) (g_arr (k := 8) rfl))) prs_nil)))) rfl rfl rfl ?_)))
  refine r_cret ?_
  refine r_ret () trivial rfl (rs1 (rv_tmp rfl)) (congrArg Value.bool (by simp)) [] [] rfl rfl rfl

end Go.Proofs.Ytfdbkclbcajkiaa
