/-
  A copy of a block that the caller owns. No condition.
-/
import Derived.Test.YtfdbkclbcajkiaaD5
namespace Go.Proofs.Ytfdbkclbcajkiaa
set_option linter.unusedSimpArgs false
set_option linter.unusedVariables false
open Go.RowKit

set_option maxRecDepth 100000 in
theorem ownL_spec (va vp vo : SV) (sw sa : List Int) (ops : List OpR) (hl : ops.length ≤ 200) (hal : sw.length ≤ 20 ∧ sa.length ≤ 1) :
    Spec Try.prog 20 [.agg #[sv va, sv vp, sv vo]] [] [sl 1 eW (sv va) sw, sl 1 eI (sv vp) sa, sl 5 eOp (sv vo) ops] (X := (SV × SV × SV)) (fun _ => True) (fun x => .agg #[sv x.1, sv x.2.1, sv x.2.2]) (fun x => [own 45 1 eW (sv x.1) sw, own 3 1 eI (sv x.2.1) sa, own 47 5 eOp (sv x.2.2) ops]) (fun _ => []) := by
  refine r_enter Try.func20 rfl Try.ntmps20 rfl fun w0 M H => ?_
  refine r_nilown 100 (S := 45) (s := 1) (enc := eW) ?_
  refine r_nilown 101 (S := 3) (s := 1) (enc := eI) ?_
  refine r_nilown 102 (S := 47) (s := 5) (enc := eOp) ?_
  refine r_seq ?_
  refine r_region ?_
  refine r_boxA rfl rfl fun b1 => ?_
  refine r_alloc t28 rfl rfl fun b2 => ?_
  refine r_nil ?_
  refine r_seq ?_
  refine r_region ?_
  refine r_alloc t28 rfl rfl fun b3 => ?_
  refine r_nil ?_
  refine r_seq ?_
  refine r_region ?_
  refine r_p (p_field0 fo28_0 rfl) rfl ?_
  refine r_p (p_load1 t25 rfl rfl (g_row1 (k := 3) rfl rfl)) rfl ?_
  refine r_p (p_field0 fo28_0 rfl) rfl ?_
  refine r_p (p_load1 t25 rfl rfl (g_row1 (k := 1) rfl rfl)) rfl ?_
  refine r_append 100 Try.underlying25 t45 rfl (by decide) (fun _ => rfl) (fun _ => rfl) rfl rfl rfl (hs_sl (k := 0) rfl) (by first | omega | (simp; done) | (simp; omega)) (by unfold maxLen; first | omega | (simp; done) | (simp; omega)) rfl fun v8 => ?_
  refine r_p (p_field0 fo28_0 rfl) rfl ?_
  refine r_store_row (k := 3) t25 rfl rfl rfl rfl rfl rfl rfl rfl ?_
  refine r_nil ?_
  refine r_seq ?_
  refine r_region ?_
  refine r_p (p_field0 fo28_1 rfl) rfl ?_
  refine r_p (p_load1 t22 rfl rfl (g_row1 (k := 3) rfl rfl)) rfl ?_
  refine r_p (p_field0 fo28_1 rfl) rfl ?_
  refine r_p (p_load1 t22 rfl rfl (g_row1 (k := 1) rfl rfl)) rfl ?_
  refine r_append 101 Try.underlying22 t3 rfl (by decide) (fun _ => rfl) (fun _ => rfl) rfl rfl rfl (hs_sl (k := 1) rfl) (by first | omega | (simp; done) | (simp; omega)) (by unfold maxLen; first | omega | (simp; done) | (simp; omega)) rfl fun v14 => ?_
  refine r_p (p_field0 fo28_1 rfl) rfl ?_
  refine r_store_row (k := 3) t22 rfl rfl rfl rfl rfl rfl rfl rfl ?_
  refine r_nil ?_
  refine r_seq ?_
  refine r_region ?_
  refine r_p (p_field0 fo28_2 rfl) rfl ?_
  refine r_p (p_load1 t26 rfl rfl (g_row1 (k := 3) rfl rfl)) rfl ?_
  refine r_p (p_field0 fo28_2 rfl) rfl ?_
  refine r_p (p_load1 t26 rfl rfl (g_row1 (k := 1) rfl rfl)) rfl ?_
  refine r_append 102 Try.underlying26 t47 rfl (by decide) (fun _ => rfl) (fun _ => rfl) rfl rfl rfl (hs_sl (k := 2) rfl) (by first | omega | (simp; done) | (simp; omega)) (by unfold maxLen; first | omega | (simp; done) | (simp; omega)) rfl fun v20 => ?_
  refine r_p (p_field0 fo28_2 rfl) rfl ?_
  refine r_store_row (k := 3) t26 rfl rfl rfl rfl rfl rfl rfl rfl ?_
  refine r_nil ?_
  refine r_seq ?_
  refine r_region ?_
  refine r_p (p_loadA t28 rfl rfl rfl (g_all (k := 3) rfl)) rfl ?_
  refine r_store_all (k := 2) t28 rfl rfl rfl rfl rfl rfl ?_
  refine r_nil ?_
  refine r_cret ?_
  refine r_ret (v8, v14, v20) trivial rfl (rs1 (rv_cellA t28 rfl rfl rfl (g_all (k := 2) rfl))) rfl [100, 101, 102] [] rfl rfl rfl

end Go.Proofs.Ytfdbkclbcajkiaa
