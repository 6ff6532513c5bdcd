/-
  A block of the laws. No condition.
-/
import Derived.Test.YtfdbkclbcajkiaaD7
namespace Go.Proofs.Ytfdbkclbcajkiaa
set_option linter.unusedSimpArgs false
set_option linter.unusedVariables false
open Go.RowKit

set_option maxRecDepth 100000 in
theorem block_spec (vs : SV) (s : List Int) (f : Nat → Int) :
    Spec Try.prog 14 [sv vs, .agg ((List.range 3).map (vi f)).toArray] [] [sl 1 eI (sv vs) s] (X := (SV × SV × SV × List OpR)) (fun x => x.2.2.2.length ≤ 201) (fun x => .agg #[sv x.1, sv x.2.1, sv x.2.2.1]) (fun _ => []) (fun x => [sl 5 eOp (sv x.2.2.1) x.2.2.2]) := by
  refine r_enter Try.func14 rfl Try.ntmps14 rfl fun w0 M H => ?_
  refine r_seq ?_
  refine r_region ?_
  refine r_box_arr rfl rfl fun b3 => ?_
  refine r_alloc t28 rfl rfl fun b4 => ?_
  refine r_nil ?_
  refine r_seq ?_
  refine r_region ?_
  refine r_p (p_move rfl) rfl ?_
  refine r_call (xs := [.tmp 6]) (made_spec vs s) cb19 [] [(false, 0)] [] [60, 61, 62] rfl rfl rfl rfl rfl rfl rfl rfl (fun _ _ => rfl) (fun _ _ _ => rfl) rfl (fun ⟨va, vp, vo, sw, sa, ops⟩ hx14 => ?_)
  obtain ⟨hl, hal⟩ := hx14
  dsimp only at hl hal
  have hl5 : ops.length ≤ 100000 := by omega
  have hub := uses_bd ops hl5
  dsimp only
  refine r_alloc t28 rfl rfl fun b5 => ?_
  refine r_store_all (k := 5) t28 rfl rfl rfl rfl rfl rfl ?_
  refine r_nil ?_
  refine r_seq ?_
  refine r_seq ?_
  refine r_region ?_
  refine r_p (p_idx_arr1 (j := 0) Try.underlying23 t3 rfl rfl (by first | rfl | omega) (by first | omega | (simp; done) | (simp; omega))) rfl ?_
  refine r_p (p_load1 t3 rfl rfl (g_arr1 (k := 3) rfl (by omega))) rfl ?_
  refine r_p (p_bin rfl rfl b_lt) rfl ?_
  refine r_nil ?_
  refine r_cond rfl (fun h1 => ?_) (fun h1 => ?_)
  · (try simp only [decide_eq_true_eq, decide_eq_false_iff_not, Bool.and_eq_true, Bool.or_eq_true, Bool.and_eq_false_iff, Bool.or_eq_false_iff, Bool.not_eq_true, Bool.not_eq_false, Bool.not_eq_true', Bool.not_eq_false', Bool.not_not, bne_iff_ne, beq_iff_eq] at h1)
    refine r_seq ?_
    refine r_region ?_
    refine r_p (p_loadA t28 rfl rfl rfl (g_all (k := 5) rfl)) rfl ?_
    refine r_store_all (k := 4) t28 rfl rfl rfl rfl rfl rfl ?_
    refine r_nil ?_
    refine r_cret ?_
    refine r_ret (va, vp, vo, ops) (show ops.length ≤ 201 by omega) rfl (rs1 (rv_cellA t28 rfl rfl rfl (g_all (k := 4) rfl))) rfl [] [62] rfl rfl rfl
  · (try simp only [decide_eq_true_eq, decide_eq_false_iff_not, Bool.and_eq_true, Bool.or_eq_true, Bool.and_eq_false_iff, Bool.or_eq_false_iff, Bool.not_eq_true, Bool.not_eq_false, Bool.not_eq_true', Bool.not_eq_false', Bool.not_not, bne_iff_ne, beq_iff_eq] at h1)
    refine r_skip ?_
    refine r_seq ?_
    refine r_region ?_
    refine r_p (p_loadA t28 rfl rfl rfl (g_all (k := 5) rfl)) rfl ?_
    refine r_p (p_loadA t23 rfl rfl (by simp) (g_arr (k := 3) rfl)) rfl ?_
    refine r_call (xs := [.tmp 12, .tmp 13]) (turned_spec va vp vo sw sa ops hl hal f) cb26 [] [(false, 60), (false, 61), (false, 62)] [] [63] rfl rfl rfl rfl rfl rfl rfl rfl (fun _ _ => rfl) (fun _ _ _ => rfl) rfl (fun ⟨ua, up, uo, ops2⟩ hl2 => ?_)
    dsimp only at hl2 ⊢
    refine r_store_all (k := 4) t28 rfl rfl rfl rfl rfl rfl ?_
    refine r_nil ?_
    refine r_cret ?_
    refine r_ret (ua, up, uo, ops2) hl2 rfl (rs1 (rv_cellA t28 rfl rfl rfl (g_all (k := 4) rfl))) rfl [] [63] rfl rfl rfl

end Go.Proofs.Ytfdbkclbcajkiaa
