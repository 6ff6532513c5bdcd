/-
  A copy of a list of integers. Condition: at most 1000.
-/
import Derived.Test.YtfdbkclbcajkiaaV3
import Derived.Test.YtfdbkclbcajkiaaKB
namespace Go.Proofs.Ytfdbkclbcajkiaa
set_option linter.unusedSimpArgs false
set_option linter.unusedVariables false
open Go.RowKit

set_option maxRecDepth 100000 in
theorem clone_spec (v : SV) (xs : List Int) (hl : xs.length ≤ 1000) :
    Spec Try.prog 39 [sv v] [] [sl 1 eI (sv v) xs] (X := SV) (fun _ => True) (fun x => sv x) (fun x => [own 3 1 eI (sv x) xs]) (fun _ => []) := by
  refine r_enter Try.func39 rfl Try.ntmps39 rfl fun w0 M H => ?_
  refine r_factR (k := 0) rfl (fun w G h => sl_nil w G h) fun hnil => ?_
  refine r_nilown 100 (S := 3) (s := 1) (enc := eI) ?_
  refine r_seq ?_
  refine r_region ?_
  refine r_p (p_assign rfl) rfl ?_
  refine r_nil ?_
  refine r_seq ?_
  refine r_seq ?_
  refine r_region ?_
  refine r_p (p_move rfl) rfl ?_
  refine r_p (p_bin rfl rfl (b_eqnil Try.underlying22)) rfl ?_
  refine r_nil ?_
  refine r_cond rfl (fun h1 => ?_) (fun h1 => ?_)
  · (try simp only [decide_eq_true_eq, decide_eq_false_iff_not, Bool.and_eq_true, Bool.or_eq_true, Bool.and_eq_false_iff, Bool.or_eq_false_iff, Bool.not_eq_true, Bool.not_eq_false, Bool.not_eq_true', Bool.not_eq_false', Bool.not_not, bne_iff_ne, beq_iff_eq] at h1)
    have hx0 := hnil h1
    subst hx0
    refine r_seq ?_
    refine r_region ?_
    refine r_p (p_assign rfl) rfl ?_
    refine r_nil ?_
    refine r_cret ?_
    refine r_ret nilS trivial rfl (rs1 (rv_tmp rfl)) rfl [100] [] rfl rfl rfl
  · (try simp only [decide_eq_true_eq, decide_eq_false_iff_not, Bool.and_eq_true, Bool.or_eq_true, Bool.and_eq_false_iff, Bool.or_eq_false_iff, Bool.not_eq_true, Bool.not_eq_false, Bool.not_eq_true', Bool.not_eq_false', Bool.not_not, bne_iff_ne, beq_iff_eq] at h1)
    refine r_skip ?_
    refine r_seq ?_
    refine r_region ?_
    refine r_bslice0 eI Try.underlying22 t3 rfl fun v5 => ?_
    refine r_p (p_move rfl) rfl ?_
    refine r_append 5 Try.underlying22 t3 rfl (by decide) (fun _ => rfl) (fun _ => rfl) rfl rfl rfl (hs_sl (k := 0) rfl) (by first | omega | (simp; done) | (simp; omega)) (by unfold maxLen; first | omega | (simp; done) | (simp; omega)) rfl fun v7 => ?_
    refine r_p (p_assign rfl) rfl ?_
    refine r_nil ?_
    refine r_cret ?_
    refine r_ret v7 trivial rfl (rs1 (rv_tmp rfl)) rfl [5] [] rfl rfl rfl

end Go.Proofs.Ytfdbkclbcajkiaa
