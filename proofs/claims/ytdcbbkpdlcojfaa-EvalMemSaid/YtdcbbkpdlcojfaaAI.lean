/-
  A copy of a list of words. Condition: not longer than a million.
-/
import Derived.Test.YtdcbbkpdlcojfaaAD
namespace Go.Proofs.Ytdcbbkpdlcojfaa
set_option linter.unusedSimpArgs false
set_option linter.unusedVariables false
open Go.RowKit

set_option maxRecDepth 100000 in
theorem clone_spec (v : SV) (l : List Int) (hl : l.length ≤ 1000000) :
    Spec Try.prog 39 [sv v] [] [sl 1 eU (sv v) l] (X := SV) (fun _ => True) (fun u => sv u) (fun u => [own 22 1 eU (sv u) l]) (fun _ => []) := by
  refine r_enter Try.func39 rfl Try.ntmps39 rfl fun w0 M H => ?_
  refine r_seq ?_
  refine r_region ?_
  refine r_p (p_assign rfl) rfl ?_
  refine r_nil ?_
  refine r_seq ?_
  refine r_seq ?_
  refine r_region ?_
  refine r_p (p_move rfl) rfl ?_
  refine r_p (p_bin rfl rfl (b_eqnil Try.underlying35)) rfl ?_
  refine r_nil ?_
  refine r_cond rfl (fun h1 => ?_) (fun h1 => ?_)
  · refine r_factR (k := 0) rfl sl_nil fun hz => ?_
    have hl0 := hz h1
    subst hl0
    refine r_nilown 9 (α := Int) (S := 22) (s := 1) (enc := eU) ?_
    refine r_seq ?_
    refine r_region ?_
    refine r_p (p_assign rfl) rfl ?_
    refine r_nil ?_
    refine r_cret ?_
    refine r_ret nilS trivial rfl (rs1 (rv_tmp rfl)) rfl [9] [] rfl rfl rfl
  · refine r_skip ?_
    refine r_seq ?_
    refine r_region ?_
    refine r_bslice0 eU Try.underlying35 t22 rfl fun v5 => ?_
    refine r_p (p_move rfl) rfl ?_
    refine r_append 5 Try.underlying35 t22 rfl (by decide) (fun _ => rfl) (fun _ => rfl) rfl rfl rfl (hs_sl (k := 0) rfl) (by rw [List.length_nil]; omega) (by unfold maxLen; rw [List.length_nil]; omega) rfl fun v7 => ?_
    refine r_p (p_assign rfl) rfl ?_
    refine r_nil ?_
    refine r_cret ?_
    refine r_ret v7 trivial rfl (rs1 (rv_tmp rfl)) rfl [5] [] rfl rfl rfl

end Go.Proofs.Ytdcbbkpdlcojfaa
