/-
  The bytes of a word. Condition: below 2^32.
-/
import Derived.Test.YtohenjmkhncoiaaYD
import Derived.Test.YtohenjmkhncoiaaY2
namespace Go.Proofs.Ytohenjmkhncoiaa
set_option linter.unusedSimpArgs false
set_option linter.unusedVariables false
open Go.RowKit

set_option maxRecDepth 100000 in
theorem put_spec (n : Int) (hn : 0 ≤ n ∧ n < 4294967296) :
    Spec Try.prog 66 [.int .u32 n, .int .i64 4] [] [] (X := Unit) (fun _ => True) (fun _ => .string (ofI (put4 n))) (fun _ => []) (fun _ => []) := by
  refine r_enter Try.func66 rfl Try.ntmps66 rfl fun w0 M H => ?_
  refine r_seq ?_
  refine r_region ?_
  refine r_p (p_assign rfl) rfl ?_
  refine r_nil ?_
  refine r_seq ?_
  refine r_region ?_
  refine r_p (p_move rfl) rfl ?_
  refine r_p (p_conv Try.underlying32 Try.underlying5 rfl (by first | exact w_u8 (by omega) (by omega) | rfl)) rfl ?_
  refine r_p (p_move rfl) rfl ?_
  refine r_p (p_bin rfl rfl (b_shr (by omega) (by first | decide | (simp [IntKind.bits]; omega)) rfl)) rfl ?_
  refine r_p (p_conv Try.underlying32 Try.underlying5 rfl (by first | exact w_u8 (by omega) (by omega) | rfl)) rfl ?_
  refine r_p (p_move rfl) rfl ?_
  refine r_p (p_bin rfl rfl (b_shr (by omega) (by first | decide | (simp [IntKind.bits]; omega)) rfl)) rfl ?_
  refine r_p (p_conv Try.underlying32 Try.underlying5 rfl (by first | exact w_u8 (by omega) (by omega) | rfl)) rfl ?_
  refine r_p (p_move rfl) rfl ?_
  refine r_p (p_bin rfl rfl (b_shr (by omega) (by first | decide | (simp [IntKind.bits]; omega)) rfl)) rfl ?_
  refine r_p (p_conv Try.underlying32 Try.underlying5 rfl (by first | exact w_u8 (by omega) (by omega) | rfl)) rfl ?_
  refine r_bslice eU8 (put4 n) (parts := [(0, .tmp 7), (1, .tmp 10), (2, .tmp 13), (3, .tmp 16)]) Try.underlying95 t5 rfl (by decide) (by intro _; rfl) rfl (by decide) (by decide) rfl rfl rfl rfl fun v17 => ?_
  refine r_p (p_assign rfl) rfl ?_
  refine r_nil ?_
  refine r_seq ?_
  refine r_region ?_
  refine r_p (p_move rfl) rfl ?_
  refine r_p (p_move rfl) rfl ?_
  refine r_p (p_min rfl rfl rfl) rfl ?_
  refine r_p (p_max rfl rfl rfl) rfl ?_
  refine r_p (p_slice_hi (j := 4) Try.underlying95 t5 rfl rfl (hs_own (k := 17) rfl) rfl (Nat.le_refl 4)) rfl ?_
  refine r_freeze 17 17 rfl own_to_sl ?_
  refine r_hi 17 18 4 rfl (Nat.le_refl 4) ?_
  refine r_p (p_b2s Try.underlying95 Try.underlying5 Try.underlying9 rfl (hs_sl (k := 18) rfl) (by simp [put4])) rfl ?_
  refine r_p (p_assign rfl) rfl ?_
  refine r_nil ?_
  refine r_cret ?_
  refine r_ret () trivial rfl (rs1 (rv_tmp rfl)) rfl [] [] rfl rfl rfl

end Go.Proofs.Ytohenjmkhncoiaa
