/-
  What Of, Fits, Sign, branch and the table of the reference compute, for every operation. No condition.
-/
import Derived.Test.YtdoanneelnelbaaW1
namespace Go.Proofs.Ytdoanneelnelbaa
set_option linter.unusedSimpArgs false
set_option linter.unusedVariables false
open Go.RowKit

set_option maxHeartbeats 2000000 in
theorem of_any (op : Int) (w : World) :
    Calls Try.prog 26 #[.int .i64 op] w fun e w' => e = .returned (.agg #[.bool (formOf op).is, .bool (formOf op).d, .bool (formOf op).a, .bool (formOf op).b, .bool (formOf op).sg, .int .i64 (formOf op).bits, .int .u32 (formOf op).most]) ∧ Below w.heap.size w w' := by
  go_enter Try.func26, Try.ntmps26
  go_wp2
  all_goals
    refine bodyPost_ret (v := .agg #[.bool (formOf op).is, .bool (formOf op).d, .bool (formOf op).a, .bool (formOf op).b, .bool (formOf op).sg, .int .i64 (formOf op).bits, .int .u32 (formOf op).most]) ?_ rfl ⟨rfl, (Below.refl _ _).alloc (Nat.le_refl _) _⟩
    (try simp only [beq_iff_eq, beq_eq_false_iff_ne, ne_eq] at *)
    first
    | (exfalso; omega)
    | (unfold formOf
       repeat (first | rw [if_pos (by omega)] | rw [if_neg (by omega)])
       simp [results, Try.results26, go_sem])


end Go.Proofs.Ytdoanneelnelbaa
