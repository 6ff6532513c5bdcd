/-
  What shapeOf and the reference's ShapeOf compute, for every code. No condition.
-/
import Derived.Test.YtfdbkclbcajkiaaProg
import Derived.Test.YtfdbkclbcajkiaaA0
import Derived.Test.YtfdbkclbcajkiaaX1
namespace Go.Proofs.Ytfdbkclbcajkiaa
set_option linter.unusedSimpArgs false
set_option linter.unusedVariables false
open Go.RowKit

set_option maxHeartbeats 4000000 in
theorem shape_any (c : Int) (w : World) :
    Calls Try.prog 40 #[.int .i64 c] w fun e w' => e = .returned (.tuple #[.agg #[.bool (shR c).d, .bool (shR c).a, .bool (shR c).b, .bool (shR c).n, .bool (shR c).leaves, .bool (shR c).stores], .bool (okR c)]) ∧ Below w.heap.size w w' := by
  go_enter Try.func40, Try.ntmps40
  go_wp2
  all_goals
    refine bodyPost_ret (v := .tuple #[.agg #[.bool (shR c).d, .bool (shR c).a, .bool (shR c).b, .bool (shR c).n, .bool (shR c).leaves, .bool (shR c).stores], .bool (okR c)]) ?_ rfl ⟨rfl, (by repeat' (first | with_reducible exact Below.refl _ _ | with_reducible refine below_alloc ?_ _ | with_reducible refine below_drew ?_ | with_reducible refine below_drewN ?_ _ | with_reducible refine below_set ?_ (by first | exact Nat.le_refl _ | (simp <;> omega)) _ | with_reducible refine below_call ?_ (by assumption)))⟩
    (try simp only [beq_iff_eq, beq_eq_false_iff_ne, ne_eq] at *)
    first
    | (exfalso; omega)
    | (unfold shR okR
       repeat (first | rw [if_pos (by omega)] | rw [if_neg (by omega)])
       simp [results, Try.results40, go_sem]
       done)
    | (unfold shR okR
       repeat (first | rw [if_pos (by omega)] | rw [if_neg (by omega)])
       simp [results, Try.results40, go_sem]
       omega)
    | (by_cases hc : c ≤ 15
       all_goals
         unfold shR okR
         repeat (first | rw [if_pos (by omega)] | rw [if_neg (by omega)])
         simp [results, Try.results40, go_sem, hc]
         try omega)

set_option maxHeartbeats 4000000 in
theorem shapeRef_any (c : Int) (w : World) :
    Calls Try.prog 21 #[.int .i64 c] w fun e w' => e = .returned (.agg #[.bool (okR c), .bool (shR c).d, .bool (shR c).a, .bool (shR c).b, .bool (shR c).n, .bool (shR c).leaves]) ∧ Below w.heap.size w w' := by
  go_enter Try.func21, Try.ntmps21
  go_wp2
  all_goals
    refine bodyPost_ret (v := .agg #[.bool (okR c), .bool (shR c).d, .bool (shR c).a, .bool (shR c).b, .bool (shR c).n, .bool (shR c).leaves]) ?_ rfl ⟨rfl, (by repeat' (first | with_reducible exact Below.refl _ _ | with_reducible refine below_alloc ?_ _ | with_reducible refine below_drew ?_ | with_reducible refine below_drewN ?_ _ | with_reducible refine below_set ?_ (by first | exact Nat.le_refl _ | (simp <;> omega)) _ | with_reducible refine below_call ?_ (by assumption)))⟩
    (try simp only [beq_iff_eq, beq_eq_false_iff_ne, ne_eq] at *)
    first
    | (exfalso; omega)
    | (unfold shR okR
       repeat (first | rw [if_pos (by omega)] | rw [if_neg (by omega)])
       simp [results, Try.results21, go_sem]
       done)
    | (unfold shR okR
       repeat (first | rw [if_pos (by omega)] | rw [if_neg (by omega)])
       simp [results, Try.results21, go_sem]
       omega)
    | (by_cases hc : c ≤ 15
       all_goals
         unfold shR okR
         repeat (first | rw [if_pos (by omega)] | rw [if_neg (by omega)])
         simp [results, Try.results21, go_sem, hc]
         try omega)

end Go.Proofs.Ytfdbkclbcajkiaa
