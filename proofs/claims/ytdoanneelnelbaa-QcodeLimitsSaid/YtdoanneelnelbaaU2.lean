/-
  What Valid computes. Condition: the immediate is a word.
-/
import Derived.Test.YtdoanneelnelbaaU1
namespace Go.Proofs.Ytdoanneelnelbaa
set_option linter.unusedSimpArgs false
set_option linter.unusedVariables false
open Go.RowKit

set_option maxHeartbeats 1000000 in
theorem valid_any (i : QI) (w : World) (hn : 0 ≤ i.imm) (hn2 : i.imm < 4294967296) :
    Calls Try.prog 19 #[.agg #[.int .i64 i.op, .int .i64 i.d, .int .i64 i.a, .int .i64 i.b, .int .u32 i.imm]] w fun e w' => e = .returned (.bool (validR i)) ∧ Below w.heap.size w w' := by
  obtain ⟨op, d, a, b, imm⟩ := i
  simp only at *
  go_enter Try.func19, Try.ntmps19
  go_wp2_with fail
  refine (ofS_any _ _).mono ?_
  rintro e w1 ⟨rfl, hb1⟩
  obtain ⟨hc, hfz⟩ := bcell hb1
  have hz := grew hb1
  have hfine := formOf_fine op
  generalize hf : formOf op = f at *
  have Hf := Lib.hid hf
  clear hf
  by_cases h1 : f.is = true
  · go_wp2_with (first | (go_at_call 35; (with_reducible refine (fits_any _ _ _).mono ?_); rintro e w' ⟨rfl, rfl⟩) | (go_at_call 36; (with_reducible refine (immediate_v f hfine _ _ _ _ _ _ hn hn2).mono ?_); rintro e w2 ⟨rfl, hb2⟩))
    all_goals
      go_ret
      exact ⟨ret_bool (by simp_all [validR, validF, Hf.out]), (by repeat' (first | with_reducible exact Below.refl _ _ | with_reducible refine below_alloc ?_ _ | with_reducible refine below_drew ?_ | with_reducible refine below_drewN ?_ _ | with_reducible refine below_set ?_ (by first | exact Nat.le_refl _ | (simp <;> omega)) _ | with_reducible refine below_call ?_ (by assumption)))⟩
  · go_wp2_with fail
    all_goals
      go_ret
      exact ⟨ret_bool (by simp_all [validR, validF, Hf.out]), (by repeat' (first | with_reducible exact Below.refl _ _ | with_reducible refine below_alloc ?_ _ | with_reducible refine below_drew ?_ | with_reducible refine below_drewN ?_ _ | with_reducible refine below_set ?_ (by first | exact Nat.le_refl _ | (simp <;> omega)) _ | with_reducible refine below_call ?_ (by assumption)))⟩

end Go.Proofs.Ytdoanneelnelbaa
