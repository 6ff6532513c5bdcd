/-
  Plain laws of the instructions that numbers determine: they are valid. No condition.
-/
import Derived.Test.YtdoanneelnelbaaV1
import Derived.Test.YtdoanneelnelbaaQ
namespace Go.Proofs.Ytdoanneelnelbaa
set_option linter.unusedSimpArgs false
set_option linter.unusedVariables false

theorem fitsR_mod (n : Int) : fitsR (n % 16) true = true := (fitsR_iff _ _).2 (by by_cases h : n % 16 = 0; exact .inl h; exact .inr ⟨rfl, by omega, by omega⟩)
theorem fitsR_zero (b : Bool) : fitsR 0 b = true := rfl

theorem made_valid (n0 n1 n2 n3 n4 : Int) : validR (madeR n0 n1 n2 n3 n4) = true := by
  show validF (formOf (madeOp n0)) (madeR n0 n1 n2 n3 n4) = true
  unfold madeR
  rcases formOf_cases (madeOp n0) with h | h | h | h | h | h | h | h | h | h | h
  all_goals
    rw [h]
    simp only [validF, immR, if_true, Bool.false_eq_true, if_false, fitsR_mod, fitsR_zero, Bool.true_and, pw_0, pw_18, pw_22, sgn, Int.reduceEq, Int.reduceLT, beq_iff_eq, decide_eq_true_eq, Int.reduceAdd]
  all_goals first
    | omega
    | (repeat' split) <;> omega
    | (have := madeOp_is n0; rw [h] at this; cases this)

end Go.Proofs.Ytdoanneelnelbaa
