/-
  The shapes of operations of the middle form, in plain Lean. No condition.
-/
namespace Go.Proofs.Ytfdbkclbcajkiaa
set_option linter.unusedSimpArgs false
set_option linter.unusedVariables false

structure Sh where
  d : Bool
  a : Bool
  b : Bool
  n : Bool
  leaves : Bool
  stores : Bool

/-- The shape of an operation code. -/
def shR (c : Int) : Sh :=
  if c = 1 then ⟨true, false, false, true, false, false⟩
  else if c = 2 then ⟨true, true, false, false, false, false⟩
  else if c = 16 ∨ c = 17 then ⟨true, true, false, true, true, false⟩
  else if c = 18 ∨ c = 19 then ⟨false, true, true, true, true, true⟩
  else if c = 20 ∨ c = 24 then ⟨false, false, false, true, false, false⟩
  else if c = 21 then ⟨false, true, false, false, true, false⟩
  else if c = 22 then ⟨false, false, false, false, true, false⟩
  else if c = 23 then ⟨false, true, false, true, false, false⟩
  else if c = 25 then ⟨false, true, false, false, false, false⟩
  else if 3 ≤ c ∧ c ≤ 15 then ⟨true, true, true, false, false, false⟩
  else ⟨false, false, false, false, false, false⟩
def okR (c : Int) : Bool := decide (1 ≤ c ∧ c ≤ 25)

end Go.Proofs.Ytfdbkclbcajkiaa
