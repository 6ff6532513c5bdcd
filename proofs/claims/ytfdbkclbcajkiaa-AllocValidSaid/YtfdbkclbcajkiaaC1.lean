/-
  The maker of blocks, in plain Lean: numbers taken one after the other. No condition.
-/
import Derived.Test.YtfdbkclbcajkiaaB4
import Derived.Test.YtfdbkclbcajkiaaKB
namespace Go.Proofs.Ytfdbkclbcajkiaa
set_option linter.unusedSimpArgs false
set_option linter.unusedVariables false
open Go.RowKit

theorem tmod_bd (x : Int) {n : Int} (hn : 0 < n) : -n < x.tmod n ∧ x.tmod n < n := by
  have h1 := Int.tmod_lt_of_pos x hn
  have h2 := Int.tmod_lt_of_pos (-x) hn
  rw [Int.neg_tmod] at h2
  omega
theorem tmod_emod (x n : Int) : (x.tmod n + n) % n = x % n := by
  rw [Int.add_emod_right, Int.tmod_def, Int.sub_mul_emod_self_left]
/-- The number that is taken at place k, modulo n. -/
def tk (s : List Int) (k : Nat) (n : Int) : Int := (s[k]?.getD 0) % n
theorem tk_bd (s : List Int) (k : Nat) {n : Int} (hn : 0 < n) : 0 ≤ tk s k n ∧ tk s k n < n := ⟨Int.emod_nonneg _ (by omega), Int.emod_lt_of_pos _ hn⟩
theorem u32_wr (n : Int) : 0 ≤ IntKind.u32.wrap n ∧ IntKind.u32.wrap n < 4294967296 := by
  simp [IntKind.wrap, IntKind.signed, IntKind.bits]
  omega

end Go.Proofs.Ytfdbkclbcajkiaa
