/-
  Which assignments are valid, in plain Lean. No condition.
-/
import Derived.Test.YtfdbkclbcajkiaaV5
import Derived.Test.YtfdbkclbcajkiaaD5
namespace Go.Proofs.Ytfdbkclbcajkiaa
set_option linter.unusedSimpArgs false
set_option linter.unusedVariables false
open Go.RowKit

/-- A valid assignment. -/
def ValidP (a : Nat → Int) (regs : Int) : Prop := (∀ i, i < 28 → -1 ≤ a i ∧ (0 ≤ a i → a i < regs) ∧ (i = 19 → a i = -1)) ∧ ∀ i j, i < j → j < 28 → 0 ≤ a i → a i ≠ a j
def seenB (a : Nat → Int) (k : Nat) : Nat → Bool := fun j => (List.range k).any fun i => decide (a i = (j : Int))
def spills (a : Nat → Int) (k : Nat) : List Int := ((List.range k).filter fun i => decide (28 ≤ a i)).map a
theorem spills_succ (a : Nat → Int) (k : Nat) : spills a (k + 1) = spills a k ++ (if 28 ≤ a k then [a k] else []) := by
  unfold spills
  rw [List.range_succ, List.filter_append, List.map_append]
  congr 1
  by_cases h : 28 ≤ a k <;> simp [h]
theorem spills_len (a : Nat → Int) (k : Nat) : (spills a k).length ≤ k := by
  unfold spills
  rw [List.length_map]
  exact Nat.le_trans (List.length_filter_le _ _) (by simp)
theorem seenB_iff (a : Nat → Int) (k j : Nat) : seenB a k j = true ↔ ∃ i, i < k ∧ a i = (j : Int) := by
  simp [seenB]
theorem seenB_set {a : Nat → Int} {k : Nat} {n : Nat} (h : a k = (n : Int)) : fset (vbo (seenB a k)) n (.bool true) = vbo (seenB a (k + 1)) := by
  funext i
  simp only [fset, vbo]
  by_cases e : i = n
  · rw [if_pos e, e, (seenB_iff a (k + 1) n).2 ⟨k, by omega, h⟩]
  · rw [if_neg e]
    congr 1
    unfold seenB
    rw [List.range_succ, List.any_append]
    simp
    omega
theorem seenB_same {a : Nat → Int} {k : Nat} (h : a k < 0 ∨ 28 ≤ a k) : ∀ i, i < 28 → vbo (seenB a k) i = vbo (seenB a (k + 1)) i := by
  intro i hi
  simp only [vbo]
  congr 1
  unfold seenB
  rw [List.range_succ, List.any_append]
  simp
  omega
/-- The state of the check behind k variables. -/
structure VSt (a : Nat → Int) (regs : Int) (k : Nat) : Prop where
  rng : ∀ i, i < k → -1 ≤ a i ∧ a i < max regs 0 ∧ (i = 19 → a i = -1)
  inj : ∀ i j, i < j → j < k → 0 ≤ a i → a i < 28 → a i ≠ a j
theorem VSt.zero (a : Nat → Int) (regs : Int) : VSt a regs 0 := ⟨fun i h => by omega, fun i j h h2 => by omega⟩
theorem ValidP.rng {a : Nat → Int} {regs : Int} (h : ValidP a regs) {i : Nat} (hi : i < 28) : -1 ≤ a i ∧ a i < max regs 0 ∧ (i = 19 → a i = -1) := by
  have := h.1 i hi
  refine ⟨this.1, ?_, this.2.2⟩
  rcases Int.lt_or_le (a i) 0 with h1 | h1
  · omega
  · have := this.2.1 h1
    omega

end Go.Proofs.Ytfdbkclbcajkiaa
