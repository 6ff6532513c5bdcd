/-
  More small lemmas: a cell behind a store, with no premise.
-/
import Derived.Test.YtfdbkclbcajkiaaW0
namespace Go.Proofs.Ytfdbkclbcajkiaa
set_option linter.unusedSimpArgs false
set_option linter.unusedVariables false
open Go.RowKit

/-- A cell behind a store, without a premise. -/
theorem cell_set (w : World) (p q : Addr) (v : Value) : (w.setCell p v).cell? q = if p = q then (w.cell? q).map (fun _ => v) else w.cell? q := by
  by_cases h : p = q
  · subst h
    rw [if_pos rfl]
    cases hc : w.cell? p with
    | some u => rw [World.cell?_setCell_same _ _ _ hc]; rfl
    | none =>
      rw [Option.map_none]
      unfold World.cell? World.setCell at *
      simp only [Array.getElem?_modify, if_true]
      cases hb : w.heap[p.block]? with
      | none => simp
      | some o =>
        rw [hb] at hc
        cases o with
        | cells c t f =>
          simp only [Option.map_some] at hc ⊢
          by_cases hs : p.spot.isSome = true
          · simp [hs]
          · simp only [hs] at hc ⊢
            simp only [Bool.false_eq_true, if_false] at hc ⊢
            rw [Array.getElem?_eq_none_iff] at hc ⊢
            simpa using hc
        | _ => rfl
  · rw [if_neg h, World.cell?_setCell_other _ _ _ _ h]

end Go.Proofs.Ytfdbkclbcajkiaa
