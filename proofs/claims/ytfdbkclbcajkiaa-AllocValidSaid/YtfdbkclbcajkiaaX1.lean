/-
  More small lemmas: rows of the call's own behind a call.
-/
import Derived.Test.YtfdbkclbcajkiaaX0
namespace Go.Proofs.Ytfdbkclbcajkiaa
set_option linter.unusedSimpArgs false
set_option linter.unusedVariables false
open Go.RowKit

theorem below_grown {a w : World} (h : Below a.heap.size a w) (row : Option Nat) : a.grownBy w row := ⟨h.os, h.tape, h.output, h.size, fun i hi _ => h.block i hi⟩
theorem owns_below {w w' : World} {base : Nat} {e : TypeId} {size : Nat} {v : Value} {n : Nat} {xs : List Value} (h : w.ownsRow base e size v n xs) (hb : Below w.heap.size w w') : w'.ownsRow base e size v n xs :=
  h.kept (below_grown hb none) (by cases v.ownBlock <;> simp)
theorem below_app {a w w' : World} {base : Nat} {e : TypeId} {size : Nat} {v : Value} {n : Nat} {xs : List Value} (h : Below a.heap.size a w) (hown : w.ownsRow base e size v n xs) (hg : w.grownBy w' v.ownBlock) (hbase : a.heap.size ≤ base) : Below a.heap.size a w' :=
  h.grown hg h.size (fun k hk => Nat.le_trans hbase (hown.lt k hk).1)

end Go.Proofs.Ytfdbkclbcajkiaa
