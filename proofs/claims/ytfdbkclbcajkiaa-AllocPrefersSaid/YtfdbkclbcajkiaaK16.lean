/-
  In a drawn region, an operation whose guard was itself not done. No condition.
-/
import Derived.Test.YtfdbkclbcajkiaaK12
namespace Go.Proofs.Ytfdbkclbcajkiaa
set_option linter.unusedSimpArgs false
set_option linter.unusedVariables false
open Go.RowKit

section
variable {P : Program} {N : Nat} {w0 : World} {M H : Nat → Prop} {E : Env} {Γ R : Ctx}
theorem EOk.yield_u {a : Act} (h : EOk N E a) {l : List Oper} {i t : Nat} (hi : gslot l i = some t) (ht : eget E t = some undef) : yielded l.toArray a.tmps i = none := by
  unfold yielded
  have : (l.toArray[i]?).bind (·.dst) = some t := by simpa [gslot] using hi
  rw [this]
  simp [h.slot t _ ht, undef]
theorem prig_u {l : List Oper} {V : Vals} {i d gi t : Nat} {c : Bool} {op : Op} {T : TypeId} {ps : String} {af : Array Edge} (ho : l[i]? = some ⟨some d, op, T, ps, af, some (gi, c)⟩) (hi : gslot l gi = some t) (ht : eget (vpre (preds ⟨some d, op, T, ps, af, some (gi, c)⟩) V ++ E) t = some undef) :
    PRi P N w0 M H E Γ R l V i d undef :=
  ⟨_, ho, rfl, fun a w hE hC => .inr ⟨by simp [Region.wanted, hE.yield_u hi ht], rfl⟩⟩
end
end Go.Proofs.Ytfdbkclbcajkiaa
