/-
  The opening of a list of pairs. No condition.
-/
import Derived.Test.YtdcbbkpdlcojfaaOJ
import Derived.Test.YtdcbbkpdlcojfaaL10
namespace Go.Proofs.Ytdcbbkpdlcojfaa
set_option linter.unusedSimpArgs false
set_option linter.unusedVariables false
open Go.ChangeShapes Go.WideShapes Go.ChangeAt Go.RowKit
section
variable {H : Type} {enc : TypeId × Value → H}
theorem one_of {α : Type} {cs : List α} {o : Nat} {x : α} (h : (cs.drop o).take 1 = [x]) : cs[o]? = some x := by
  have := congrArg (fun l => l[0]?) h
  simpa [List.getElem?_take, List.getElem?_drop] using this
theorem open_p2 {P : Program} {t u : TypeId} (ht : P.underlying t = some (.array 2 u)) (hu : P.underlying u = some (.int .u32)) (cu : P.cellsOf u = 1) (ct : P.cellsOf t = 2) {W : World} {base : Nat} {held : Bool} : ∀ n cs y, DataW.trod enc P W base (fun _ => true) held n t cs = some y → ∃ q : Int × Int, (oW q.1 ∧ oW q.2) ∧ cs = eP2 q := fun n cs y hf => by
  obtain ⟨ys, m, -, -, hlen, hyl, hel⟩ := DataW.trod_array ht hf
  rw [ct] at hlen
  have f0 := hel 0 (by omega)
  have f1 := hel 1 (by omega)
  rw [cu, List.getElem?_eq_getElem (by omega)] at f0 f1
  obtain ⟨a, ha, -, wa⟩ := DataW.trod_int hu f0
  obtain ⟨b, hb, -, wb⟩ := DataW.trod_int hu f1
  refine ⟨(a, b), ⟨u32_bd wa, u32_bd wb⟩, ?_⟩
  have e0 : cs[0]? = some (.int .u32 a) := one_of (o := 0) (by rw [Nat.zero_mul] at ha; exact ha)
  have e1 : cs[1]? = some (.int .u32 b) := one_of (o := 1) (by rw [Nat.one_mul] at hb; exact hb)
  match cs, hlen with
  | [x, y], _ =>
    simp at e0 e1
    rw [e0, e1]
    rfl
end
end Go.Proofs.Ytdcbbkpdlcojfaa
