/-
  The statement EvalConstantsSaid: the law EvalConstants answers true and turns nothing that was there. No condition.
-/
import Derived.Test.YtdcbbkpdlcojfaaGreatRows
import Derived.Test.YtdcbbkpdlcojfaaGreatP6a
import Derived.Test.YtdcbbkpdlcojfaaGreatP6b
import Derived.Test.YtdcbbkpdlcojfaaGreatP6c
import Derived.Test.YtdcbbkpdlcojfaaGreatP6d
import Derived.Test.YtdcbbkpdlcojfaaGreatP6e
namespace Go.Proofs.YtdcbbkpdlcojfaaGreat
set_option linter.unusedSimpArgs false
set_option linter.unusedVariables false
open Go.ChangeShapes Go.WideShapes Go.ChangeAt Go.RowKit

theorem Tryz.own : ownKnob Tryz.prog.godebug = none := by kernel_rfl
theorem Tryz.laidOut : laidOutB Tryz.prog = true := by kernel_rfl
theorem Tryz.cells3 : Tryz.prog.cellsOf 3 = 1 := by kernel_rfl

set_option maxRecDepth 100000 in
theorem evalConstants_lifted (os : Os) (started : os.Started) (H : Type) (enc : TypeId × Value → H) :
    ReturnsInHanded {} Tryz.checked os 6 .any (Rows.evalConstantsSpec.pre6 enc Tryz.prog Tryz.f6 Rows.evalConstantsRow.domain false) (Rows.evalConstantsSpec.post enc Tryz.prog Tryz.f6 false true false false) := by
  refine returnsInHanded_of_change (C := Tryz.checked) Tryz.own started (by kernel_rfl) Tryz.func6
    (ChangeSpec.witness6 (enc := enc) (C := Tryz.checked) false ⟨#[], #[.slice none 0 0, .int .u8 0], []⟩ 8 (by kernel_rfl) (by kernel_rfl) (by kernel_rfl) (by kernel_rfl)) ?_
  intro W base args ds gs before hval0 hW hcnd _
  have hval : ∀ (j : Nat) t v, Tryz.f6.params[j]? = some t → args[j]? = some v → Value.okWide Tryz.prog W .any base t v := hval0
  have hW0 := hW
  obtain ⟨pp, qq, hA0, hV, -, -, -⟩ := hW
  have hA : DataW.TrodAll enc Tryz.prog W 0 (fun _ => true) true Tryz.f6.params.toList args.toList ds pp := hA0
  obtain ⟨rfl, -⟩ := trodVars_none hV
  rw [Tryz.params6] at hA hval
  obtain ⟨v0, vs0, d0, ds0, p0, q0, hargs, rfl, -, h0, r0⟩ := trodAll_cons hA
  obtain ⟨v1, vs1, d1, ds1, p1, q1, rfl, rfl, -, h1, r1⟩ := trodAll_cons r0
  obtain ⟨rfl, rfl, -⟩ := trodAll_nil r1
  obtain rfl : args = #[v0, v1] := by cases args; simp_all
  obtain ⟨x0, s0, rfl, b0, hs0⟩ := open_islW Tryz.underlying22 Tryz.underlying3 Tryz.cells3 (hval 0 22 v0 rfl rfl) h0
  obtain ⟨a1, rfl, -, -, wf1⟩ := open_int Tryz.underlying5 (hval 1 5 v1 rfl rfl) h1
  refine ((constants_law x0 s0 b0 a1 (u8_bd wf1)).law W (fun A hA => by
    rcases List.mem_singleton.1 hA with rfl
    exact hs0)).mono fun e W' ⟨_, _, he, hb⟩ => ?_
  subst he
  exact ⟨_, rfl, law_post hW0 Tryz.laidOut (by kernel_rfl) rfl Tryz.underlying4 rfl rfl rfl rfl hb⟩

theorem EvalConstants_holds : Rows.EvalConstantsSaid :=
  OpenClaim.holds_of_wide 6 Tryz.f6 rfl rfl rfl rfl rfl rfl rfl ⟨rfl, rfl, rfl, rfl, rfl⟩ rfl rfl rfl rfl rfl (by kernel_rfl) Tryz.func6 (by kernel_rfl)
    (of_decide_eq_true (by kernel_rfl)) (by unfold Func.isWrapper; first | (rw [if_pos (by decide +kernel)]; kernel_rfl) | (rw [if_neg (by decide +kernel)]; exact ⟨rfl, rfl⟩))
    (fun os started H enc _ => evalConstants_lifted os started H enc)
#print axioms EvalConstants_holds
end Go.Proofs.YtdcbbkpdlcojfaaGreat
