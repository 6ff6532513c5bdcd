/-
  The statement EvalUnrollSaid: the law EvalUnroll answers true and turns nothing that was there. No condition.
-/
import Derived.Test.YtdcbbkpdlcojfaaGreatRows
import Derived.Test.YtdcbbkpdlcojfaaGreatP5a
import Derived.Test.YtdcbbkpdlcojfaaGreatP5b
import Derived.Test.YtdcbbkpdlcojfaaGreatP5c
import Derived.Test.YtdcbbkpdlcojfaaGreatP5d
import Derived.Test.YtdcbbkpdlcojfaaGreatP5e
namespace Go.Proofs.YtdcbbkpdlcojfaaGreat
set_option linter.unusedSimpArgs false
set_option linter.unusedVariables false
open Go.ChangeShapes Go.WideShapes Go.ChangeAt Go.RowKit

theorem Tryz.own : ownKnob Tryz.prog.godebug = none := by kernel_rfl
theorem Tryz.laidOut : laidOutB Tryz.prog = true := by kernel_rfl
theorem Tryz.cells3 : Tryz.prog.cellsOf 3 = 1 := by kernel_rfl
theorem Tryz.cells36 : Tryz.prog.cellsOf 36 = 1 := by kernel_rfl

set_option maxRecDepth 100000 in
theorem evalUnroll_lifted (os : Os) (started : os.Started) (H : Type) (enc : TypeId × Value → H) :
    ReturnsInHanded {} Tryz.checked os 5 .any (Rows.evalUnrollSpec.pre6 enc Tryz.prog Tryz.f5 Rows.evalUnrollRow.domain false) (Rows.evalUnrollSpec.post enc Tryz.prog Tryz.f5 false true false false) := by
  refine returnsInHanded_of_change (C := Tryz.checked) Tryz.own started (by kernel_rfl) Tryz.func5
    (ChangeSpec.witness6 (enc := enc) (C := Tryz.checked) false ⟨#[], #[.slice none 0 0, .slice none 0 0], []⟩ 8 (by kernel_rfl) (by kernel_rfl) (by kernel_rfl) (by kernel_rfl)) ?_
  intro W base args ds gs before hval0 hW hcnd _
  have hval : ∀ (j : Nat) t v, Tryz.f5.params[j]? = some t → args[j]? = some v → Value.okWide Tryz.prog W .any base t v := hval0
  have hW0 := hW
  obtain ⟨pp, qq, hA0, hV, -, -, -⟩ := hW
  have hA : DataW.TrodAll enc Tryz.prog W 0 (fun _ => true) true Tryz.f5.params.toList args.toList ds pp := hA0
  obtain ⟨rfl, -⟩ := trodVars_none hV
  rw [Tryz.params5] at hA hval
  obtain ⟨v0, vs0, d0, ds0, p0, q0, hargs, rfl, -, h0, r0⟩ := trodAll_cons hA
  obtain ⟨v1, vs1, d1, ds1, p1, q1, rfl, rfl, -, h1, r1⟩ := trodAll_cons r0
  obtain ⟨rfl, rfl, -⟩ := trodAll_nil r1
  obtain rfl : args = #[v0, v1] := by cases args; simp_all
  obtain ⟨x0, s0, rfl, b0, hs0⟩ := open_islW Tryz.underlying22 Tryz.underlying3 Tryz.cells3 (hval 0 22 v0 rfl rfl) h0
  obtain ⟨x1, s1, rfl, b1, hs1⟩ := open_uslW Tryz.underlying23 Tryz.underlying36 Tryz.cells36 (hval 1 23 v1 rfl rfl) h1
  refine ((unroll_law x0 s0 b0 x1 s1 b1).law W (fun A hA => by
    simp only [List.mem_cons, List.not_mem_nil, or_false] at hA
    rcases hA with rfl | rfl
    · exact hs0
    · exact hs1)).mono fun e W' ⟨_, _, he, hb⟩ => ?_
  subst he
  exact ⟨_, rfl, law_post hW0 Tryz.laidOut (by kernel_rfl) rfl Tryz.underlying4 rfl rfl rfl rfl hb⟩

theorem EvalUnroll_holds : Rows.EvalUnrollSaid :=
  OpenClaim.holds_of_wide 5 Tryz.f5 rfl rfl rfl rfl rfl rfl rfl ⟨rfl, rfl, rfl, rfl, rfl⟩ rfl rfl rfl rfl rfl (by kernel_rfl) Tryz.func5 (by kernel_rfl)
    (of_decide_eq_true (by kernel_rfl)) (by unfold Func.isWrapper; first | (rw [if_pos (by decide +kernel)]; kernel_rfl) | (rw [if_neg (by decide +kernel)]; exact ⟨rfl, rfl⟩))
    (fun os started H enc _ => evalUnroll_lifted os started H enc)
#print axioms EvalUnroll_holds
end Go.Proofs.YtdcbbkpdlcojfaaGreat
