/-
  The statement EvalCallsSaid: the law EvalCalls answers true and turns nothing that was there. No condition.
-/
import Derived.Test.YtdcbbkpdlcojfaaGreatRows
import Derived.Test.YtdcbbkpdlcojfaaGreatP7a
import Derived.Test.YtdcbbkpdlcojfaaGreatP7b
import Derived.Test.YtdcbbkpdlcojfaaGreatP7c
import Derived.Test.YtdcbbkpdlcojfaaGreatP7d
import Derived.Test.YtdcbbkpdlcojfaaGreatP7e
namespace Go.Proofs.YtdcbbkpdlcojfaaGreat
set_option linter.unusedSimpArgs false
set_option linter.unusedVariables false
open Go.ChangeShapes Go.WideShapes Go.ChangeAt Go.RowKit

theorem Tryz.own : ownKnob Tryz.prog.godebug = none := by kernel_rfl
theorem Tryz.laidOut : laidOutB Tryz.prog = true := by kernel_rfl
theorem Tryz.cells3 : Tryz.prog.cellsOf 3 = 1 := by kernel_rfl

set_option maxRecDepth 100000 in
theorem evalCalls_lifted (os : Os) (started : os.Started) (H : Type) (enc : TypeId × Value → H) :
    ReturnsInHanded {} Tryz.checked os 7 .any (Rows.evalCallsSpec.pre6 enc Tryz.prog Tryz.f7 Rows.evalCallsRow.domain false) (Rows.evalCallsSpec.post enc Tryz.prog Tryz.f7 false true false false) := by
  refine returnsInHanded_of_change (C := Tryz.checked) Tryz.own started (by kernel_rfl) Tryz.func7
    (ChangeSpec.witness6 (enc := enc) (C := Tryz.checked) false ⟨#[], #[.slice none 0 0, .int .u32 0, .int .u32 0], []⟩ 8 (by kernel_rfl) (by kernel_rfl) (by kernel_rfl) (by kernel_rfl)) ?_
  intro W base args ds gs before hval0 hW hcnd _
  have hval : ∀ (j : Nat) t v, Tryz.f7.params[j]? = some t → args[j]? = some v → Value.okWide Tryz.prog W .any base t v := hval0
  have hW0 := hW
  obtain ⟨pp, qq, hA0, hV, -, -, -⟩ := hW
  have hA : DataW.TrodAll enc Tryz.prog W 0 (fun _ => true) true Tryz.f7.params.toList args.toList ds pp := hA0
  obtain ⟨rfl, -⟩ := trodVars_none hV
  rw [Tryz.params7] at hA hval
  obtain ⟨v0, vs0, d0, ds0, p0, q0, hargs, rfl, -, h0, r0⟩ := trodAll_cons hA
  obtain ⟨v1, vs1, d1, ds1, p1, q1, rfl, rfl, -, h1, r1⟩ := trodAll_cons r0
  obtain ⟨v2, vs2, d2, ds2, p2, q2, rfl, rfl, -, h2, r2⟩ := trodAll_cons r1
  obtain ⟨rfl, rfl, -⟩ := trodAll_nil r2
  obtain rfl : args = #[v0, v1, v2] := by cases args; simp_all
  obtain ⟨x0, s0, rfl, b0, hs0⟩ := open_islW Tryz.underlying22 Tryz.underlying3 Tryz.cells3 (hval 0 22 v0 rfl rfl) h0
  obtain ⟨a1, rfl, -, -, wf1⟩ := open_int Tryz.underlying36 (hval 1 36 v1 rfl rfl) h1
  obtain ⟨a2, rfl, -, -, wf2⟩ := open_int Tryz.underlying36 (hval 2 36 v2 rfl rfl) h2
  refine ((calls_law x0 s0 b0 a1 (u32_bd wf1) a2 (u32_bd wf2)).law W (fun A hA => by
    rcases List.mem_singleton.1 hA with rfl
    exact hs0)).mono fun e W' ⟨_, _, he, hb⟩ => ?_
  subst he
  exact ⟨_, rfl, law_post hW0 Tryz.laidOut (by kernel_rfl) rfl Tryz.underlying4 rfl rfl rfl rfl hb⟩

theorem EvalCalls_holds : Rows.EvalCallsSaid :=
  OpenClaim.holds_of_wide 7 Tryz.f7 rfl rfl rfl rfl rfl rfl rfl ⟨rfl, rfl, rfl, rfl, rfl⟩ rfl rfl rfl rfl rfl (by kernel_rfl) Tryz.func7 (by kernel_rfl)
    (of_decide_eq_true (by kernel_rfl)) (by unfold Func.isWrapper; first | (rw [if_pos (by decide +kernel)]; kernel_rfl) | (rw [if_neg (by decide +kernel)]; exact ⟨rfl, rfl⟩))
    (fun os started H enc _ => evalCalls_lifted os started H enc)
#print axioms EvalCalls_holds
end Go.Proofs.YtdcbbkpdlcojfaaGreat
