/-
  The statement EvalKeepsSaid: the law EvalKeeps answers true and turns nothing that was there. No condition.
-/
import Derived.Test.YtdcbbkpdlcojfaaRows
import Derived.Test.YtdcbbkpdlcojfaaP11a
import Derived.Test.YtdcbbkpdlcojfaaP11b
import Derived.Test.YtdcbbkpdlcojfaaP11c
import Derived.Test.YtdcbbkpdlcojfaaP11d
import Derived.Test.YtdcbbkpdlcojfaaP11e
import Derived.Test.YtdcbbkpdlcojfaaP11f
namespace Go.Proofs.Ytdcbbkpdlcojfaa
set_option linter.unusedSimpArgs false
set_option linter.unusedVariables false
open Go.ChangeShapes Go.WideShapes Go.ChangeAt Go.RowKit

theorem Try.own : ownKnob Try.prog.godebug = none := by kernel_rfl
theorem Try.laidOut : laidOutB Try.prog = true := by kernel_rfl
theorem Try.cells3 : Try.prog.cellsOf 3 = 1 := by kernel_rfl
theorem Try.cells22 : Try.prog.cellsOf 22 = 1 := by kernel_rfl

set_option maxRecDepth 100000 in
theorem evalKeeps_lifted (os : Os) (started : os.Started) (H : Type) (enc : TypeId × Value → H) :
    ReturnsInHanded {} Try.checked os 11 .any (Rows.evalKeepsSpec.pre6 enc Try.prog Try.f11 Rows.evalKeepsRow.domain false) (Rows.evalKeepsSpec.post enc Try.prog Try.f11 false true false false) := by
  refine returnsInHanded_of_change (C := Try.checked) Try.own started (by kernel_rfl) Try.func11
    (ChangeSpec.witness6 (enc := enc) (C := Try.checked) false ⟨#[], #[.slice none 0 0, .slice none 0 0, .int .u16 0], []⟩ 8 (by kernel_rfl) (by kernel_rfl) (by kernel_rfl) (by kernel_rfl)) ?_
  intro W base args ds gs before hval0 hW hcnd _
  have hval : ∀ (j : Nat) t v, Try.f11.params[j]? = some t → args[j]? = some v → Value.okWide Try.prog W .any base t v := hval0
  have hW0 := hW
  obtain ⟨pp, qq, hA0, hV, -, -, -⟩ := hW
  have hA : DataW.TrodAll enc Try.prog W 0 (fun _ => true) true Try.f11.params.toList args.toList ds pp := hA0
  obtain ⟨rfl, -⟩ := trodVars_none hV
  rw [Try.params11] at hA hval
  obtain ⟨v0, vs0, d0, ds0, p0, q0, hargs, rfl, -, h0, r0⟩ := trodAll_cons hA
  obtain ⟨v1, vs1, d1, ds1, p1, q1, rfl, rfl, -, h1, r1⟩ := trodAll_cons r0
  obtain ⟨v2, vs2, d2, ds2, p2, q2, rfl, rfl, -, h2, r2⟩ := trodAll_cons r1
  obtain ⟨rfl, rfl, -⟩ := trodAll_nil r2
  obtain rfl : args = #[v0, v1, v2] := by cases args; simp_all
  obtain ⟨x0, s0, rfl, b0, hs0⟩ := open_islW Try.underlying34 Try.underlying3 Try.cells3 (hval 0 34 v0 rfl rfl) h0
  obtain ⟨x1, s1, rfl, b1, hs1⟩ := open_uslW Try.underlying35 Try.underlying22 Try.cells22 (hval 1 35 v1 rfl rfl) h1
  obtain ⟨a2, rfl, -, -, wf2⟩ := open_int Try.underlying36 (hval 2 36 v2 rfl rfl) h2
  refine ((keeps_law x0 s0 b0 x1 s1 b1 a2 (u16_bd wf2)).law W (fun A hA => by
    simp only [List.mem_cons, List.not_mem_nil, or_false] at hA
    rcases hA with rfl | rfl
    · exact hs0
    · exact hs1)).mono fun e W' ⟨_, _, he, hb⟩ => ?_
  subst he
  exact ⟨_, rfl, law_post hW0 Try.laidOut (by kernel_rfl) rfl Try.underlying4 rfl rfl rfl rfl hb⟩

theorem EvalKeeps_holds : Rows.EvalKeepsSaid :=
  OpenClaim.holds_of_wide 11 Try.f11 rfl rfl rfl rfl rfl rfl rfl ⟨rfl, rfl, rfl, rfl, rfl⟩ rfl rfl rfl rfl rfl (by kernel_rfl) Try.func11 (by kernel_rfl)
    (of_decide_eq_true (by kernel_rfl)) (by unfold Func.isWrapper; first | (rw [if_pos (by decide +kernel)]; kernel_rfl) | (rw [if_neg (by decide +kernel)]; exact ⟨rfl, rfl⟩))
    (fun os started H enc _ => evalKeeps_lifted os started H enc)
#print axioms EvalKeeps_holds
end Go.Proofs.Ytdcbbkpdlcojfaa
