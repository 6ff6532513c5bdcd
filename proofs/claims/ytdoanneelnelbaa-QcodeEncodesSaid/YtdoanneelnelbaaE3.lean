import Derived.Test.YtdoanneelnelbaaRows
import Derived.Test.YtdoanneelnelbaaG
import Derived.Test.YtdoanneelnelbaaL3
namespace Go.Proofs.Ytdoanneelnelbaa
set_option linter.unusedSimpArgs false
set_option linter.unusedVariables false
open Go.ChangeShapes Go.WideShapes Go.ChangeAt Go.RowKit

theorem Try.own : ownKnob Try.prog.godebug = none := by kernel_rfl
theorem Try.laidOut : laidOutB Try.prog = true := by kernel_rfl
theorem Try.cells3 : Try.prog.cellsOf 3 = 1 := by kernel_rfl
theorem Try.cells22 : Try.prog.cellsOf 22 = 4 := by kernel_rfl
theorem Try.cells24 : Try.prog.cellsOf 24 = 6 := by kernel_rfl

set_option maxRecDepth 100000 in
theorem encodes_lifted (os : Os) (started : os.Started) (H : Type) (enc : TypeId × Value → H) :
    ReturnsInHanded {} Try.checked os 3 .any (Rows.qcodeEncodesSpec.pre6 enc Try.prog Try.f3 Rows.qcodeEncodesRow.domain false) (Rows.qcodeEncodesSpec.post enc Try.prog Try.f3 false true false false) := by
  refine returnsInHanded_of_change (C := Try.checked) Try.own started (by kernel_rfl) Try.func3
    (ChangeSpec.witness6 (enc := enc) (C := Try.checked) false ⟨#[], #[.agg #[.int .i64 0, .int .i64 0, .int .i64 0, .int .i64 0], .int .u32 0, .agg #[.int .i64 0, .int .i64 0, .int .i64 0, .int .i64 0, .int .i64 0, .int .i64 0]], []⟩ 8 (by kernel_rfl) (by kernel_rfl) (by kernel_rfl) (by kernel_rfl)) ?_
  intro W base args ds gs before hval0 hW hcnd _
  have hval : ∀ (j : Nat) t v, Try.f3.params[j]? = some t → args[j]? = some v → Value.okWide Try.prog W .any base t v := hval0
  have hW0 := hW
  obtain ⟨pp, qq, hA0, hV, -, -, -⟩ := hW
  have hA : DataW.TrodAll enc Try.prog W 0 (fun _ => true) true Try.f3.params.toList args.toList ds pp := hA0
  obtain ⟨rfl, -⟩ := trodVars_none hV
  rw [Try.params3] at hA hval
  obtain ⟨v0, vs0, d0, ds0, p0, q0, hargs, rfl, -, h0, r0⟩ := trodAll_cons hA
  obtain ⟨v1, vs1, d1, ds1, p1, q1, rfl, rfl, -, h1, r1⟩ := trodAll_cons r0
  obtain ⟨v2, vs2, d2, ds2, p2, q2, rfl, rfl, -, h2, r2⟩ := trodAll_cons r1
  obtain ⟨rfl, rfl, -⟩ := trodAll_nil r2
  obtain rfl : args = #[v0, v1, v2] := by cases args; simp_all
  obtain ⟨xs, hx, rfl, -⟩ := open_iarr Try.underlying22 Try.underlying3 Try.cells3 Try.cells22 (hval 0 22 v0 rfl rfl) h0
  obtain ⟨f0, f1, f2, f3, rfl⟩ := list4 xs hx
  obtain ⟨imm, rfl, -, -, wi⟩ := open_int Try.underlying23 (hval 1 23 v1 rfl rfl) h1
  obtain ⟨ys, hy, rfl, -⟩ := open_iarr Try.underlying24 Try.underlying3 Try.cells3 Try.cells24 (hval 2 24 v2 rfl rfl) h2
  obtain ⟨n0, n1, n2, n3, n4, n5, rfl⟩ := list6 ys hy
  have hi := u32_bd wi
  refine (encodes_walk f0 f1 f2 f3 imm n0 n1 n2 n3 n4 n5 hi.1 hi.2 W).mono fun e W' ⟨he, hb⟩ => ?_
  subst he
  exact ⟨_, rfl, law_post hW0 Try.laidOut (by kernel_rfl) rfl Try.underlying4 rfl rfl rfl rfl hb⟩

theorem QcodeEncodes_holds : Rows.QcodeEncodesSaid :=
  OpenClaim.holds_of_wide 3 Try.f3 rfl rfl rfl rfl rfl rfl rfl ⟨rfl, rfl, rfl, rfl, rfl⟩ rfl rfl rfl rfl rfl (by kernel_rfl) Try.func3 (by kernel_rfl)
    (of_decide_eq_true (by kernel_rfl)) (by unfold Func.isWrapper; first | (rw [if_pos (by decide +kernel)]; kernel_rfl) | (rw [if_neg (by decide +kernel)]; exact ⟨rfl, rfl⟩))
    (fun os started H enc _ => encodes_lifted os started H enc)
#print axioms QcodeEncodes_holds
end Go.Proofs.Ytdoanneelnelbaa
