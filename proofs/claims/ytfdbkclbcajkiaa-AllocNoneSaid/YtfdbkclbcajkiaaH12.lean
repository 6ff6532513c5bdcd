/-
  The statement AllocNoneSaid: the law AllocNone answers true and turns nothing that was there. No condition.
-/
import Derived.Test.YtfdbkclbcajkiaaRows
import Derived.Test.YtfdbkclbcajkiaaZ0
import Derived.Test.YtfdbkclbcajkiaaE6
namespace Go.Proofs.Ytfdbkclbcajkiaa
set_option linter.unusedSimpArgs false
set_option linter.unusedVariables false
open Go.ChangeShapes Go.WideShapes Go.ChangeAt Go.RowKit

theorem Try.own : ownKnob Try.prog.godebug = none := by kernel_rfl
theorem Try.laidOut : laidOutB Try.prog = true := by kernel_rfl
theorem Try.cells3 : Try.prog.cellsOf 3 = 1 := by kernel_rfl
theorem Try.cells5 : Try.prog.cellsOf 5 = 1 := by kernel_rfl
theorem Try.cells38 : Try.prog.cellsOf 38 = 2 := by kernel_rfl

set_option maxRecDepth 100000 in
theorem allocNone_lifted (os : Os) (started : os.Started) (H : Type) (enc : TypeId × Value → H) :
    ReturnsInHanded {} Try.checked os 12 .any (Rows.allocNoneSpec.pre6 enc Try.prog Try.f12 Rows.allocNoneRow.domain false) (Rows.allocNoneSpec.post enc Try.prog Try.f12 false true false false) := by
  refine returnsInHanded_of_change (C := Try.checked) Try.own started (by kernel_rfl) Try.func12
    (ChangeSpec.witness6 (enc := enc) (C := Try.checked) false ⟨#[], #[.slice none 0 0, .agg #[.int .u8 0, .int .u8 0], .int .u8 0], []⟩ 8 (by kernel_rfl) (by kernel_rfl) (by kernel_rfl) (by kernel_rfl)) ?_
  intro W base args ds gs before hval0 hW hcnd _
  have hval : ∀ (j : Nat) t v, Try.f12.params[j]? = some t → args[j]? = some v → Value.okWide Try.prog W .any base t v := hval0
  have hW0 := hW
  obtain ⟨pp, qq, hA0, hV, -, -, -⟩ := hW
  have hA : DataW.TrodAll enc Try.prog W 0 (fun _ => true) true Try.f12.params.toList args.toList ds pp := hA0
  obtain ⟨rfl, -⟩ := trodVars_none hV
  rw [Try.params12] at hA hval
  obtain ⟨v0, vs0, d0, ds0, p0, q0, hargs, rfl, -, h0, r0⟩ := trodAll_cons hA
  obtain ⟨v1, vs1, d1, ds1, p1, q1, rfl, rfl, -, h1, r1⟩ := trodAll_cons r0
  obtain ⟨v2, vs2, d2, ds2, p2, q2, rfl, rfl, -, h2, r2⟩ := trodAll_cons r1
  obtain ⟨rfl, rfl, -⟩ := trodAll_nil r2
  obtain rfl : args = #[v0, v1, v2] := by cases args; simp_all
  obtain ⟨x0, s0, rfl, hs0⟩ := open_isl Try.underlying22 Try.underlying3 Try.cells3 (hval 0 22 v0 rfl rfl) h0
  obtain ⟨xs1, hx1, rfl, wf1⟩ := open_iarr Try.underlying38 Try.underlying5 Try.cells5 Try.cells38 (hval 1 38 v1 rfl rfl) h1
  obtain ⟨a10, a11, rfl⟩ := list2 xs1 hx1
  have hu10 := u8_bd (wf1 a10 (by simp))
  have hu11 := u8_bd (wf1 a11 (by simp))
  obtain ⟨a2, rfl, -, -, wf2⟩ := open_int Try.underlying5 (hval 2 5 v2 rfl rfl) h2
  have hu2 := u8_bd wf2
  refine ((none_law x0 s0 a10 a11 hu10 hu11 a2 hu2).law W (fun A hA => by
    rcases List.mem_singleton.1 hA with rfl
    exact hs0)).mono fun e W' ⟨_, _, he, hb⟩ => ?_
  subst he
  exact ⟨_, rfl, law_post hW0 Try.laidOut (by kernel_rfl) rfl Try.underlying4 rfl rfl rfl rfl hb⟩

theorem AllocNone_holds : Rows.AllocNoneSaid :=
  OpenClaim.holds_of_wide 12 Try.f12 rfl rfl rfl rfl rfl rfl rfl ⟨rfl, rfl, rfl, rfl, rfl⟩ rfl rfl rfl rfl rfl (by kernel_rfl) Try.func12 (by kernel_rfl)
    (of_decide_eq_true (by kernel_rfl)) (by unfold Func.isWrapper; first | (rw [if_pos (by decide +kernel)]; kernel_rfl) | (rw [if_neg (by decide +kernel)]; exact ⟨rfl, rfl⟩))
    (fun os started H enc _ => allocNone_lifted os started H enc)
#print axioms AllocNone_holds
end Go.Proofs.Ytfdbkclbcajkiaa
