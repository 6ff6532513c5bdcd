/-
  The statement DiskPowerSaid: the law DiskPower answers true and turns nothing that was there. No condition.
-/
import Derived.Test.YtohenjmkhncoiaaRows
import Derived.Test.YtohenjmkhncoiaaOI
import Derived.Test.YtohenjmkhncoiaaL5
namespace Go.Proofs.Ytohenjmkhncoiaa
set_option linter.unusedSimpArgs false
set_option linter.unusedVariables false
open Go.ChangeShapes Go.WideShapes Go.ChangeAt Go.RowKit

theorem Try.own : ownKnob Try.prog.godebug = none := by kernel_rfl
theorem Try.laidOut : laidOutB Try.prog = true := by kernel_rfl

set_option maxRecDepth 100000 in
theorem diskPower_lifted (os : Os) (started : os.Started) (H : Type) (enc : TypeId × Value → H) :
    ReturnsInHanded {} Try.checked os 5 .any (Rows.diskPowerSpec.pre6 enc Try.prog Try.f5 Rows.diskPowerRow.domain false) (Rows.diskPowerSpec.post enc Try.prog Try.f5 false true false false) := by
  refine returnsInHanded_of_change (C := Try.checked) Try.own started (by kernel_rfl) Try.func5
    (ChangeSpec.witness6 (enc := enc) (C := Try.checked) false ⟨#[], #[.int .u8 0, .bool false, .int .u8 0], []⟩ 8 (by kernel_rfl) (by kernel_rfl) (by kernel_rfl) (by kernel_rfl)) ?_
  intro W base args ds gs before hval0 hW hcnd _
  have hval : ∀ (j : Nat) t v, Try.f5.params[j]? = some t → args[j]? = some v → Value.okWide Try.prog W .any base t v := hval0
  have hW0 := hW
  obtain ⟨pp, qq, hA0, hV, -, -, -⟩ := hW
  have hA : DataW.TrodAll enc Try.prog W 0 (fun _ => true) true Try.f5.params.toList args.toList ds pp := hA0
  obtain ⟨rfl, -⟩ := trodVars_none hV
  rw [Try.params5] at hA hval
  obtain ⟨v0, vs0, d0, ds0, p0, q0, hargs, rfl, -, h0, r0⟩ := trodAll_cons hA
  obtain ⟨v1, vs1, d1, ds1, p1, q1, rfl, rfl, -, h1, r1⟩ := trodAll_cons r0
  obtain ⟨v2, vs2, d2, ds2, p2, q2, rfl, rfl, -, h2, r2⟩ := trodAll_cons r1
  obtain ⟨rfl, rfl, -⟩ := trodAll_nil r2
  obtain rfl : args = #[v0, v1, v2] := by cases args; simp_all
  obtain ⟨a0, rfl, -, -, wf0⟩ := open_int Try.underlying5 (hval 0 5 v0 rfl rfl) h0
  obtain ⟨a1, rfl, -, -⟩ := open_bool Try.underlying4 (hval 1 4 v1 rfl rfl) h1
  obtain ⟨a2, rfl, -, -, wf2⟩ := open_int Try.underlying5 (hval 2 5 v2 rfl rfl) h2
  refine ((power_law a0 (u8_bd wf0) a1 a2 (u8_bd wf2)).law W (fun A hA => by simp at hA)).mono fun e W' ⟨_, _, he, hb⟩ => ?_
  subst he
  exact ⟨_, rfl, law_post hW0 Try.laidOut (by kernel_rfl) rfl Try.underlying4 rfl rfl rfl rfl hb⟩

theorem DiskPower_holds : Rows.DiskPowerSaid :=
  OpenClaim.holds_of_wide 5 Try.f5 rfl rfl rfl rfl rfl rfl rfl ⟨rfl, rfl, rfl, rfl, rfl⟩ rfl rfl rfl rfl rfl (by kernel_rfl) Try.func5 (by kernel_rfl)
    (of_decide_eq_true (by kernel_rfl)) (by unfold Func.isWrapper; first | (rw [if_pos (by decide +kernel)]; kernel_rfl) | (rw [if_neg (by decide +kernel)]; exact ⟨rfl, rfl⟩))
    (fun os started H enc _ => diskPower_lifted os started H enc)
#print axioms DiskPower_holds
end Go.Proofs.Ytohenjmkhncoiaa
