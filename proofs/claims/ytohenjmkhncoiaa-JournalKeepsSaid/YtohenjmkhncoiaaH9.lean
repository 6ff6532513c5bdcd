/-
  The statement JournalKeepsSaid: the law JournalKeeps answers true and turns nothing that was there. No condition.
-/
import Derived.Test.YtohenjmkhncoiaaRows
import Derived.Test.YtohenjmkhncoiaaOI
import Derived.Test.YtohenjmkhncoiaaOG
import Derived.Test.YtohenjmkhncoiaaL9
namespace Go.Proofs.Ytohenjmkhncoiaa
set_option linter.unusedSimpArgs false
set_option linter.unusedVariables false
open Go.ChangeShapes Go.WideShapes Go.ChangeAt Go.RowKit

theorem Try.own : ownKnob Try.prog.godebug = none := by kernel_rfl
theorem Try.laidOut : laidOutB Try.prog = true := by kernel_rfl
theorem Try.cells3 : Try.prog.cellsOf 3 = 1 := by kernel_rfl
theorem Try.cells28 : Try.prog.cellsOf 28 = 1 := by kernel_rfl

set_option maxRecDepth 100000 in
theorem journalKeeps_lifted (os : Os) (started : os.Started) (H : Type) (enc : TypeId × Value → H) :
    ReturnsInHanded {} Try.checked os 9 .any (Rows.journalKeepsSpec.pre6 enc Try.prog Try.f9 Rows.journalKeepsRow.domain false) (Rows.journalKeepsSpec.post enc Try.prog Try.f9 false true false false) := by
  refine returnsInHanded_of_change (C := Try.checked) Try.own started (by kernel_rfl) Try.func9
    (ChangeSpec.witness6 (enc := enc) (C := Try.checked) false ⟨#[], #[.slice none 0 0, .bool false], []⟩ 8 (by kernel_rfl) (by kernel_rfl) (by kernel_rfl) (by kernel_rfl)) ?_
  intro W base args ds gs before hval0 hW hcnd _
  have hval : ∀ (j : Nat) t v, Try.f9.params[j]? = some t → args[j]? = some v → Value.okWide Try.prog W .any base t v := hval0
  have hW0 := hW
  obtain ⟨pp, qq, hA0, hV, -, -, -⟩ := hW
  have hA : DataW.TrodAll enc Try.prog W 0 (fun _ => true) true Try.f9.params.toList args.toList ds pp := hA0
  obtain ⟨rfl, -⟩ := trodVars_none hV
  rw [Try.params9] at hA hval
  obtain ⟨v0, vs0, d0, ds0, p0, q0, hargs, rfl, -, h0, r0⟩ := trodAll_cons hA
  obtain ⟨v1, vs1, d1, ds1, p1, q1, rfl, rfl, -, h1, r1⟩ := trodAll_cons r0
  obtain ⟨rfl, rfl, -⟩ := trodAll_nil r1
  obtain rfl : args = #[v0, v1] := by cases args; simp_all
  obtain ⟨x0, s0, rfl, b0, hs0⟩ := open_gen (ec := eQl) (⟨nilS, []⟩ : Ql) (fun _ => rfl) Try.underlying70 Try.cells28 (hval 0 70 v0 rfl rfl) h0 (open_ql Try.underlying28 Try.underlying3 Try.cells3)
  obtain ⟨a1, rfl, -, -⟩ := open_bool Try.underlying4 (hval 1 4 v1 rfl rfl) h1
  refine ((keeps_law x0 s0 (fun q hq => (b0 q hq).1) a1).law W (fun A hA => by
    simp only [List.mem_cons, List.not_mem_nil, or_false] at hA
    rcases hA with rfl | rfl
    · exact hs0
    · exact (qls_law b0))).mono fun e W' ⟨_, _, he, hb⟩ => ?_
  subst he
  exact ⟨_, rfl, law_post hW0 Try.laidOut (by kernel_rfl) rfl Try.underlying4 rfl rfl rfl rfl hb⟩

theorem JournalKeeps_holds : Rows.JournalKeepsSaid :=
  OpenClaim.holds_of_wide 9 Try.f9 rfl rfl rfl rfl rfl rfl rfl ⟨rfl, rfl, rfl, rfl, rfl⟩ rfl rfl rfl rfl rfl (by kernel_rfl) Try.func9 (by kernel_rfl)
    (of_decide_eq_true (by kernel_rfl)) (by unfold Func.isWrapper; first | (rw [if_pos (by decide +kernel)]; kernel_rfl) | (rw [if_neg (by decide +kernel)]; exact ⟨rfl, rfl⟩))
    (fun os started H enc _ => journalKeeps_lifted os started H enc)
#print axioms JournalKeeps_holds
end Go.Proofs.Ytohenjmkhncoiaa
