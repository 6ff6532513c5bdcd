/-
  The statement JournalCrashSaid: the law JournalCrash answers true and turns nothing that was there. No condition.
-/
import Derived.Test.YtohenjmkhncoiaaRows
import Derived.Test.YtohenjmkhncoiaaOI
import Derived.Test.YtohenjmkhncoiaaOG
import Derived.Test.YtohenjmkhncoiaaL10
namespace Go.Proofs.Ytohenjmkhncoiaa
set_option linter.unusedSimpArgs false
set_option linter.unusedVariables false
open Go.ChangeShapes Go.WideShapes Go.ChangeAt Go.RowKit

theorem Try.own : ownKnob Try.prog.godebug = none := by kernel_rfl
theorem Try.laidOut : laidOutB Try.prog = true := by kernel_rfl
theorem Try.cells3 : Try.prog.cellsOf 3 = 1 := by kernel_rfl
theorem Try.cells5 : Try.prog.cellsOf 5 = 1 := by kernel_rfl
theorem Try.cells28 : Try.prog.cellsOf 28 = 1 := by kernel_rfl
theorem Try.cells79 : Try.prog.cellsOf 79 = 3 := by kernel_rfl

set_option maxRecDepth 100000 in
theorem journalCrash_lifted (os : Os) (started : os.Started) (H : Type) (enc : TypeId × Value → H) :
    ReturnsInHanded {} Try.checked os 10 .any (Rows.journalCrashSpec.pre6 enc Try.prog Try.f10 Rows.journalCrashRow.domain false) (Rows.journalCrashSpec.post enc Try.prog Try.f10 false true false false) := by
  refine returnsInHanded_of_change (C := Try.checked) Try.own started (by kernel_rfl) Try.func10
    (ChangeSpec.witness6 (enc := enc) (C := Try.checked) false ⟨#[], #[.int .u8 0, .slice none 0 0, .slice none 0 0], []⟩ 8 (by kernel_rfl) (by kernel_rfl) (by kernel_rfl) (by kernel_rfl)) ?_
  intro W base args ds gs before hval0 hW hcnd _
  have hval : ∀ (j : Nat) t v, Try.f10.params[j]? = some t → args[j]? = some v → Value.okWide Try.prog W .any base t v := hval0
  have hW0 := hW
  obtain ⟨pp, qq, hA0, hV, -, -, -⟩ := hW
  have hA : DataW.TrodAll enc Try.prog W 0 (fun _ => true) true Try.f10.params.toList args.toList ds pp := hA0
  obtain ⟨rfl, -⟩ := trodVars_none hV
  rw [Try.params10] at hA hval
  obtain ⟨v0, vs0, d0, ds0, p0, q0, hargs, rfl, -, h0, r0⟩ := trodAll_cons hA
  obtain ⟨v1, vs1, d1, ds1, p1, q1, rfl, rfl, -, h1, r1⟩ := trodAll_cons r0
  obtain ⟨v2, vs2, d2, ds2, p2, q2, rfl, rfl, -, h2, r2⟩ := trodAll_cons r1
  obtain ⟨rfl, rfl, -⟩ := trodAll_nil r2
  obtain rfl : args = #[v0, v1, v2] := by cases args; simp_all
  obtain ⟨a0, rfl, -, -, wf0⟩ := open_int Try.underlying5 (hval 0 5 v0 rfl rfl) h0
  obtain ⟨x1, s1, rfl, b1, hs1⟩ := open_gen (ec := eEvt) (⟨0, 0, ⟨nilS, []⟩⟩ : Evt) (fun _ => rfl) Try.underlying74 Try.cells79 (hval 1 74 v1 rfl rfl) h1 (open_evt Try.cells5 Try.cells28 Try.cells3 Try.cells79)
  obtain ⟨x2, s2, rfl, b2, hs2⟩ := open_islW Try.underlying28 Try.underlying3 Try.cells3 (hval 2 28 v2 rfl rfl) h2
  refine ((jcrash_law a0 (u8_bd wf0) x1 s1 (fun x hx => ⟨(b1 x hx).1, (b1 x hx).2.1, (b1 x hx).2.2.1⟩) x2 s2 b2).law W (fun A hA => by
    simp only [List.mem_cons, List.not_mem_nil, or_false] at hA
    rcases hA with rfl | rfl | rfl
    · exact hs1
    · exact (qls_law (s := s1.map Evt.q) fun q hq => by obtain ⟨x, hx, rfl⟩ := List.mem_map.1 hq; exact (b1 x hx).2.2)
    · exact hs2)).mono fun e W' ⟨_, _, he, hb⟩ => ?_
  subst he
  exact ⟨_, rfl, law_post hW0 Try.laidOut (by kernel_rfl) rfl Try.underlying4 rfl rfl rfl rfl hb⟩

theorem JournalCrash_holds : Rows.JournalCrashSaid :=
  OpenClaim.holds_of_wide 10 Try.f10 rfl rfl rfl rfl rfl rfl rfl ⟨rfl, rfl, rfl, rfl, rfl⟩ rfl rfl rfl rfl rfl (by kernel_rfl) Try.func10 (by kernel_rfl)
    (of_decide_eq_true (by kernel_rfl)) (by unfold Func.isWrapper; first | (rw [if_pos (by decide +kernel)]; kernel_rfl) | (rw [if_neg (by decide +kernel)]; exact ⟨rfl, rfl⟩))
    (fun os started H enc _ => journalCrash_lifted os started H enc)
#print axioms JournalCrash_holds
end Go.Proofs.Ytohenjmkhncoiaa
