/-
  Lists of integers within what is handed in: an empty one may have any address. No condition.
-/
import Derived.Test.YtohenjmkhncoiaaKC
import Derived.Test.YtohenjmkhncoiaaY2
namespace Go.Proofs.Ytohenjmkhncoiaa
set_option linter.unusedSimpArgs false
set_option linter.unusedVariables false
open Go.RowKit

/-- A list that can be read; an empty one may have any address. -/
def SlqIn (w : World) (F : Nat → Prop) (v : SV) (l : List Int) : Prop := (∃ G : Nat → Prop, SlOk w G 1 eI (sv v) l ∧ ∀ b, G b → F b) ∨ (l = [] ∧ v.n = 0)
theorem SlqIn.stable {w w' : World} {F : Nat → Prop} {v : SV} {l : List Int} (h : SlqIn w F v l) (hs : ∀ b, F b → w'.heap[b]? = w.heap[b]?) : SlqIn w' F v l := by
  rcases h with ⟨G, h1, h2⟩ | h
  · exact .inl ⟨G, (sl 1 eI (sv v) l).stable h1 fun b hb => hs b (h2 b hb), h2⟩
  · exact .inr h
def slq (v : SV) (l : List Int) : Asn := ⟨fun w F => SlqIn w F v l, fun h hs => h.stable hs⟩
theorem sl_slq {v : SV} {l : List Int} : ∀ w G, (sl 1 eI (sv v) l).pred w G → (∀ b, G b → b < w.heap.size) → ∃ G', (slq v l).pred w G' ∧ ∀ b, G' b → G b := fun w G h _ => ⟨G, .inl ⟨G, h, fun _ hb => hb⟩, fun _ hb => hb⟩
/-- A contract for both kinds of lists. -/
theorem spec_slq {P : Program} {n : Nat} {vs : List Value} {L R0 : List Asn} {v : SV} {l : List Int} {X : Type} {φ : X → Prop} {u : X → Value} {L' R' : X → List Asn} (h1 : Spec P n vs L (sl 1 eI (sv v) l :: R0) φ u L' R') (h2 : l = [] → v.n = 0 → Spec P n vs L R0 φ u L' R') : Spec P n vs L (slq v l :: R0) φ u L' R' := by
  intro w M H ⟨F, hF⟩
  obtain ⟨G, hp, hG⟩ := hF.ro 0 (slq v l) rfl
  rcases hp with ⟨G', g1, g2⟩ | ⟨g1, g2⟩
  · refine h1 w M H ⟨F, hF.touch, hF.has, hF.lt, hF.mine, hF.apart, fun k A hA => ?_⟩
    cases k with
    | zero =>
      simp at hA
      subst hA
      exact ⟨G', g1, fun b hb => hG b (g2 b hb)⟩
    | succ k => exact hF.ro (k + 1) A hA
  · exact h2 g1 g2 w M H ⟨F, hF.touch, hF.has, hF.lt, hF.mine, hF.apart, fun k A hA => hF.ro (k + 1) A hA⟩
end Go.Proofs.Ytohenjmkhncoiaa
