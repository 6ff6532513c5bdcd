/-
  Several owned things become one. No condition.
-/
import Derived.Test.YtdcbbkpdlcojfaaKC
namespace Go.Proofs.Ytdcbbkpdlcojfaa
set_option linter.unusedSimpArgs false
set_option linter.unusedVariables false
open Go.RowKit

/-- Assertions that hold within F. -/
def AllIn (w : World) (F : Nat → Prop) : List Asn → Prop
  | [] => True
  | A :: r => (∃ G : Nat → Prop, A.pred w G ∧ ∀ b, G b → F b) ∧ AllIn w F r
theorem allIn_of {w : World} {Γ : Ctx} {F : Nat → Nat → Prop} {U : Nat → Prop} (h : ∀ k A, cget Γ k = some A → A.pred w (F k)) : ∀ (ks : List Nat) (L : List Asn), cgets Γ ks = somes L → (∀ k ∈ ks, ∀ b, F k b → U b) → AllIn w U L
  | [], [], _, _ => trivial
  | [], A :: L, hL, _ => by cases hL
  | k :: ks, [], hL, _ => by cases hL
  | k :: ks, A :: L, hL, hU => by
    simp only [cgets, somes, List.cons.injEq] at hL
    exact ⟨⟨F k, h k A hL.1, hU k (by simp)⟩, allIn_of h ks L hL.2 fun j hj => hU j (by simp [hj])⟩
theorem COk.collect {w0 : World} {M H : Nat → Prop} {Γ R : Ctx} {w : World} (h : COk w0 M H Γ R w) (k : Nat) (ks : List Nat) {L : List Asn} {C : Asn} (hL : cgets Γ ks = somes L) (hC : ∀ w F, AllIn w F L → C.pred w F) : COk w0 M H ((k, C) :: ckill ks Γ) R w := by
  obtain ⟨F, hF⟩ := h
  have hsub : ∀ j b, (if j = k then fun b => ∃ i ∈ ks, F i b else if j ∈ ks then fun _ => False else F j) b → (j = k ∧ ∃ i ∈ ks, F i b) ∨ (j ≠ k ∧ j ∉ ks ∧ F j b) := by
    intro j b hb
    split at hb
    · exact .inl ⟨by assumption, hb⟩
    · split at hb
      · exact hb.elim
      · exact .inr ⟨by assumption, by assumption, hb⟩
  refine ⟨fun j => if j = k then fun b => ∃ i ∈ ks, F i b else if j ∈ ks then fun _ => False else F j, hF.touch, ?_, ?_, ?_, ?_, ?_⟩
  · intro j B hj
    simp only [cget] at hj
    cases h1 : Nat.beq k j with
    | true =>
      rw [h1] at hj
      simp at hj
      subst hj
      have := Nat.eq_of_beq_eq_true h1
      subst this
      simp only [if_true]
      exact hC w _ (allIn_of hF.has ks L hL fun i hi b hb => ⟨i, hi, hb⟩)
    | false =>
      rw [h1] at hj
      have hj1 : j ≠ k := fun e => by subst e; simp at h1
      rcases cget_ckill ks Γ j B hj with ⟨rfl, h2⟩ | ⟨h2, h3⟩
      · simp only [hj1, if_false, h2, if_true]
        exact fun b hb => hb
      · simp only [hj1, if_false, h2]
        exact hF.has j B h3
  · intro j b hb
    rcases hsub j b hb with ⟨_, i, _, hb⟩ | ⟨_, _, hb⟩ <;> exact hF.lt _ b hb
  · intro j b hb
    rcases hsub j b hb with ⟨_, i, _, hb⟩ | ⟨_, _, hb⟩ <;> exact hF.mine _ b hb
  · intro i j b hi hj
    rcases hsub i b hi with ⟨e1, x, hx, hx2⟩ | ⟨e1, n1, g1⟩ <;> rcases hsub j b hj with ⟨e2, y, hy, hy2⟩ | ⟨e2, n2, g2⟩
    · rw [e1, e2]
    · have := hF.apart _ _ b hx2 g2
      subst this
      exact absurd hx n2
    · have := hF.apart _ _ b g1 hy2
      subst this
      exact absurd hy n1
    · exact hF.apart i j b g1 g2
  · intro r A hr
    obtain ⟨G, g1, g2⟩ := hF.ro r A hr
    refine ⟨G, g1, fun b hb => ?_⟩
    obtain ⟨h1, h2, h3⟩ := g2 b hb
    refine ⟨h1, fun j hj => ?_, h3⟩
    rcases hsub j b hj with ⟨_, i, _, hb⟩ | ⟨_, _, hb⟩ <;> exact h2 _ hb
section
variable {P : Program} {N : Nat} {w0 : World} {M H : Nat → Prop} {E : Env} {Γ R : Ctx}
theorem r_collect (k : Nat) (ks : List Nat) {L : List Asn} {C : Asn} {Rel : Act → World → Prop} (hL : cgets Γ ks = somes L) (hC : ∀ w F, AllIn w F L → C.pred w F) (h : At N w0 M H E ((k, C) :: ckill ks Γ) R Rel) : At N w0 M H E Γ R Rel :=
  h.weak (fun _ h => h) fun w hc => hc.collect k ks hL hC
end
/-- Readable within F. -/
theorem own_in {α : Type} {w : World} {F G : Nat → Prop} {T s : Nat} {enc : α → List Value} {v : Value} {l : List α} (h : (own T s enc v l).pred w G) (hs : ∀ b, G b → F b) : ∃ G' : Nat → Prop, SlOk w G' s enc v l ∧ ∀ b, G' b → F b := ⟨G, own_sl h, hs⟩
theorem nil_in {α : Type} {w : World} {F : Nat → Prop} {s : Nat} {enc : α → List Value} : ∃ G' : Nat → Prop, SlOk w G' s enc (sv nilS) ([] : List α) ∧ ∀ b, G' b → F b := ⟨fun _ => False, ⟨0, Nat.le_refl _, Nat.zero_le _, .inl ⟨rfl, fun _ h => h, rfl⟩⟩, fun _ h => h.elim⟩
end Go.Proofs.Ytdcbbkpdlcojfaa
