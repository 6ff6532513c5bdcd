/-
  The frame of a law's row from a contract: a slice of integers that is handed in is opened, and a contract that only reads turns nothing below the heap's old size. No condition.
-/
import Derived.Test.YtdcbbkpdlcojfaaGG
import Derived.Test.YtdcbbkpdlcojfaaKA
import Derived.ChangeSlices
namespace Go.Proofs.Ytdcbbkpdlcojfaa
set_option linter.unusedSimpArgs false
set_option linter.unusedVariables false
open Go.ChangeShapes Go.WideShapes Go.ChangeAt Go.RowKit

section
variable {H : Type} {enc : TypeId × Value → H} {P : Program}
theorem has_lt {w : World} {r : Reach} {b0 : Nat} {a : Addr} {e : TypeId} {n : Nat} (h : w.has P r b0 a e n) : a.spot = none ∧ a.block < w.heap.size := by
  obtain ⟨-, h1, row, cells, h2, -⟩ := h
  refine ⟨h1, ?_⟩
  unfold World.shape? at h2
  rcases Nat.lt_or_ge a.block w.heap.size with hl | hl
  · exact hl
  · rw [Array.getElem?_eq_none hl] at h2
    simp at h2

/-- A SLICE OF INTEGERS THAT WAS HANDED IN. -/
theorem open_isl {W : World} {r : Reach} {b0 base : Nat} {spare : Nat → Bool} {held : Bool} {t e : TypeId} {v : Value} {d : DataW H} {p : List MemPlace} (ht : P.underlying t = some (.slice e)) (he : P.underlying e = some (.int .i64))
    (hce : P.cellsOf e = 1) (hv : Value.okWide P W r b0 t v) (h : DataW.Trod enc P W base spare held t v d p) :
    ∃ (x : SV) (s : List Int), v = sv x ∧ ∃ G : Nat → Prop, SlOk W G 1 eI (sv x) s ∧ ∀ b, G b → b < W.heap.size := by
  have hv' : Cell.ok P W r b0 t v := by
    have : Cell.okWide P W r b0 t v := by simpa [Value.okWide, ht] using hv
    simpa [Cell.okWide, ht] using this
  obtain ⟨va, vn, vc, rfl⟩ : ∃ a n c, v = .slice a n c := by
    cases v with
    | slice a n c => exact ⟨a, n, c, rfl⟩
    | _ => simp [Cell.ok, ht] at hv'
  obtain ⟨fuel, hf⟩ := h
  rcases open_ints ht he hce hf with ⟨hc, -⟩ | ⟨a, len, cap, zs, hc, -, h1, h2, h3, -, h5, -⟩
  · simp [Value.cells] at hc
    obtain ⟨rfl, rfl, rfl⟩ := hc
    refine ⟨⟨none, 0, 0⟩, [], rfl, fun _ => False, ⟨0, by simp, by unfold maxLen; omega, .inl ⟨rfl, fun _ h => h, rfl⟩⟩, fun _ h => h.elim⟩
  · simp [Value.cells] at hc
    obtain ⟨rfl, rfl, rfl⟩ := hc
    have hh : W.has P r b0 a e vc := by
      simp [Cell.ok, ht] at hv'
      exact hv'.2.2
    obtain ⟨hs, hb⟩ := has_lt hh
    obtain ⟨ab, ao, asp⟩ := a
    dsimp only at hs hb
    subst hs
    have hzl : vn ≤ zs.length := by split at h3 <;> omega
    have htl : (zs.take vn).length = vn := by rw [List.length_take]; omega
    refine ⟨⟨some ⟨ab, ao, none⟩, vn, vc⟩, zs.take vn, rfl, fun b => b = ab, ⟨vc, by omega, h2, .inr ⟨ab, ao, by rw [htl]; rfl, rfl, ?_⟩⟩, fun b hb' => hb' ▸ hb⟩
    intro j u hj
    have hfm : (zs.take vn).flatMap eI = (zs.take vn).map (Value.int .i64) := by
      induction zs.take vn with
      | nil => rfl
      | cons x xs ih => simp [eI, ih]
    rw [hfm, List.getElem?_map] at hj
    have hjl : j < vn := by
      rcases Nat.lt_or_ge j vn with h | h
      · exact h
      · rw [List.getElem?_eq_none (by omega)] at hj; simp at hj
    have := h5 j (by omega)
    rw [List.getElem?_take, if_pos hjl, List.getElem?_eq_getElem (by omega)] at hj
    rw [List.getD_eq_getElem?_getD, List.getElem?_eq_getElem (by omega)] at this
    simp at hj this
    rw [← hj, ← this]
    unfold Addr.add
    split
    · subst_vars; rfl
    · rfl

/-- A contract that reads what was handed in, and nothing else. -/
theorem Spec.law {n : Nat} {vs : List Value} {R0 : List Asn} {X : Type} {φ : X → Prop} {v : X → Value} {L' R' : X → List Asn} (h : Spec P n vs [] R0 φ v L' R') (w : World) (hR : ∀ A ∈ R0, ∃ G : Nat → Prop, A.pred w G ∧ ∀ b, G b → b < w.heap.size) :
    Calls P n vs.toArray w fun e w' => ∃ x, φ x ∧ e = .returned (v x) ∧ Below w.heap.size w w' := by
  refine (h w (fun _ => False) (fun _ => True) ⟨fun _ _ => False, Touch.refl _ _, fun i A hi => by simp at hi, fun _ _ h => h.elim, fun _ _ h => h.elim, fun _ _ _ h => h.elim, fun i A hi => ?_⟩).mono ?_
  · obtain ⟨G, h1, h2⟩ := hR A (List.mem_of_getElem? hi)
    exact ⟨G, h1, fun b hb => ⟨h2 b hb, fun _ h => h, fun _ => .inr trivial⟩⟩
  · rintro e w' ⟨x, h1, h2, F, hF⟩
    exact ⟨x, h1, h2, hF.touch.below⟩
end
theorem u8_bd {n : Int} (h : (Lit.int .u8 n).wf = true) : 0 ≤ n ∧ n < 256 := by
  simp [Lit.wf, IntKind.signed, IntKind.bits, IntKind.min, IntKind.max] at h
  omega
end Go.Proofs.Ytdcbbkpdlcojfaa
