/-
  Openings of what is handed in: slices of integers, with their bounds. No condition.
-/
import Derived.Test.YtohenjmkhncoiaaZ0
import Derived.Test.YtohenjmkhncoiaaY2
namespace Go.Proofs.Ytohenjmkhncoiaa
set_option linter.unusedSimpArgs false
set_option linter.unusedVariables false
open Go.ChangeShapes Go.WideShapes Go.ChangeAt Go.RowKit

theorem i64_bd {n : Int} (h : (Lit.int .i64 n).wf = true) : okI n := by
  simp only [Lit.wf, Bool.and_eq_true, decide_eq_true_eq] at h
  have h1 : IntKind.i64.min = -9223372036854775808 := by decide
  have h2 : IntKind.i64.max = 9223372036854775807 := by decide
  rw [h1, h2] at h
  exact ⟨h.1, by omega⟩
theorem u16_bd {n : Int} (h : (Lit.int .u16 n).wf = true) : 0 ≤ n ∧ n < 65536 := by
  simp only [Lit.wf, Bool.and_eq_true, decide_eq_true_eq] at h
  have h1 : IntKind.u16.min = 0 := by decide
  have h2 : IntKind.u16.max = 65535 := by decide
  rw [h1, h2] at h
  omega
section
variable {H : Type} {enc : TypeId × Value → H} {P : Program}
/-- A SLICE OF INTEGERS THAT WAS HANDED IN. -/
theorem open_islW {W : World} {r : Reach} {b0 base : Nat} {spare : Nat → Bool} {held : Bool} {t e : TypeId} {v : Value} {d : DataW H} {p : List MemPlace} (ht : P.underlying t = some (.slice e)) (he : P.underlying e = some (.int .i64))
    (hce : P.cellsOf e = 1) (hv : Value.okWide P W r b0 t v) (h : DataW.Trod enc P W base spare held t v d p) :
    ∃ (x : SV) (s : List Int), v = sv x ∧ (∀ n ∈ s, okI n) ∧ ∃ G : Nat → Prop, SlOk W G 1 eI (sv x) s ∧ ∀ b, G b → b < W.heap.size := by
  have hv' : Cell.ok P W r b0 t v := by
    have : Cell.okWide P W r b0 t v := by simpa [Value.okWide, ht] using hv
    simpa [Cell.okWide, ht] using this
  obtain ⟨va, vn, vc, rfl⟩ : ∃ a n c, v = .slice a n c := by
    cases v with
    | slice a n c => exact ⟨a, n, c, rfl⟩
    | _ => simp [Cell.ok, ht] at hv'
  obtain ⟨fuel, hf⟩ := h
  rcases open_ints ht he hce hf with ⟨hc, -⟩ | ⟨a, len, cap, zs, hc, -, h1, h2, h3, -, h5, h6⟩
  · simp [Value.cells] at hc
    obtain ⟨rfl, rfl, rfl⟩ := hc
    refine ⟨⟨none, 0, 0⟩, [], rfl, by simp, fun _ => False, ⟨0, by simp, by unfold maxLen; omega, .inl ⟨rfl, fun _ h => h, rfl⟩⟩, fun _ h => h.elim⟩
  · simp [Value.cells] at hc
    obtain ⟨rfl, rfl, rfl⟩ := hc
    have hh : W.has P r b0 a e vc := by
      simp [Cell.ok, ht] at hv'
      exact hv'.2.2
    obtain ⟨hs, hb⟩ := has_lt hh
    obtain ⟨ab, ao, asp⟩ := a
    dsimp only at hs hb
    subst hs
    have hzl : vn ≤ zs.length := by split at h3 <;> omega
    have htl : (zs.take vn).length = vn := by rw [List.length_take]; omega
    refine ⟨⟨some ⟨ab, ao, none⟩, vn, vc⟩, zs.take vn, rfl, fun n hn => i64_bd (h6 n (List.mem_of_mem_take hn)), fun b => b = ab, ⟨vc, by omega, h2, .inr ⟨ab, ao, by rw [htl]; rfl, rfl, ?_⟩⟩, fun b hb' => hb' ▸ hb⟩
    intro j u hj
    have hfm : (zs.take vn).flatMap eI = (zs.take vn).map (Value.int .i64) := by
      induction zs.take vn with
      | nil => rfl
      | cons x xs ih => simp [eI, ih]
    rw [hfm, List.getElem?_map] at hj
    have hjl : j < vn := by
      rcases Nat.lt_or_ge j vn with h | h
      · exact h
      · rw [List.getElem?_eq_none (by omega)] at hj; simp at hj
    have := h5 j (by omega)
    rw [List.getElem?_take, if_pos hjl, List.getElem?_eq_getElem (by omega)] at hj
    rw [List.getD_eq_getElem?_getD, List.getElem?_eq_getElem (by omega)] at this
    simp at hj this
    rw [← hj, ← this]
    unfold Addr.add
    split
    · subst_vars; rfl
    · rfl
end
end Go.Proofs.Ytohenjmkhncoiaa
