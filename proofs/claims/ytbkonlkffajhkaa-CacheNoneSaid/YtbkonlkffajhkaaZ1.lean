/-
  A slice of arrays of four integers that is handed in is opened. No condition.
-/
import Derived.Test.YtbkonlkffajhkaaZ0
import Derived.Test.YtbkonlkffajhkaaI3
import Derived.Deep.Slices
namespace Go.Proofs.Ytbkonlkffajhkaa
set_option linter.unusedSimpArgs false
set_option linter.unusedVariables false
open Go.ChangeShapes Go.WideShapes Go.ChangeAt Go.RowKit

section
variable {H : Type} {enc : TypeId × Value → H} {P : Program}
theorem open_qsl {W : World} {r : Reach} {b0 base : Nat} {spare : Nat → Bool} {held : Bool} {t e u : TypeId} {v : Value} {d : DataW H} {p : List MemPlace} (ht : P.underlying t = some (.slice e)) (he : P.underlying e = some (.array 4 u)) (hu : P.underlying u = some (.int .i64))
    (hcu : P.cellsOf u = 1) (hce : P.cellsOf e = 4) (hv : Value.okWide P W r b0 t v) (h : DataW.Trod enc P W base spare held t v d p) :
    ∃ (x : SV) (s : List Q4), v = sv x ∧ ∃ G : Nat → Prop, SlOk W G 4 eQ (sv x) s ∧ ∀ b, G b → b < W.heap.size := by
  have hv' : Cell.ok P W r b0 t v := by
    have : Cell.okWide P W r b0 t v := by simpa [Value.okWide, ht] using hv
    simpa [Cell.okWide, ht] using this
  obtain ⟨va, vn, vc, rfl⟩ : ∃ a n c, v = .slice a n c := by
    cases v with
    | slice a n c => exact ⟨a, n, c, rfl⟩
    | _ => simp [Cell.ok, ht] at hv'
  obtain ⟨fuel, hf⟩ := h
  rcases Deep.open_slice ht hf with ⟨hc, -⟩ | ⟨a, len, cap, m, n, D, Pl, hc, -, h1, h2, h3, -, h5⟩
  · simp [Value.cells] at hc
    obtain ⟨rfl, rfl, rfl⟩ := hc
    refine ⟨⟨none, 0, 0⟩, [], rfl, fun _ => False, ⟨0, by simp, by unfold maxLen; omega, .inl ⟨rfl, fun _ h => h, rfl⟩⟩, fun _ h => h.elim⟩
  · simp [Value.cells] at hc
    obtain ⟨rfl, rfl, rfl⟩ := hc
    have hh : W.has P r b0 a e vc := by
      simp [Cell.ok, ht] at hv'
      exact hv'.2.2
    obtain ⟨hs, hb⟩ := has_lt hh
    obtain ⟨ab, ao, asp⟩ := a
    dsimp only at hs hb
    subst hs
    have hml : vn ≤ m := by rw [h3]; split <;> omega
    have hq : ∀ i, i < vn → ∃ q : Q4, ∀ o u, (eQ q)[o]? = some u → W.cell? ⟨ab, ao + (i * 4 + o), none⟩ = some u := by
      intro i hi
      obtain ⟨cs, c1, c2⟩ := h5 i (by omega)
      rw [hce] at c1
      obtain ⟨_, hlen, hcell⟩ := World.cells?_some c1
      obtain ⟨xs, k, rfl, _, _, hxl, hel⟩ := DataW.trod_array he c2
      have hone : ∀ o, o < 4 → ∃ z, cs[o]? = some (.int .i64 z) := by
        intro o ho
        have h6 := hel o ho
        rw [hcu, Nat.mul_one, List.getElem?_eq_getElem (by omega)] at h6
        obtain ⟨z, hz, _, _⟩ := DataW.trod_int hu h6
        refine ⟨z, ?_⟩
        have : ((cs.drop o).take 1)[0]? = some (.int .i64 z) := by rw [hz]; rfl
        rw [List.getElem?_take, if_pos (by omega), List.getElem?_drop] at this
        simpa using this
      obtain ⟨z0, e0⟩ := hone 0 (by omega)
      obtain ⟨z1, e1⟩ := hone 1 (by omega)
      obtain ⟨z2, e2⟩ := hone 2 (by omega)
      obtain ⟨z3, e3⟩ := hone 3 (by omega)
      refine ⟨⟨z0, z1, z2, z3⟩, fun o u ho => ?_⟩
      have ho4 : o < 4 := by
        rcases Nat.lt_or_ge o 4 with h | h
        · exact h
        · rw [List.getElem?_eq_none (by simp [eQ]; omega)] at ho; cases ho
      have h7 := hcell o ho4
      rw [add_lit', add_lit'] at h7
      rw [show ao + (i * 4 + o) = ao + i * 4 + o by omega, h7, ← ho]
      match o, ho4 with
      | 0, _ => rw [e0]; rfl
      | 1, _ => rw [e1]; rfl
      | 2, _ => rw [e2]; rfl
      | 3, _ => rw [e3]; rfl
    obtain ⟨f, hfq⟩ : ∃ f : Nat → Q4, ∀ i, i < vn → ∀ o u, (eQ (f i))[o]? = some u → W.cell? ⟨ab, ao + (i * 4 + o), none⟩ = some u := by
      refine ⟨fun i => if h : i < vn then Classical.choose (hq i h) else q0, fun i hi => ?_⟩
      simp only [hi, dif_pos]
      exact Classical.choose_spec (hq i hi)
    have hll : ((List.range vn).map f).length = vn := by simp
    refine ⟨⟨some ⟨ab, ao, none⟩, vn, vc⟩, (List.range vn).map f, rfl, fun b => b = ab, ⟨vc, by omega, h2, .inr ⟨ab, ao, by rw [hll]; rfl, rfl, ?_⟩⟩, fun b hb' => hb' ▸ hb⟩
    intro j u hj
    have hfl : ∀ l : List Q4, (l.flatMap eQ).length = l.length * 4 := by
      intro l
      induction l with
      | nil => rfl
      | cons x r ih => simp only [List.flatMap_cons, List.length_append, ih, List.length_cons, eQ, List.length_nil]; omega
    have hjl : j < vn * 4 := by
      have := (List.getElem?_eq_some_iff.1 hj).1
      rw [hfl, hll] at this
      exact this
    have hi : j / 4 < vn := by omega
    have hx : ((List.range vn).map f)[j / 4]? = some (f (j / 4)) := by simp [hi]
    obtain ⟨w, hw⟩ : ∃ w, (eQ (f (j / 4)))[j % 4]? = some w := ⟨_, List.getElem?_eq_getElem (by simp [eQ]; omega)⟩
    have h8 := flatMap_at (s := 4) (enc := eQ) (fun x => rfl) _ (j / 4) (j % 4) _ w hx hw
    rw [show j / 4 * 4 + j % 4 = j by omega, hj] at h8
    injection h8 with h8
    subst h8
    have := hfq (j / 4) hi (j % 4) u hw
    rw [show j / 4 * 4 + j % 4 = j by omega] at this
    exact this
end
end Go.Proofs.Ytbkonlkffajhkaa
