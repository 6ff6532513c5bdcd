/-
  Sorting any slice of integers, by the library's contract. Condition: fewer than 2^62 elements.
-/
import Derived.Test.YtfdbkclbcajkiaaV3
import Derived.Test.YtfdbkclbcajkiaaSh
namespace Go.Proofs.Ytfdbkclbcajkiaa
set_option linter.unusedSimpArgs false
set_option linter.unusedVariables false
open Go.RowKit

theorem flat_eI (l : List Int) : l.flatMap eI = l.map (Value.int .i64) := by
  induction l with
  | nil => rfl
  | cons y ys ih => simp [eI, ih]
theorem msort_srt (xs : List Int) : Srt 0 (fun x y : Int => x ≤ y) (xs.mergeSort fun x y => decide (x ≤ y)) 0 (xs.mergeSort fun x y => decide (x ≤ y)).length := by
  have hp := List.pairwise_mergeSort (le := fun x y : Int => decide (x ≤ y)) (by intro a b c; simp; omega) (by intro a b; simp; omega) xs
  intro p q h0 h1 h2
  have := List.pairwise_iff_getElem.1 hp p q (by omega) h2 h1
  rw [List.getD_eq_getElem?_getD, List.getD_eq_getElem?_getD, List.getElem?_eq_getElem (by omega), List.getElem?_eq_getElem h2]
  simpa using this
theorem sort_any (v : SV) (xs : List Int) (hl : xs.length < 4611686018427387904) : SortOk v xs := by
  by_cases h12 : xs.length ≤ 12
  · exact sort_small v xs h12
  intro w M H hL
  obtain ⟨F, hF⟩ := hL
  have hp := hF.has 0 _ rfl
  obtain ⟨hb, hlen, hrow⟩ := hp
  rcases hrow with ⟨_, hn⟩ | ⟨g, cap, cur, hv, _, hg, hnc, hcm, hcs, htk⟩
  · omega
  have hFg : F 0 g := (hb g).2 (by rw [hv]; rfl)
  have hglt := hF.lt 0 g hFg
  rw [flat_eI, Nat.mul_one] at htk
  have hcell : ∀ j (hj : j < xs.length), cur[j]? = some (Value.int .i64 (xs[j]'hj)) := fun j hj => by
    have h1 : (cur.toList.take xs.length)[j]? = (xs.map (Value.int .i64))[j]? := by rw [htk]
    rw [List.getElem?_take, if_pos hj, List.getElem?_map, List.getElem?_eq_getElem hj] at h1
    simpa using h1
  have hH : Go.Sort.Holds (Value.int .i64) w g 0 xs.toArray := fun j hj => by
    have hj' : j < xs.length := by simpa using hj
    refine ⟨?_, ?_⟩
    · rw [Nat.zero_add, cell_of_row w g j cur 3 (0, 0) hg, hcell j hj']
      simp [hj']
    · simp [World.frozen?, hg]
  have hc := Try.slices_Sort_int g 0 cap xs w hH hglt hl
  rw [← hv] at hc
  refine hc.mono ?_
  rintro e w' ⟨rfl, n, os, rfl⟩
  have hbig : (w.heap.modify g (Go.Sort.onCells (Go.Sort.putCells (Value.int .i64) 0 (xs.mergeSort fun x y => decide (x ≤ y)).toArray)))[g]? = some (.cells (Go.Sort.putCells (Value.int .i64) 0 (xs.mergeSort fun x y => decide (x ≤ y)).toArray cur) 3 (0, 0)) := by
    rw [Array.getElem?_modify, if_pos rfl, hg]
    rfl
  have hsz : (Go.Sort.putRow (Value.int .i64) (Go.Sort.ahead w n) g 0 (xs.mergeSort fun x y => decide (x ≤ y)).toArray).heap.size = w.heap.size := by simp
  have hold : ∀ k, k < w.heap.size → (Go.Sort.grow (Go.Sort.putRow (Value.int .i64) (Go.Sort.ahead w n) g 0 (xs.mergeSort fun x y => decide (x ≤ y)).toArray) os).heap[k]? = (w.heap.modify g (Go.Sort.onCells (Go.Sort.putCells (Value.int .i64) 0 (xs.mergeSort fun x y => decide (x ≤ y)).toArray)))[k]? := fun k hk => by
    rw [Go.Sort.heap_grow_old _ _ (by rw [hsz]; exact hk)]
    rfl
  have hper := List.mergeSort_perm xs (fun x y => decide (x ≤ y))
  refine ⟨xs.mergeSort fun x y => decide (x ≤ y), ⟨hper, msort_srt xs⟩, rfl, fun i b => i = 0 ∧ b = g, ?_, ?_, ?_, ?_, ?_, ?_⟩
  · refine ⟨rfl, rfl, rfl, by simp, fun k hk hm => ?_⟩
    rw [hold k hk, Array.getElem?_modify, if_neg (fun e : g = k => hm (e ▸ hF.mine 0 g hFg hglt))]
  · intro i A hi
    cases i with
    | succ i => simp at hi
    | zero =>
      simp at hi
      subst hi
      refine ⟨fun x => ?_, ?_, .inr ⟨g, cap, _, by rw [hper.length_eq]; exact hv, Nat.zero_le _, by rw [hold g hglt]; exact hbig, by rw [hper.length_eq]; exact hnc, hcm, by simp [Go.Sort.putCells, hcs], ?_⟩⟩
      · rw [hv]
        simp [Value.ownBlock, eq_comm]
      · rw [flat_eI, List.length_map, Nat.mul_one]
      · rw [flat_eI, Nat.mul_one]
        apply List.ext_getElem?
        intro j
        rw [List.getElem?_take, List.getElem?_map]
        by_cases hj : j < (xs.mergeSort fun x y => decide (x ≤ y)).length
        · have hj2 := hj
          rw [hper.length_eq] at hj2
          rw [if_pos hj, List.getElem?_eq_getElem hj]
          have : (Go.Sort.putCells (Value.int .i64) 0 (xs.mergeSort fun x y => decide (x ≤ y)).toArray cur)[j]? = some (Value.int .i64 ((xs.mergeSort fun x y => decide (x ≤ y))[j])) := by
            unfold Go.Sort.putCells
            rw [Array.getElem?_mapIdx, hcell j hj2, Option.map_some, if_pos ⟨Nat.zero_le _, by simpa using hj2⟩]
            simp [hj]
            rw [List.getElem?_eq_getElem hj]
            rfl
          simpa using this
        · rw [if_neg hj, List.getElem?_eq_none (by omega)]
          rfl
  · rintro i b ⟨_, rfl⟩
    simp
    omega
  · rintro i b ⟨_, rfl⟩ _
    exact hF.mine 0 b hFg hglt
  · rintro i j b ⟨rfl, _⟩ ⟨rfl, _⟩
    rfl
  · intro i A hi
    simp at hi
end Go.Proofs.Ytfdbkclbcajkiaa
