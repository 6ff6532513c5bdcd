/-
  The stable sort permutes. No condition.
-/
import Derived.Test.YtbkonlkffajhkaaS1
namespace Go.Proofs.Ytbkonlkffajhkaa
set_option linter.unusedSimpArgs false
set_option linter.unusedVariables false

section
variable {α : Type} (d : α) (less : α → α → Bool)

theorem sw_perm {xs : List α} {i j : Nat} (hi : i < xs.length) (hj : j < xs.length) : (sw d xs i j).Perm xs := by
  unfold sw
  have e1 : xs.getD j d = xs[j] := by rw [List.getD_eq_getElem?_getD, List.getElem?_eq_getElem hj]; rfl
  have e2 : xs.getD i d = xs[i] := by rw [List.getD_eq_getElem?_getD, List.getElem?_eq_getElem hi]; rfl
  rw [e1, e2]
  exact List.set_set_perm hi hj
theorem insIn_perm {a : Nat} : ∀ (j : Nat) (xs : List α), j < xs.length → (insIn d less a j xs).Perm xs
  | 0, xs, _ => .refl _
  | j + 1, xs, h => by
    rw [insIn]
    split
    · exact (insIn_perm j _ (by rw [sw_len]; omega)).trans (sw_perm d h (by omega))
    · exact .refl _
theorem insOut_perm {a : Nat} : ∀ (n i : Nat) (xs : List α), i + n ≤ xs.length → (insOut d less a n i xs).Perm xs
  | 0, i, xs, _ => .refl _
  | n + 1, i, xs, h => by
    rw [insOut]
    exact (insOut_perm n (i + 1) _ (by rw [insIn_len]; omega)).trans (insIn_perm d less i xs (by omega))
theorem insSort_perm {xs : List α} {a b : Nat} (h : b ≤ xs.length) : (insSort d less xs a b).Perm xs := by
  unfold insSort
  by_cases hab : a + 1 ≤ b
  · exact insOut_perm d less _ _ _ (by omega)
  · rw [show b - (a + 1) = 0 by omega]; exact .refl _
theorem swapR_perm : ∀ (n : Nat) (xs : List α) (a b i : Nat), a + i + n ≤ xs.length → b + i + n ≤ xs.length → (swapR d xs a b n i).Perm xs
  | 0, xs, a, b, i, _, _ => .refl _
  | n + 1, xs, a, b, i, h1, h2 => by
    rw [swapR]
    exact (swapR_perm n _ a b (i + 1) (by rw [sw_len]; omega) (by rw [sw_len]; omega)).trans (sw_perm d (by omega) (by omega))
theorem rot_perm : ∀ (f : Nat) (xs : List α) (m i j : Nat), i ≤ m → m + j ≤ xs.length → (rot d f xs m i j).Perm xs
  | 0, xs, m, i, j, _, _ => .refl _
  | f + 1, xs, m, i, j, h1, h2 => by
    rw [rot]
    split
    · exact swapR_perm d _ _ _ _ _ (by omega) (by omega)
    · split
      · exact (rot_perm f _ m (i - j) j (by omega) (by rw [swapR_len]; omega)).trans (swapR_perm d _ _ _ _ _ (by omega) (by omega))
      · exact (rot_perm f _ m i (j - i) (by omega) (by rw [swapR_len]; omega)).trans (swapR_perm d _ _ _ _ _ (by omega) (by omega))
theorem up_perm : ∀ (n : Nat) (xs : List α) (k : Nat), k + n < xs.length → (up d xs k n).Perm xs
  | 0, xs, k, _ => by rw [up]
  | n + 1, xs, k, h => by
    rw [up]
    exact (up_perm n _ (k + 1) (by rw [sw_len]; omega)).trans (sw_perm d (by omega) (by omega))
theorem down_perm : ∀ (n : Nat) (xs : List α) (k : Nat), n ≤ k → k < xs.length → (down d xs k n).Perm xs
  | 0, xs, k, _, _ => by rw [down]
  | n + 1, xs, k, h1, h2 => by
    rw [down]
    exact (down_perm n _ (k - 1) (by omega) (by rw [sw_len]; omega)).trans (sw_perm d (by omega) (by omega))
theorem symM_perm : ∀ (f : Nat) (xs : List α) (a m b : Nat), a < m → m < b → b ≤ xs.length → (symM d less f xs a m b).Perm xs
  | 0, xs, a, m, b, _, _, _ => by rw [symM]
  | f + 1, xs, a, m, b, ha, hb, hl => by
    by_cases h1 : m - a = 1
    · rw [symM_1 d less h1]
      have := bsr_range (f := fun h => less (xs.getD h d) (xs.getD a d)) (b - m) m b (by omega)
      exact up_perm d _ _ _ (by omega)
    · by_cases h2 : b - m = 1
      · rw [symM_2 d less h1 h2]
        exact down_perm d _ _ _ (by omega) (by omega)
      · obtain ⟨mid, hmid⟩ : ∃ mid, mid = (a + b) / 2 := ⟨_, rfl⟩
        obtain ⟨s0, hs0⟩ : ∃ s0, s0 = if mid < m then mid + m - b else a := ⟨_, rfl⟩
        obtain ⟨r0, hr0⟩ : ∃ r0, r0 = if mid < m then mid else m := ⟨_, rfl⟩
        have hsr : a ≤ s0 ∧ s0 ≤ r0 ∧ r0 ≤ m ∧ r0 ≤ mid ∧ mid + m ≤ b + s0 ∧ a < mid ∧ mid < b := by subst hs0 hr0 hmid; split <;> omega
        obtain ⟨start, hst⟩ : ∃ start, start = bsr (fun c => !less (xs.getD (mid + m - 1 - c) d) (xs.getD c d)) (r0 - s0) s0 r0 := ⟨_, rfl⟩
        have hrg := bsr_range (f := fun c => !less (xs.getD (mid + m - 1 - c) d) (xs.getD c d)) (r0 - s0) s0 r0 (by omega)
        rw [← hst] at hrg
        obtain ⟨e, he⟩ : ∃ e, e = mid + m - start := ⟨_, rfl⟩
        obtain ⟨xs1, hx1⟩ : ∃ xs1, xs1 = if start < m ∧ m < e then rot d (e - start) xs m (m - start) (e - m) else xs := ⟨_, rfl⟩
        obtain ⟨xs2, hx2⟩ : ∃ xs2, xs2 = if a < start ∧ start < mid then symM d less f xs1 a start mid else xs1 := ⟨_, rfl⟩
        rw [symM_3 d less h1 h2 hmid hs0 hr0 hst he hx1 hx2]
        have p1 : xs1.Perm xs := by
          rw [hx1]
          split
          · exact rot_perm d _ _ _ _ _ (by omega) (by omega)
          · exact .refl _
        have p2 : xs2.Perm xs := by
          rw [hx2]
          split
          · exact (symM_perm f xs1 a start mid (by omega) (by omega) (by rw [p1.length_eq]; omega)).trans p1
          · exact p1
        split
        · exact (symM_perm f xs2 mid e b (by omega) (by omega) (by rw [p2.length_eq]; omega)).trans p2
        · exact p2
theorem blocks_perm {bs : Nat} : ∀ (f : Nat) (xs : List α) (a n : Nat), n ≤ xs.length → (blocks d less bs f xs a n).Perm xs
  | 0, xs, a, n, h => insSort_perm d less h
  | f + 1, xs, a, n, h => by
    rw [blocks]
    split
    · exact (blocks_perm f _ _ n (by rw [insSort_len]; omega)).trans (insSort_perm d less (by omega))
    · exact insSort_perm d less h
theorem merges_perm {bs : Nat} (hb : 1 ≤ bs) : ∀ (f : Nat) (xs : List α) (a n : Nat), n ≤ xs.length → (merges d less bs f xs a n).Perm xs
  | 0, xs, a, n, h => by
    rw [merges]
    split
    · exact symM_perm d less _ _ _ _ _ (by omega) (by omega) h
    · exact .refl _
  | f + 1, xs, a, n, h => by
    rw [merges]
    split
    · have p := symM_perm d less n xs a (a + bs) (a + 2 * bs) (by omega) (by omega) (by omega)
      exact (merges_perm hb f _ _ n (by rw [p.length_eq]; omega)).trans p
    · split
      · exact symM_perm d less _ _ _ _ _ (by omega) (by omega) h
      · exact .refl _
theorem levels_perm : ∀ (f bs : Nat) (xs : List α) (n : Nat), 1 ≤ bs → n ≤ xs.length → (levels d less f bs xs n).Perm xs
  | 0, bs, xs, n, _, _ => .refl _
  | f + 1, bs, xs, n, hb, h => by
    rw [levels]
    split
    · have p := merges_perm d less hb n xs 0 n h
      exact (levels_perm f (2 * bs) _ n (by omega) (by rw [p.length_eq]; omega)).trans p
    · exact .refl _
theorem stable_perm (xs : List α) : (stable d less xs).Perm xs := by
  have p := blocks_perm d less (bs := 20) xs.length xs 0 xs.length (Nat.le_refl _)
  exact (levels_perm d less xs.length 20 _ xs.length (by omega) (by rw [p.length_eq]; exact Nat.le_refl _)).trans p
end
end Go.Proofs.Ytbkonlkffajhkaa
