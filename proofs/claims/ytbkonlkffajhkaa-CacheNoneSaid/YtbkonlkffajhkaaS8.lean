/-
  The stable sort sorts: what its moves do, place by place. No condition.
-/
import Derived.Test.YtbkonlkffajhkaaS7
namespace Go.Proofs.Ytbkonlkffajhkaa
set_option linter.unusedSimpArgs false
set_option linter.unusedVariables false

section
variable {α : Type} (d : α) (less : α → α → Bool)

theorem sw_get {xs : List α} {i j : Nat} (hi : i < xs.length) (hj : j < xs.length) (k : Nat) : (sw d xs i j).getD k d = if k = j then xs.getD i d else if k = i then xs.getD j d else xs.getD k d := by
  unfold sw
  simp only [List.getD_eq_getElem?_getD, List.getElem?_set, List.length_set]
  by_cases h1 : j = k
  · subst h1; simp [hj]
  · rw [if_neg h1, if_neg (show ¬ k = j from fun h => h1 h.symm)]
    by_cases h2 : i = k
    · subst h2; simp [hi]
    · rw [if_neg h2, if_neg (show ¬ k = i from fun h => h2 h.symm)]
theorem swapR_get {a b : Nat} : ∀ (n : Nat) (xs : List α) (i : Nat), a + n ≤ b → b + i + n ≤ xs.length → ∀ k, (swapR d xs a b n i).getD k d = if a + i ≤ k ∧ k < a + i + n then xs.getD (k + (b - a)) d else if b + i ≤ k ∧ k < b + i + n then xs.getD (k - (b - a)) d else xs.getD k d
  | 0, xs, i, _, _, k => by
    rw [swapR, if_neg (by omega), if_neg (by omega)]
  | n + 1, xs, i, h1, h2, k => by
    rw [swapR, swapR_get n _ (i + 1) (by omega) (by rw [sw_len]; omega) k]
    have hg := fun k => sw_get d (xs := xs) (i := a + i) (j := b + i) (by omega) (by omega) k
    simp only [hg, if_true]
    repeat' split
    all_goals first | rfl | omega | (congr 1; omega) | (subst_vars; rfl) | simp_all
theorem rot_get : ∀ (f : Nat) (xs : List α) (m i j : Nat), 0 < i → 0 < j → i + j ≤ f → i ≤ m → m + j ≤ xs.length → ∀ k, (rot d f xs m i j).getD k d = if m - i ≤ k ∧ k < m - i + j then xs.getD (k + i) d else if m - i + j ≤ k ∧ k < m + j then xs.getD (k - j) d else xs.getD k d
  | 0, xs, m, i, j, hi, hj, hf, _, _, k => by omega
  | f + 1, xs, m, i, j, hi, hj, hf, h1, h2, k => by
    rcases Nat.lt_trichotomy i j with h | h | h
    · rw [rot_lt d h, rot_get f _ m i (j - i) hi (by omega) (by omega) h1 (by rw [swapR_len]; omega) k]
      have hg := fun k => swapR_get d (a := m - i) (b := m + j - i) i xs 0 (by omega) (by omega) k
      simp only [hg, if_true]
      repeat' split
      all_goals first | rfl | omega | (congr 1; omega) | (subst_vars; rfl) | simp_all
    · rw [rot_eq d h, swapR_get d i xs 0 (by omega) (by omega) k]
      repeat' split
      all_goals first | rfl | omega | (congr 1; omega) | (subst_vars; rfl) | simp_all
    · rw [rot_gt d h, rot_get f _ m (i - j) j (by omega) hj (by omega) (by omega) (by rw [swapR_len]; omega) k]
      have hg := fun k => swapR_get d (a := m - i) (b := m) j xs 0 (by omega) (by omega) k
      simp only [hg, if_true]
      repeat' split
      all_goals first | rfl | omega | (congr 1; omega) | (subst_vars; rfl) | simp_all
theorem up_get : ∀ (n : Nat) (xs : List α) (k : Nat), k + n < xs.length → ∀ q, (up d xs k n).getD q d = if q = k + n then xs.getD k d else if k ≤ q ∧ q < k + n then xs.getD (q + 1) d else xs.getD q d
  | 0, xs, k, _, q => by
    rw [up]
    repeat' split
    all_goals first | rfl | omega | (congr 1; omega) | (subst_vars; rfl) | simp_all
  | n + 1, xs, k, h, q => by
    rw [up, up_get n _ (k + 1) (by rw [sw_len]; omega) q]
    have hg := fun q => sw_get d (xs := xs) (i := k) (j := k + 1) (by omega) (by omega) q
    simp only [hg, if_true]
    repeat' split
    all_goals first | rfl | omega | (congr 1; omega) | (subst_vars; rfl) | simp_all
theorem down_get : ∀ (n : Nat) (xs : List α) (k : Nat), n ≤ k → k < xs.length → ∀ q, (down d xs k n).getD q d = if q = k - n then xs.getD k d else if k - n < q ∧ q ≤ k then xs.getD (q - 1) d else xs.getD q d
  | 0, xs, k, _, _, q => by
    rw [down]
    repeat' split
    all_goals first | rfl | omega | (congr 1; omega) | (subst_vars; rfl) | simp_all
  | n + 1, xs, k, h, hk, q => by
    rw [down, down_get n _ (k - 1) (by omega) (by rw [sw_len]; omega) q]
    have hg := fun q => sw_get d (xs := xs) (i := k) (j := k - 1) (by omega) (by omega) q
    simp only [hg, if_true]
    repeat' split
    all_goals first | rfl | omega | (congr 1; omega) | (subst_vars; rfl) | simp_all
/-- The search ends behind a place that holds, before one that does not. -/
theorem bsr_spec {f : Nat → Bool} : ∀ (n i j : Nat), i ≤ j → j - i ≤ n → (i < bsr f n i j → f (bsr f n i j - 1) = true) ∧ (bsr f n i j < j → f (bsr f n i j) = false)
  | 0, i, j, h, hn => by rw [bsr]; exact ⟨fun h => by omega, fun h => by omega⟩
  | n + 1, i, j, h, hn => by
    rw [bsr]
    split
    · rename_i hij
      split
      · rename_i hf
        have h1 := bsr_spec (f := f) n ((i + j) / 2 + 1) j (by omega) (by omega)
        have h2 := bsr_range (f := f) n ((i + j) / 2 + 1) j (by omega)
        refine ⟨fun _ => ?_, h1.2⟩
        by_cases hb : (i + j) / 2 + 1 < bsr f n ((i + j) / 2 + 1) j
        · exact h1.1 hb
        · rw [show bsr f n ((i + j) / 2 + 1) j - 1 = (i + j) / 2 by omega]; exact hf
      · rename_i hf
        have h1 := bsr_spec (f := f) n i ((i + j) / 2) (by omega) (by omega)
        have h2 := bsr_range (f := f) n i ((i + j) / 2) (by omega)
        refine ⟨h1.1, fun _ => ?_⟩
        by_cases hb : bsr f n i ((i + j) / 2) < (i + j) / 2
        · exact h1.2 hb
        · rw [show bsr f n i ((i + j) / 2) = (i + j) / 2 by omega]
          cases hx : f ((i + j) / 2) with
          | true => exact absurd hx hf
          | false => rfl
    · exact ⟨fun h => by omega, fun h => by omega⟩

variable (R : α → α → Prop)
/-- From a to b in order. -/
def Srt (xs : List α) (a b : Nat) : Prop := ∀ i j, a ≤ i → i < j → j < b → R (xs.getD i d) (xs.getD j d)
/-- An order. -/
structure Wk (R : α → α → Prop) : Prop where
  refl : ∀ x, R x x
  trans : ∀ x y z, R x y → R y z → R x z
/-- The comparison of y with x, which stood before it, decides. -/
def Cmp (less : α → α → Bool) (R : α → α → Prop) (x y : α) : Prop := (less y x = true → R y x) ∧ (less y x = false → R x y)
/-- Each element from a to b comes from there; the others stay. -/
structure In (xs ys : List α) (a b : Nat) : Prop where
  len : ys.length = xs.length
  same : ∀ k, k < a ∨ b ≤ k → ys.getD k d = xs.getD k d
  from' : ∀ k, a ≤ k → k < b → ∃ q, a ≤ q ∧ q < b ∧ ys.getD k d = xs.getD q d
theorem In.refl (xs : List α) (a b : Nat) : In d xs xs a b := ⟨rfl, fun _ _ => rfl, fun k h1 h2 => ⟨k, h1, h2, rfl⟩⟩
theorem In.trans {xs ys zs : List α} {a b : Nat} (h : In d xs ys a b) (h' : In d ys zs a b) : In d xs zs a b :=
  ⟨h'.len.trans h.len, fun k hk => (h'.same k hk).trans (h.same k hk), fun k h1 h2 => by
    obtain ⟨q, h3, h4, h5⟩ := h'.from' k h1 h2
    obtain ⟨r, h6, h7, h8⟩ := h.from' q h3 h4
    exact ⟨r, h6, h7, h5.trans h8⟩⟩
theorem In.wide {xs ys : List α} {a b a' b' : Nat} (h : In d xs ys a b) (ha : a' ≤ a) (hb : b ≤ b') : In d xs ys a' b' :=
  ⟨h.len, fun k hk => h.same k (by omega), fun k h1 h2 => by
    by_cases hk : a ≤ k ∧ k < b
    · obtain ⟨q, h3, h4, h5⟩ := h.from' k hk.1 hk.2
      exact ⟨q, by omega, by omega, h5⟩
    · exact ⟨k, h1, h2, h.same k (by omega)⟩⟩

theorem insIn_srt (hw : Wk R) {a t : Nat} : ∀ (j : Nat) (xs : List α), j ≤ t → t < xs.length → (∀ i k, a ≤ i → i < k → k ≤ t → i ≠ j → k ≠ j → R (xs.getD i d) (xs.getD k d)) → (∀ k, j < k → k ≤ t → R (xs.getD j d) (xs.getD k d)) → (∀ i, a ≤ i → i < j → Cmp less R (xs.getD i d) (xs.getD j d)) →
    Srt d R (insIn d less a j xs) a (t + 1) ∧ In d xs (insIn d less a j xs) a (t + 1)
  | 0, xs, hj, ht, h1, h2, _ => by
    rw [insIn]
    refine ⟨fun i k hi hik hk => ?_, In.refl d _ _ _⟩
    by_cases e : i = 0
    · subst e; exact h2 k hik (by omega)
    · exact h1 i k hi hik (by omega) e (by omega)
  | j + 1, xs, hj, ht, h1, h2, h3 => by
    rw [insIn]
    split
    · rename_i hc
      have hg := fun q => sw_get d (xs := xs) (i := j + 1) (j := j) (by omega) (by omega) q
      have hr := insIn_srt hw (a := a) (t := t) j (sw d xs (j + 1) j) (by omega) (by rw [sw_len]; omega) (fun i k hi hik hk hij hkj => by
        simp only [hg, if_true]
        rw [if_neg hkj, if_neg hij]
        by_cases e1 : k = j + 1
        · subst e1
          rw [if_pos rfl, if_neg (by omega)]
          exact h1 i j hi (by omega) (by omega) (by omega) (by omega)
        · rw [if_neg e1]
          by_cases e2 : i = j + 1
          · subst e2
            rw [if_pos rfl]
            exact h1 j k (by omega) (by omega) hk (by omega) e1
          · rw [if_neg e2]
            exact h1 i k hi hik hk e2 e1) (fun k hk hkt => by
        simp only [hg, if_true]
        rw [if_neg (by omega)]
        by_cases e1 : k = j + 1
        · subst e1
          rw [if_pos rfl]
          exact (h3 j (by omega) (by omega)).1 hc.2
        · rw [if_neg e1]
          exact h2 k (by omega) hkt) (fun i hi hij => by
        rw [hg i, hg j, if_neg (by omega), if_neg (by omega), if_pos rfl]
        exact h3 i hi (by omega))
      refine ⟨hr.1, In.trans d ⟨sw_len d _ _ _, fun k hk => by rw [hg, if_neg (by omega), if_neg (by omega)], fun k hk1 hk2 => ?_⟩ hr.2⟩
      rw [hg]
      by_cases e1 : k = j
      · rw [if_pos e1]; exact ⟨j + 1, by omega, by omega, rfl⟩
      · rw [if_neg e1]
        by_cases e2 : k = j + 1
        · rw [if_pos e2]; exact ⟨j, by omega, by omega, rfl⟩
        · rw [if_neg e2]; exact ⟨k, hk1, hk2, rfl⟩
    · rename_i hc
      refine ⟨fun i k hi hik hk => ?_, In.refl d _ _ _⟩
      by_cases e1 : i = j + 1
      · subst e1; exact h2 k hik (by omega)
      · by_cases e2 : k = j + 1
        · subst e2
          have hl : R (xs.getD j d) (xs.getD (j + 1) d) := (h3 j (by omega) (by omega)).2 (by
            cases hb : less (xs.getD (j + 1) d) (xs.getD j d) with
            | false => rfl
            | true => exact absurd ⟨by omega, hb⟩ hc)
          by_cases e3 : i = j
          · subst e3; exact hl
          · exact hw.trans _ _ _ (h1 i j hi (by omega) (by omega) e1 (by omega)) hl
        · exact h1 i k hi hik (by omega) e1 e2
theorem insOut_srt (hw : Wk R) {a : Nat} : ∀ (n i : Nat) (xs : List α), a ≤ i → i + n ≤ xs.length → Srt d R xs a i → (∀ p q, a ≤ p → p < q → i ≤ q → q < i + n → Cmp less R (xs.getD p d) (xs.getD q d)) → Srt d R (insOut d less a n i xs) a (i + n) ∧ In d xs (insOut d less a n i xs) a (i + n)
  | 0, i, xs, _, _, h, _ => ⟨h, In.refl d _ _ _⟩
  | n + 1, i, xs, ha, hl, h, hC => by
    rw [insOut]
    have h1 := insIn_srt d less R hw (a := a) (t := i) i xs (Nat.le_refl _) (by omega) (fun p q hp hpq hq _ hqi => h p q hp hpq (by omega)) (fun k hk hk2 => by omega) (fun p hp hpi => hC p i hp hpi (Nat.le_refl _) (by omega))
    have h2 := insOut_srt hw (a := a) n (i + 1) (insIn d less a i xs) (by omega) (by rw [insIn_len]; omega) h1.1 (fun p q hp hpq hiq hq => by
      rw [h1.2.same q (by omega)]
      by_cases hpi : p < i + 1
      · obtain ⟨p', e1, e2, e3⟩ := h1.2.from' p hp hpi
        rw [e3]
        exact hC p' q e1 (by omega) (by omega) (by omega)
      · rw [h1.2.same p (by omega)]
        exact hC p q hp hpq (by omega) (by omega))
    rw [show i + (n + 1) = i + 1 + n by omega]
    exact ⟨h2.1, In.trans d (h1.2.wide d (Nat.le_refl _) (by omega)) h2.2⟩
theorem insSort_srt (hw : Wk R) {xs : List α} {a b : Nat} (hb : b ≤ xs.length) (hC : ∀ p q, a ≤ p → p < q → q < b → Cmp less R (xs.getD p d) (xs.getD q d)) : Srt d R (insSort d less xs a b) a b ∧ In d xs (insSort d less xs a b) a b := by
  unfold insSort
  by_cases hab : a + 1 ≤ b
  · have := insOut_srt d less R hw (a := a) (b - (a + 1)) (a + 1) xs (by omega) (by omega) (fun i j h1 h2 h3 => by omega) (fun p q hp hpq _ hq => hC p q hp hpq (by omega))
    rw [show a + 1 + (b - (a + 1)) = b by omega] at this
    exact this
  · rw [show b - (a + 1) = 0 by omega]
    exact ⟨fun i j h1 h2 h3 => by omega, In.refl d _ _ _⟩
end
end Go.Proofs.Ytbkonlkffajhkaa
