/-
  The stable sort sorts. Condition: fewer than 40 elements.
-/
import Derived.Test.YtbkonlkffajhkaaS8
namespace Go.Proofs.Ytbkonlkffajhkaa
set_option linter.unusedSimpArgs false
set_option linter.unusedVariables false

section
variable {α : Type} (d : α) (less : α → α → Bool) (R : α → α → Prop)

theorem Srt.congr {xs ys : List α} {a b : Nat} (h : Srt d R xs a b) (he : ∀ k, a ≤ k → k < b → ys.getD k d = xs.getD k d) : Srt d R ys a b := fun i j h1 h2 h3 => by
  rw [he i h1 (by omega), he j (by omega) h3]
  exact h i j h1 h2 h3
/-- Two sorted parts, none of the second before one of the first. -/
theorem Srt.join {xs : List α} {a m b : Nat} (h1 : Srt d R xs a m) (h2 : Srt d R xs m b) (h : ∀ i j, a ≤ i → i < m → m ≤ j → j < b → R (xs.getD i d) (xs.getD j d)) : Srt d R xs a b := fun i j hi hij hj => by
  by_cases hjm : j < m
  · exact h1 i j hi hij hjm
  · by_cases him : i < m
    · exact h i j hi him (by omega) hj
    · exact h2 i j (by omega) hij hj
theorem Srt.le {xs : List α} {a b : Nat} (hw : Wk R) (h : Srt d R xs a b) {i j : Nat} (hi : a ≤ i) (hij : i ≤ j) (hj : j < b) : R (xs.getD i d) (xs.getD j d) := by
  rcases Nat.lt_or_eq_of_le hij with hlt | rfl
  · exact h i j hi hlt hj
  · exact hw.refl _

theorem symM_srt (hw : Wk R) : ∀ (f : Nat) (xs : List α) (a m b : Nat), a < m → m < b → b ≤ xs.length → b - a ≤ f → Srt d R xs a m → Srt d R xs m b → (∀ i j, a ≤ i → i < m → m ≤ j → j < b → Cmp less R (xs.getD i d) (xs.getD j d)) → Srt d R (symM d less f xs a m b) a b ∧ In d xs (symM d less f xs a m b) a b
  | 0, xs, a, m, b, h1, h2, h3, hf, _, _, _ => by omega
  | f + 1, xs, a, m, b, h1, h2, h3, hf, s1, s2, cr => by
    by_cases hm1 : m - a = 1
    · rw [symM_1 d less hm1]
      have hr := bsr_range (f := fun h => less (xs.getD h d) (xs.getD a d)) (b - m) m b (by omega)
      have hs := bsr_spec (f := fun h => less (xs.getD h d) (xs.getD a d)) (b - m) m b (by omega) (by omega)
      generalize bsr (fun h => less (xs.getD h d) (xs.getD a d)) (b - m) m b = r at hr hs
      have hg := up_get d (r - 1 - a) xs a (by omega)
      rw [show a + (r - 1 - a) = r - 1 by omega] at hg
      have lo : ∀ k, m ≤ k → k < r → R (xs.getD k d) (xs.getD a d) := fun k hk1 hk2 => by
        have e1 := (cr a (r - 1) (by omega) (by omega) (by omega) (by omega)).1 (hs.1 (by omega))
        exact hw.trans _ _ _ (s2.le d R hw (i := k) (j := r - 1) hk1 (by omega) (by omega)) e1
      have hi : ∀ k, r ≤ k → k < b → R (xs.getD a d) (xs.getD k d) := fun k hk1 hk2 =>
        hw.trans _ _ _ ((cr a r (by omega) (by omega) (by omega) (by omega)).2 (hs.2 (by omega))) (s2.le d R hw (i := r) (j := k) (by omega) hk1 hk2)
      refine ⟨fun i j hi1 hij hj => ?_, up_len d _ _ _, fun k hk => ?_, fun k hk1 hk2 => ?_⟩
      · rw [hg, hg]
        by_cases e1 : j = r - 1
        · rw [if_pos e1, if_neg (by omega), if_pos (by omega)]
          exact lo (i + 1) (by omega) (by omega)
        · rw [if_neg e1]
          by_cases e2 : i = r - 1
          · rw [if_pos e2, if_neg (by omega)]
            exact hi j (by omega) hj
          · rw [if_neg e2]
            by_cases e3 : a ≤ j ∧ j < r - 1
            · rw [if_pos e3, if_pos (by omega)]
              exact s2 (i + 1) (j + 1) (by omega) (by omega) (by omega)
            · rw [if_neg e3]
              by_cases e4 : a ≤ i ∧ i < r - 1
              · rw [if_pos e4]
                exact s2 (i + 1) j (by omega) (by omega) hj
              · rw [if_neg e4]
                exact s2 i j (by omega) hij hj
      · rw [hg, if_neg (by omega), if_neg (by omega)]
      · rw [hg]
        by_cases e1 : k = r - 1
        · rw [if_pos e1]; exact ⟨a, by omega, by omega, rfl⟩
        · rw [if_neg e1]
          by_cases e2 : a ≤ k ∧ k < r - 1
          · rw [if_pos e2]; exact ⟨k + 1, by omega, by omega, rfl⟩
          · rw [if_neg e2]; exact ⟨k, hk1, hk2, rfl⟩
    · by_cases hm2 : b - m = 1
      · rw [symM_2 d less hm1 hm2]
        have hr := bsr_range (f := fun h => !less (xs.getD m d) (xs.getD h d)) (m - a) a m (by omega)
        have hs := bsr_spec (f := fun h => !less (xs.getD m d) (xs.getD h d)) (m - a) a m (by omega) (by omega)
        generalize bsr (fun h => !less (xs.getD m d) (xs.getD h d)) (m - a) a m = r at hr hs
        simp only [Bool.not_eq_true', Bool.not_eq_false'] at hs
        have hg := down_get d (m - r) xs m (by omega) (by omega)
        rw [show m - (m - r) = r by omega] at hg
        have lo : ∀ k, a ≤ k → k < r → R (xs.getD k d) (xs.getD m d) := fun k hk1 hk2 =>
          hw.trans _ _ _ (s1.le d R hw (i := k) (j := r - 1) hk1 (by omega) (by omega)) ((cr (r - 1) m (by omega) (by omega) (by omega) (by omega)).2 (hs.1 (by omega)))
        have hi : ∀ k, r ≤ k → k < m → R (xs.getD m d) (xs.getD k d) := fun k hk1 hk2 =>
          hw.trans _ _ _ ((cr r m (by omega) (by omega) (by omega) (by omega)).1 (hs.2 (by omega))) (s1.le d R hw (i := r) (j := k) (by omega) hk1 hk2)
        refine ⟨fun i j hi1 hij hj => ?_, down_len d _ _ _, fun k hk => ?_, fun k hk1 hk2 => ?_⟩
        · rw [hg, hg]
          by_cases e1 : j = r
          · rw [if_pos e1, if_neg (by omega), if_neg (by omega)]
            exact lo i hi1 (by omega)
          · rw [if_neg e1]
            by_cases e2 : i = r
            · rw [if_pos e2, if_pos (by omega)]
              exact hi (j - 1) (by omega) (by omega)
            · rw [if_neg e2]
              by_cases e3 : r < j ∧ j ≤ m
              · rw [if_pos e3]
                by_cases e4 : r < i ∧ i ≤ m
                · rw [if_pos e4]; exact s1 (i - 1) (j - 1) (by omega) (by omega) (by omega)
                · rw [if_neg e4]; exact s1 i (j - 1) (by omega) (by omega) (by omega)
              · rw [if_neg e3, if_neg (by omega)]
                exact s1 i j (by omega) hij (by omega)
        · rw [hg, if_neg (by omega), if_neg (by omega)]
        · rw [hg]
          by_cases e1 : k = r
          · rw [if_pos e1]; exact ⟨m, by omega, by omega, rfl⟩
          · rw [if_neg e1]
            by_cases e2 : r < k ∧ k ≤ m
            · rw [if_pos e2]; exact ⟨k - 1, by omega, by omega, rfl⟩
            · rw [if_neg e2]; exact ⟨k, hk1, hk2, rfl⟩
      · obtain ⟨mid, hmid⟩ : ∃ mid, mid = (a + b) / 2 := ⟨_, rfl⟩
        obtain ⟨s0, hs0⟩ : ∃ s0, s0 = if mid < m then mid + m - b else a := ⟨_, rfl⟩
        obtain ⟨r0, hr0⟩ : ∃ r0, r0 = if mid < m then mid else m := ⟨_, rfl⟩
        obtain ⟨start, hst⟩ : ∃ start, start = bsr (fun c => !less (xs.getD (mid + m - 1 - c) d) (xs.getD c d)) (r0 - s0) s0 r0 := ⟨_, rfl⟩
        obtain ⟨e, he⟩ : ∃ e, e = mid + m - start := ⟨_, rfl⟩
        obtain ⟨xs1, hx1⟩ : ∃ xs1, xs1 = if start < m ∧ m < e then rot d (e - start) xs m (m - start) (e - m) else xs := ⟨_, rfl⟩
        obtain ⟨xs2, hx2⟩ : ∃ xs2, xs2 = if a < start ∧ start < mid then symM d less f xs1 a start mid else xs1 := ⟨_, rfl⟩
        rw [symM_3 d less hm1 hm2 hmid hs0 hr0 hst he hx1 hx2]
        have b0 : a ≤ s0 ∧ s0 ≤ r0 ∧ r0 ≤ mid ∧ r0 ≤ m ∧ (s0 = a ∨ s0 + b = mid + m) ∧ (r0 = m ∨ r0 = mid) ∧ mid + m ≤ s0 + b := by
          split at hs0 <;> split at hr0 <;> omega
        have hr := bsr_range (f := fun c => !less (xs.getD (mid + m - 1 - c) d) (xs.getD c d)) (r0 - s0) s0 r0 (by omega)
        have hs := bsr_spec (f := fun c => !less (xs.getD (mid + m - 1 - c) d) (xs.getD c d)) (r0 - s0) s0 r0 (by omega) (by omega)
        rw [← hst] at hr hs
        simp only [Bool.not_eq_true', Bool.not_eq_false'] at hs
        clear hst hs0 hr0
        have bm : m ≤ e ∧ e ≤ b ∧ a ≤ start ∧ start ≤ m ∧ start ≤ mid ∧ mid ≤ e := by omega
        -- the places behind the rotation
        have g1 : ∀ k, xs1.getD k d = if start ≤ k ∧ k < mid then xs.getD (k + (m - start)) d else if mid ≤ k ∧ k < e then xs.getD (k - (e - m)) d else xs.getD k d := by
          intro k
          rw [hx1]
          by_cases hc : start < m ∧ m < e
          · rw [if_pos hc, rot_get d (e - start) xs m (m - start) (e - m) (by omega) (by omega) (by omega) (by omega) (by omega) k]
            rw [show m - (m - start) = start by omega, show start + (e - m) = mid by omega, show m + (e - m) = e by omega]
          · rw [if_neg hc]
            by_cases c1 : start ≤ k ∧ k < mid
            · rw [if_pos c1]
              congr 1
              omega
            · rw [if_neg c1]
              by_cases c2 : mid ≤ k ∧ k < e
              · rw [if_pos c2]
                congr 1
                omega
              · rw [if_neg c2]
        have l1 : xs1.length = xs.length := by
          rw [hx1]
          split
          · exact rot_len d _ _ _ _ _
          · rfl
        have i1 : In d xs xs1 a b := ⟨l1, fun k hk => by rw [g1, if_neg (by omega), if_neg (by omega)], fun k hk1 hk2 => by
          rw [g1]
          by_cases c1 : start ≤ k ∧ k < mid
          · rw [if_pos c1]; exact ⟨k + (m - start), by omega, by omega, rfl⟩
          · rw [if_neg c1]
            by_cases c2 : mid ≤ k ∧ k < e
            · rw [if_pos c2]; exact ⟨k - (e - m), by omega, by omega, rfl⟩
            · rw [if_neg c2]; exact ⟨k, hk1, hk2, rfl⟩⟩
        -- what lies on the two sides
        have lr : ∀ p q, (a ≤ p ∧ p < start ∨ m ≤ p ∧ p < e) → (start ≤ q ∧ q < m ∨ e ≤ q ∧ q < b) → R (xs.getD p d) (xs.getD q d) := by
          intro p q hp hq
          rcases hp with hp | hp <;> rcases hq with hq | hq
          · exact s1.le d R hw hp.1 (by omega) hq.2
          · have h4 := hs.1 (by omega)
            rw [show mid + m - 1 - (start - 1) = e by omega] at h4
            replace h4 := (cr (start - 1) e (by omega) (by omega) (by omega) (by omega)).2 h4
            exact hw.trans _ _ _ (hw.trans _ _ _ (s1.le d R hw (i := p) (j := start - 1) hp.1 (by omega) (by omega)) h4) (s2.le d R hw (i := e) (j := q) (by omega) hq.1 hq.2)
          · have h4 := hs.2 (by omega)
            rw [show mid + m - 1 - start = e - 1 by omega] at h4
            replace h4 := (cr start (e - 1) (by omega) (by omega) (by omega) (by omega)).1 h4
            exact hw.trans _ _ _ (hw.trans _ _ _ (s2.le d R hw (i := p) (j := e - 1) hp.1 (by omega) (by omega)) h4) (s1.le d R hw (i := start) (j := q) (by omega) hq.1 hq.2)
          · exact s2.le d R hw hp.1 (by omega) hq.2
        have lr1 : ∀ p q, a ≤ p → p < mid → mid ≤ q → q < b → R (xs1.getD p d) (xs1.getD q d) := by
          intro p q hp1 hp2 hq1 hq2
          have ep : ∃ p', (a ≤ p' ∧ p' < start ∨ m ≤ p' ∧ p' < e) ∧ xs1.getD p d = xs.getD p' d := by
            rw [g1]
            by_cases c1 : start ≤ p ∧ p < mid
            · rw [if_pos c1]; exact ⟨_, by omega, rfl⟩
            · rw [if_neg c1, if_neg (by omega)]; exact ⟨_, by omega, rfl⟩
          have eq : ∃ q', (start ≤ q' ∧ q' < m ∨ e ≤ q' ∧ q' < b) ∧ xs1.getD q d = xs.getD q' d := by
            rw [g1, if_neg (by omega)]
            by_cases c1 : mid ≤ q ∧ q < e
            · rw [if_pos c1]; exact ⟨_, by omega, rfl⟩
            · rw [if_neg c1]; exact ⟨_, by omega, rfl⟩
          obtain ⟨p', hp', e1⟩ := ep
          obtain ⟨q', hq', e2⟩ := eq
          rw [e1, e2]
          exact lr p' q' hp' hq'
        have gA : ∀ k, k < start → xs1.getD k d = xs.getD k d := fun k h => by rw [g1, if_neg (by omega), if_neg (by omega)]
        have gB : ∀ k, start ≤ k → k < mid → xs1.getD k d = xs.getD (k + (m - start)) d := fun k h h' => by rw [g1, if_pos (by omega)]
        have gC : ∀ k, mid ≤ k → k < e → xs1.getD k d = xs.getD (k - (e - m)) d := fun k h h' => by rw [g1, if_neg (by omega), if_pos (by omega)]
        have gD : ∀ k, e ≤ k → xs1.getD k d = xs.getD k d := fun k h => by rw [g1, if_neg (by omega), if_neg (by omega)]
        have t1 : Srt d R xs1 a start := fun i j x y z => by
          rw [gA i (by omega), gA j z]
          exact s1 i j x y (by omega)
        have t2 : Srt d R xs1 start mid := fun i j x y z => by
          rw [gB i x (by omega), gB j (by omega) z]
          exact s2 _ _ (by omega) (by omega) (by omega)
        have t3 : Srt d R xs1 mid e := fun i j x y z => by
          rw [gC i x (by omega), gC j (by omega) z]
          exact s1 _ _ (by omega) (by omega) (by omega)
        have t4 : Srt d R xs1 e b := fun i j x y z => by
          rw [gD i x, gD j (by omega)]
          exact s2 _ _ (by omega) (by omega) (by omega)
        -- the first half
        have u : Srt d R xs2 a mid ∧ In d xs1 xs2 a mid := by
          rw [hx2]
          by_cases hc : a < start ∧ start < mid
          · rw [if_pos hc]
            exact symM_srt hw f xs1 a start mid hc.1 hc.2 (by omega) (by omega) t1 t2 (fun i j x1 x2 x3 x4 => by rw [gA i x2, gB j x3 x4]; exact cr _ _ (by omega) (by omega) (by omega) (by omega))
          · rw [if_neg hc]
            refine ⟨?_, In.refl d _ _ _⟩
            by_cases ha : a < start
            · have : start = mid := by omega
              rw [← this]; exact t1
            · have : a = start := by omega
              rw [this]; exact t2
        have v3 : Srt d R xs2 mid e := t3.congr d R fun k hk1 hk2 => u.2.same k (.inr hk1)
        have v4 : Srt d R xs2 e b := t4.congr d R fun k hk1 hk2 => u.2.same k (.inr (by omega))
        -- the second half
        have w : Srt d R (if mid < e ∧ e < b then symM d less f xs2 mid e b else xs2) mid b ∧ In d xs2 (if mid < e ∧ e < b then symM d less f xs2 mid e b else xs2) mid b := by
          by_cases hc : mid < e ∧ e < b
          · rw [if_pos hc]
            exact symM_srt hw f xs2 mid e b hc.1 hc.2 (by rw [u.2.len]; omega) (by omega) v3 v4 (fun i j x1 x2 x3 x4 => by rw [u.2.same i (.inr x1), u.2.same j (.inr (by omega)), gC i x1 x2, gD j x3]; exact cr _ _ (by omega) (by omega) (by omega) (by omega))
          · rw [if_neg hc]
            refine ⟨?_, In.refl d _ _ _⟩
            by_cases ha : mid < e
            · have : e = b := by omega
              rw [← this]; exact v3
            · have : mid = e := by omega
              rw [this]; exact v4
        generalize (if mid < e ∧ e < b then symM d less f xs2 mid e b else xs2) = zs at w
        refine ⟨Srt.join d R (m := mid) (u.1.congr d R fun k hk1 hk2 => w.2.same k (.inl hk2)) w.1 fun i j hi1 hi2 hj1 hj2 => ?_, i1.trans d ((u.2.wide d (Nat.le_refl _) (by omega)).trans d (w.2.wide d (by omega) (Nat.le_refl _)))⟩
        rw [w.2.same i (.inl hi2)]
        obtain ⟨p, hp1, hp2, ep⟩ := u.2.from' i hi1 hi2
        obtain ⟨q, hq1, hq2, eq⟩ := w.2.from' j hj1 hj2
        rw [ep, eq, u.2.same q (.inr hq1)]
        exact lr1 p q hp1 hp2 hq1 hq2

/-- The stable sort sorts. -/
theorem stable_srt (hw : Wk R) {xs : List α} (h : xs.length < 40) (hC : ∀ p q, p < q → q < xs.length → Cmp less R (xs.getD p d) (xs.getD q d)) : Srt d R (stable d less xs) 0 xs.length := by
  unfold stable
  obtain ⟨n, hn⟩ : ∃ n, n = xs.length := ⟨_, rfl⟩
  rw [← hn]
  rw [← hn] at h hC
  by_cases h20 : 20 ≤ n
  · have a1 := insSort_srt d less R hw (xs := xs) (a := 0) (b := 20) (by omega) (fun p q _ x y => hC p q x (by omega))
    have l1 := insSort_len d less xs 0 20
    have a2 := insSort_srt d less R hw (xs := insSort d less xs 0 20) (a := 0 + 20) (b := n) (by omega) (fun p q x y z => by
      rw [a1.2.same p (.inr (by omega)), a1.2.same q (.inr (by omega))]
      exact hC p q y z)
    have l2 := insSort_len d less (insSort d less xs 0 20) (0 + 20) n
    rw [blocks_go d less (by omega) (by omega) (by omega), blocks_done d less (by omega)]
    generalize insSort d less (insSort d less xs 0 20) (0 + 20) n = ys at a2 l2
    have k1 : Srt d R ys 0 20 := a1.1.congr d R fun k hk1 hk2 => a2.2.same k (.inl (by omega))
    have k2 : Srt d R ys 20 n := a2.1
    by_cases h21 : 20 < n
    · rw [levels_go d less h21 (by omega), levels_done d less (by omega), merges_done d less (by omega), if_pos (by omega)]
      refine (symM_srt d less R hw n ys 0 (0 + 20) n (by omega) (by omega) (by omega) (by omega) k1 k2 fun i j x1 x2 x3 x4 => ?_).1
      obtain ⟨q, y1, y2, y3⟩ := a2.2.from' j x3 x4
      rw [y3, a1.2.same q (.inr (by omega)), a2.2.same i (.inl x2)]
      obtain ⟨p, z1, z2, z3⟩ := a1.2.from' i x1 (by omega)
      rw [z3]
      exact hC p q (by omega) y2
    · rw [levels_done d less h21]
      have : n = 20 := by omega
      subst this
      exact k1
  · rw [levels_done d less (by omega), blocks_done d less (by omega)]
    exact (insSort_srt d less R hw (xs := xs) (a := 0) (b := n) (by omega) (fun p q _ x y => hC p q x y)).1
end
end Go.Proofs.Ytbkonlkffajhkaa
