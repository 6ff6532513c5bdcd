/-
  In which order the registers are given, in plain Lean. No condition.
-/
import Derived.Test.YtfdbkclbcajkiaaD3
import Derived.Test.YtfdbkclbcajkiaaS9
namespace Go.Proofs.Ytfdbkclbcajkiaa
set_option linter.unusedSimpArgs false
set_option linter.unusedVariables false
open Go.RowKit

/-- More uses come first; of as many, the lesser variable. -/
def RU (u : Nat → Int) (x y : Int) : Prop := u y.toNat < u x.toNat ∨ (u x.toNat = u y.toNat ∧ x ≤ y)
theorem RU.wk (u : Nat → Int) : Wk (RU u) := ⟨fun x => .inr ⟨rfl, Int.le_refl _⟩, fun x y z h1 h2 => by
  unfold RU at *
  omega⟩
theorem occ_pair (u : Nat → Int) (k : Nat) : (occ u k).Pairwise (· < ·) := by
  unfold occ
  refine List.Pairwise.map (R := fun a b => a < b) _ (fun a b h => by omega) (List.Pairwise.filter _ List.pairwise_lt_range)
theorem srt_ord (u : Nat → Int) : Srt 0 (RU u) (srt u) 0 (srt u).length := by
  have hl := occ_len u 28
  have := stable_srt 0 (lessU u) (RU u) (RU.wk u) (xs := occ u 28) (by omega) (fun p q hpq hq => by
    have hp := List.pairwise_iff_getElem.1 (occ_pair u 28) p q (by omega) hq hpq
    have e1 : (occ u 28).getD p 0 = (occ u 28)[p] := by rw [List.getD_eq_getElem?_getD, List.getElem?_eq_getElem (by omega)]; rfl
    have e2 : (occ u 28).getD q 0 = (occ u 28)[q] := by rw [List.getD_eq_getElem?_getD, List.getElem?_eq_getElem hq]; rfl
    rw [e1, e2]
    unfold Cmp lessU RU
    simp only [decide_eq_true_eq, decide_eq_false_iff_not]
    omega)
  rw [srt_len]
  exact this
theorem getD_mem {l : List Int} {k : Nat} (h : k < l.length) : l.getD k 0 ∈ l := by
  rw [List.getD_eq_getElem?_getD, List.getElem?_eq_getElem h]
  exact List.getElem_mem h
/-- Where a variable stands that occurs. -/
theorem srt_at {u : Nat → Int} {v : Nat} (hv : v < 28) (h : 0 < u v) : ∃ q, q < (srt u).length ∧ (srt u).getD q 0 = v := by
  have : (v : Int) ∈ srt u := srt_mem.2 ⟨v, hv, h, rfl⟩
  obtain ⟨q, hq, e⟩ := List.getElem_of_mem this
  exact ⟨q, hq, by rw [List.getD_eq_getElem?_getD, List.getElem?_eq_getElem hq]; exact e⟩
theorem srt_pos {u : Nat → Int} {q : Nat} (hq : q < (srt u).length) : 0 < u ((srt u).getD q 0).toNat := by
  obtain ⟨v, h1, h2, h3⟩ := srt_mem.1 (getD_mem hq)
  rw [h3]
  simpa using h2
/-- What has a register is used as much as what has none, or a later one. -/
theorem asg_pref {u : Nat → Int} {regs : Int} {i j : Nat} (hi : i < 28) (hj : j < 28) (h : 0 ≤ asgU u regs i) (h2 : asgU u regs j < 0 ∨ asgU u regs i < asgU u regs j) : ¬ u i < u j ∧ ¬ (u i = u j ∧ j < i ∧ 0 < u j) := by
  have hc : cut regs (srt u).length ≤ (srt u).length := by unfold cut; omega
  unfold asgU at h h2
  obtain ⟨p, hp, ep⟩ := asg_num h
  have ea : asg (srt u) (cut regs (srt u).length) i = p := by rw [ep]; exact asg_get (srt_nodup u) (srt_in u) hc hp
  have hpi := (srt_in u).get (j := p) (by omega)
  by_cases hu : 0 < u j
  · obtain ⟨q, hq, eq⟩ := srt_at hj hu
    have hpq : p < q := by
      by_cases hqc : q < cut regs (srt u).length
      · have eb : asg (srt u) (cut regs (srt u).length) j = q := by
          have := asg_get (srt_nodup u) (srt_in u) hc hqc
          rw [eq] at this
          simpa using this
        omega
      · omega
    have := srt_ord u p q (Nat.zero_le _) hpq hq
    unfold RU at this
    rw [eq, ← ep] at this
    simp only [Int.toNat_natCast] at this
    omega
  · have := srt_pos (u := u) (q := p) (by omega)
    rw [← ep] at this
    omega

/-- The best of the first k that have none of the first r numbers. -/
def Best (u : Nat → Int) (r k : Nat) (b : Int) : Prop :=
  (b = -1 ∧ ∀ v : Nat, v < k → asg (srt u) r v < 0 → u v ≤ 0) ∨
  (∃ n : Nat, b = n ∧ n < k ∧ asg (srt u) r n < 0 ∧ 0 < u n ∧ ∀ v : Nat, v < k → asg (srt u) r v < 0 → 0 < u v → RU u n v)
theorem Best.zero (u : Nat → Int) (r : Nat) : Best u r 0 (-1) := .inl ⟨rfl, fun v h => by omega⟩
theorem Best.take {u : Nat → Int} {r k : Nat} {b : Int} (h : Best u r k b) (h1 : asg (srt u) r k < 0) (h2 : 0 < u k) (h3 : b < 0 ∨ u k > u b.toNat) : Best u r (k + 1) k := by
  refine .inr ⟨k, rfl, by omega, h1, h2, fun v hv h4 h5 => ?_⟩
  rcases h with ⟨rfl, h⟩ | ⟨n, rfl, hn, h6, h7, h8⟩
  · by_cases e : v = k
    · subst e; exact .inr ⟨rfl, Int.le_refl _⟩
    · have := h v (by omega) h4; omega
  · by_cases e : v = k
    · subst e; exact .inr ⟨rfl, Int.le_refl _⟩
    · have := h8 v (by omega) h4 h5
      unfold RU at *
      simp only [Int.toNat_natCast] at *
      omega
theorem Best.skip {u : Nat → Int} {r k : Nat} {b : Int} (h : Best u r k b) (hx : ¬ (asg (srt u) r k < 0 ∧ 0 < u k ∧ (b < 0 ∨ u k > u b.toNat))) : Best u r (k + 1) b := by
  rcases h with ⟨rfl, h⟩ | ⟨n, rfl, hn, h6, h7, h8⟩
  · refine .inl ⟨rfl, fun v hv h4 => ?_⟩
    by_cases e : v = k
    · subst e
      rcases Int.lt_or_le 0 (u v) with h5 | h5
      · exact absurd ⟨h4, h5, .inl (by omega)⟩ hx
      · exact h5
    · exact h v (by omega) h4
  · refine .inr ⟨n, rfl, by omega, h6, h7, fun v hv h4 h5 => ?_⟩
    by_cases e : v = k
    · subst e
      unfold RU
      simp only [Int.toNat_natCast]
      by_cases h9 : u v > u n
      · exact absurd ⟨h4, h5, .inr (by simpa using h9)⟩ hx
      · omega
    · exact h8 v (by omega) h4 h5
theorem Best.bd {u : Nat → Int} {r k : Nat} {b : Int} (h : Best u r k b) : -1 ≤ b ∧ b < k := by
  rcases h with ⟨rfl, h⟩ | ⟨n, rfl, hn, h6, h7, h8⟩ <;> omega
/-- What the search finds is the next in order. -/
theorem Best.done {u : Nat → Int} {r : Nat} {b : Int} (hr : r ≤ (srt u).length) (h : Best u r 28 b) : (r < (srt u).length → b = (srt u).getD r 0) ∧ (r = (srt u).length → b = -1) := by
  have free : ∀ {q : Nat}, r ≤ q → q < (srt u).length → asg (srt u) r ((srt u).getD q 0).toNat < 0 := by
    intro q h1 h2
    rcases Int.lt_or_le (asg (srt u) r ((srt u).getD q 0).toNat) 0 with h3 | h3
    · exact h3
    · obtain ⟨k, hk, ek⟩ := asg_num h3
      have e1 := (srt_in u).get (j := q) h2
      have e2 := (srt_in u).get (j := k) (by omega)
      have := getD_nodup (srt_nodup u) (i := q) (j := k) h2 (by omega) (by omega)
      omega
  refine ⟨fun hlt => ?_, fun he => ?_⟩
  · have e1 := (srt_in u).get (j := r) hlt
    have hp := srt_pos hlt
    rcases h with ⟨rfl, h⟩ | ⟨n, rfl, hn, h6, h7, h8⟩
    · have := h ((srt u).getD r 0).toNat (by omega) (free (Nat.le_refl _) hlt)
      omega
    · obtain ⟨q, hq, eq⟩ := srt_at hn h7
      have hrq : r ≤ q := by
        rcases Nat.lt_or_ge q r with h9 | h9
        · have := asg_get (srt_nodup u) (srt_in u) hr h9
          rw [eq] at this
          simp only [Int.toNat_natCast] at this
          omega
        · exact h9
      rcases Nat.lt_or_eq_of_le hrq with h9 | h9
      · have g1 := srt_ord u r q (Nat.zero_le _) h9 hq
        have g2 := h8 _ (by omega) (free (Nat.le_refl _) hlt) hp
        rw [eq] at g1
        unfold RU at g1 g2
        simp only [Int.toNat_natCast] at g1 g2
        omega
      · rw [h9]; exact eq.symm
  · rcases h with ⟨rfl, h⟩ | ⟨n, rfl, hn, h6, h7, h8⟩
    · rfl
    · obtain ⟨q, hq, eq⟩ := srt_at hn h7
      have := asg_get (srt_nodup u) (srt_in u) hr (show q < r by omega)
      rw [eq] at this
      simp only [Int.toNat_natCast] at this
      omega

end Go.Proofs.Ytfdbkclbcajkiaa
