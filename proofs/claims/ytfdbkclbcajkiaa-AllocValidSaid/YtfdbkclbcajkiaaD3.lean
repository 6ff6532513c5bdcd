/-
  What the assignment is like, in plain Lean. No condition.
-/
import Derived.Test.YtfdbkclbcajkiaaD2
import Derived.Test.YtfdbkclbcajkiaaS7
namespace Go.Proofs.Ytfdbkclbcajkiaa
set_option linter.unusedSimpArgs false
set_option linter.unusedVariables false
open Go.RowKit

theorem occ_mem {u : Nat → Int} {k : Nat} {x : Int} : x ∈ occ u k ↔ ∃ v : Nat, v < k ∧ 0 < u v ∧ x = v := by
  unfold occ
  simp only [List.mem_map, List.mem_filter, List.mem_range, decide_eq_true_eq]
  constructor
  · rintro ⟨v, ⟨h1, h2⟩, rfl⟩; exact ⟨v, h1, h2, rfl⟩
  · rintro ⟨v, h1, h2, rfl⟩; exact ⟨v, ⟨h1, h2⟩, rfl⟩
theorem occ_nodup (u : Nat → Int) (k : Nat) : (occ u k).Nodup := by
  unfold occ
  refine List.Pairwise.map (R := fun a b => a ≠ b) _ (fun a b h => ?_) (List.Pairwise.filter _ List.nodup_range)
  omega
theorem srt_perm (u : Nat → Int) : (srt u).Perm (occ u 28) := stable_perm 0 (lessU u) (occ u 28)
theorem srt_nodup (u : Nat → Int) : (srt u).Nodup := (srt_perm u).nodup_iff.2 (occ_nodup u 28)
theorem srt_mem {u : Nat → Int} {x : Int} : x ∈ srt u ↔ ∃ v : Nat, v < 28 ∧ 0 < u v ∧ x = v := (srt_perm u).mem_iff.trans occ_mem
theorem getD_nodup {l : List Int} (h : l.Nodup) {i j : Nat} (hi : i < l.length) (hj : j < l.length) (e : l.getD i 0 = l.getD j 0) : i = j := by
  rw [List.getD_eq_getElem?_getD, List.getD_eq_getElem?_getD, List.getElem?_eq_getElem hi, List.getElem?_eq_getElem hj] at e
  have hp := List.pairwise_iff_getElem.1 h
  rcases Nat.lt_trichotomy i j with hlt | he | hlt
  · exact absurd e (hp i j hi hj hlt)
  · exact he
  · exact absurd e.symm (hp j i hj hi hlt)
/-- The element k has the number k. -/
theorem asg_get {l : List Int} (hn : l.Nodup) (hv : InV l) : ∀ {r k : Nat}, r ≤ l.length → k < r → asg l r (l.getD k 0).toNat = k
  | 0, k, _, hk => by omega
  | r + 1, k, hr, hk => by
    rw [asg]
    dsimp only
    by_cases e : (l.getD k 0).toNat = (l.getD r 0).toNat
    · have h1 := hv.get (j := k) (by omega)
      have h2 := hv.get (j := r) (by omega)
      have := getD_nodup hn (i := k) (j := r) (by omega) (by omega) (by omega)
      rw [if_pos e, this]
    · rw [if_neg e]
      have hne : k ≠ r := fun h => e (by rw [h])
      exact asg_get hn hv (by omega) (by omega)
/-- What has a number is an element. -/
theorem asg_num {l : List Int} : ∀ {r i : Nat}, 0 ≤ asg l r i → ∃ k, k < r ∧ i = (l.getD k 0).toNat
  | 0, i, h => by simp [asg, noneF] at h
  | r + 1, i, h => by
    rw [asg] at h
    dsimp only at h
    by_cases e : i = (l.getD r 0).toNat
    · exact ⟨r, by omega, e⟩
    · rw [if_neg e] at h
      obtain ⟨k, hk, he⟩ := asg_num h
      exact ⟨k, by omega, he⟩
theorem asg_bd {l : List Int} : ∀ {r i : Nat}, -1 ≤ asg l r i ∧ asg l r i < r
  | 0, i => by simp [asg, noneF]
  | r + 1, i => by
    rw [asg]
    dsimp only
    have := asg_bd (l := l) (r := r) (i := i)
    split <;> omega
/-- How many of the first k have a number. -/
def cnt (f : Nat → Int) (k : Nat) : Nat := ((List.range k).filter fun v => decide (0 ≤ f v)).length
theorem cnt_succ (f : Nat → Int) (k : Nat) : cnt f (k + 1) = cnt f k + (if 0 ≤ f k then 1 else 0) := by
  unfold cnt
  rw [List.range_succ, List.filter_append, List.length_append]
  congr 1
  by_cases h : 0 ≤ f k <;> simp [h]
theorem cnt_le (f : Nat → Int) (k : Nat) : cnt f k ≤ k := by
  unfold cnt
  exact Nat.le_trans (List.length_filter_le _ _) (by simp)
theorem cnt_upd (f : Nat → Int) (x : Nat) (c : Int) (hc : 0 ≤ c) (hx : f x < 0) : ∀ k, cnt (fun i => if i = x then c else f i) k = cnt f k + (if x < k then 1 else 0)
  | 0 => by simp [cnt]
  | k + 1 => by
    rw [cnt_succ, cnt_succ, cnt_upd f x c hc hx k]
    by_cases h : k = x
    · subst h
      simp [hc]
      omega
    · rw [if_neg h]
      by_cases h2 : x < k
      · simp [h2, show x < k + 1 by omega]; omega
      · simp [h2, show ¬ x < k + 1 by omega]
theorem cnt_asg {l : List Int} (hn : l.Nodup) (hv : InV l) : ∀ {r : Nat}, r ≤ l.length → cnt (asg l r) 28 = r
  | 0, _ => by simp [cnt, asg, noneF]
  | r + 1, hr => by
    have h2 := hv.get (j := r) (by omega)
    have hx : asg l r (l.getD r 0).toNat < 0 := by
      rcases Int.lt_or_le (asg l r (l.getD r 0).toNat) 0 with h | h
      · exact h
      · obtain ⟨k, hk, he⟩ := asg_num h
        have h1 := hv.get (j := k) (by omega)
        have := getD_nodup hn (i := r) (j := k) (by omega) (by omega) (by omega)
        omega
    have := cnt_upd (asg l r) (l.getD r 0).toNat (r : Int) (by omega) hx 28
    rw [show asg l (r + 1) = (fun i => if i = (l.getD r 0).toNat then (r : Int) else asg l r i) from rfl, this, cnt_asg hn hv (by omega), if_pos (by omega)]
/-- As many have a number as there are registers, or variables. -/
theorem most_eq (u : Nat → Int) (regs : Int) : (cnt (asgU u regs) 28 : Int) = max 0 (min regs (occ u 28).length) := by
  unfold asgU
  rw [cnt_asg (srt_nodup u) (srt_in u) (by unfold cut; omega), ← srt_len u]
  unfold cut
  omega
/-- What does not occur has no number. -/
theorem asgU_zero {u : Nat → Int} {regs : Int} {v : Nat} (hv : v < 28) (h : u v ≤ 0) : asgU u regs v = -1 := by
  have hb := asg_bd (l := srt u) (r := cut regs (srt u).length) (i := v)
  rcases Int.lt_or_le (asgU u regs v) 0 with h1 | h1
  · unfold asgU at h1 ⊢; omega
  · obtain ⟨k, hk, he⟩ := asg_num h1
    have hkl : k < (srt u).length := by unfold cut at hk; omega
    have hm : (srt u).getD k 0 ∈ srt u := by
      rw [List.getD_eq_getElem?_getD, List.getElem?_eq_getElem hkl]
      exact List.getElem_mem hkl
    obtain ⟨w, _, hw2, hw3⟩ := srt_mem.1 hm
    have : v = w := by omega
    subst this
    omega
theorem asgU_lt (u : Nat → Int) (regs : Int) (v : Nat) : asgU u regs v < 28 := by
  have hb := asg_bd (l := srt u) (r := cut regs (srt u).length) (i := v)
  have h1 := srt_len u
  have h2 := occ_len u 28
  unfold asgU
  have : cut regs (srt u).length ≤ (srt u).length := by unfold cut; omega
  omega
/-- With more registers, every variable keeps its register. -/
theorem asgU_more {u : Nat → Int} {r1 r2 : Int} (h : r1 ≤ r2) {v : Nat} (hv : 0 ≤ asgU u r1 v) : asgU u r2 v = asgU u r1 v := by
  obtain ⟨k, hk, he⟩ := asg_num hv
  have h1 : cut r1 (srt u).length ≤ cut r2 (srt u).length := by unfold cut; omega
  have h2 : cut r2 (srt u).length ≤ (srt u).length := by unfold cut; omega
  unfold asgU
  rw [he, asg_get (srt_nodup u) (srt_in u) (by omega) hk, asg_get (srt_nodup u) (srt_in u) h2 (by omega)]

end Go.Proofs.Ytfdbkclbcajkiaa
