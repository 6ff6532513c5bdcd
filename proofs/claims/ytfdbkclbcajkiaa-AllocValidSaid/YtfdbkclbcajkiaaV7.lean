/-
  When the sorted numbers beyond the registers have no equal neighbours. No condition.
-/
import Derived.Test.YtfdbkclbcajkiaaV6
namespace Go.Proofs.Ytfdbkclbcajkiaa
set_option linter.unusedSimpArgs false
set_option linter.unusedVariables false
open Go.RowKit

theorem spills_nodup {a : Nat → Int} : (spills a 28).Nodup ↔ ∀ i j, i < j → j < 28 → 28 ≤ a i → a i ≠ a j := by
  unfold spills
  constructor
  · intro h i j hij hj hi e
    have hp := List.pairwise_map.1 h
    have hm : ∀ x, x < 28 → 28 ≤ a x → x ∈ (List.range 28).filter fun i => decide (28 ≤ a i) := fun x h1 h2 => List.mem_filter.2 ⟨by simpa using h1, by simpa using h2⟩
    obtain ⟨p, hp1, ep⟩ := List.getElem_of_mem (hm i (by omega) hi)
    obtain ⟨q, hq1, eq⟩ := List.getElem_of_mem (hm j hj (by omega))
    have hall := List.pairwise_iff_getElem.1 hp
    rcases Nat.lt_trichotomy p q with hlt | he | hlt
    · exact hall p q hp1 hq1 hlt (by rw [ep, eq]; exact e)
    · subst he
      rw [ep] at eq
      omega
    · exact hall q p hq1 hp1 hlt (by rw [ep, eq]; exact e.symm)
  · intro h
    refine List.pairwise_map.2 ?_
    have hlt : ((List.range 28).filter fun i => decide (28 ≤ a i)).Pairwise (· < ·) := List.Pairwise.filter _ List.pairwise_lt_range
    refine List.Pairwise.imp_of_mem (fun {x y} hx hy hxy => ?_) hlt
    have h1 := List.mem_filter.1 hx
    have h2 := List.mem_filter.1 hy
    exact h x y hxy (by simpa using h2.1) (by simpa using h1.2)
theorem srt_nopair {ys : List Int} (hs : Srt 0 (fun x y : Int => x ≤ y) ys 0 ys.length) : NoPair ys ↔ ys.Nodup := by
  constructor
  · intro h
    refine List.pairwise_iff_getElem.2 fun i j hi hj hij => ?_
    have g : ∀ k (hk : k < ys.length), ys.getD k 0 = ys[k] := fun k hk => by rw [List.getD_eq_getElem?_getD, List.getElem?_eq_getElem hk]; rfl
    have h1 := h i (by omega)
    have h2 := hs i (i + 1) (Nat.zero_le _) (by omega) (by omega)
    rw [← g i hi, ← g j hj]
    rcases Nat.lt_or_eq_of_le (show i + 1 ≤ j by omega) with h3 | h3
    · have h4 := hs (i + 1) j (Nat.zero_le _) h3 hj
      dsimp only at h2 h4
      omega
    · rw [← h3]; exact h1
  · intro h i hi e
    have := getD_nodup h (i := i) (j := i + 1) (by omega) hi e
    omega
theorem VSt.succ {a : Nat → Int} {regs : Int} {k : Nat} (h : VSt a regs k) (hr : -1 ≤ a k ∧ a k < max regs 0 ∧ (k = 19 → a k = -1)) (hi : ∀ i, i < k → 0 ≤ a i → a i < 28 → a i ≠ a k) : VSt a regs (k + 1) :=
  ⟨fun i hik => by
    by_cases e : i = k
    · subst e; exact hr
    · exact h.rng i (by omega), fun i j hij hj h0 h1 => by
    by_cases e : j = k
    · subst e; exact hi i hij h0 h1
    · exact h.inj i j hij (by omega) h0 h1⟩
theorem valid_end {a : Nat → Int} {regs : Int} (h : VSt a regs 28) {ys : List Int} (hp : ys.Perm (spills a 28)) (hs : Srt 0 (fun x y : Int => x ≤ y) ys 0 ys.length) : NoPair ys ↔ ValidP a regs := by
  rw [srt_nopair hs, hp.nodup_iff, spills_nodup]
  constructor
  · intro hn
    refine ⟨fun i hi => ?_, fun i j hij hj h0 => ?_⟩
    · have := h.rng i hi
      exact ⟨this.1, fun h0 => by omega, this.2.2⟩
    · rcases Int.lt_or_le (a i) 28 with h1 | h1
      · exact h.inj i j hij hj h0 h1
      · exact hn i j hij hj h1
  · intro hv i j hij hj hi
    exact hv.2 i j hij hj (by omega)

end Go.Proofs.Ytfdbkclbcajkiaa
