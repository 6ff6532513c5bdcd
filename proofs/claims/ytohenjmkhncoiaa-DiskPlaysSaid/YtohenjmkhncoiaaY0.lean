/-
  Maps that are walked over while entries are deleted, in plain Lean. No condition.
-/
import Derived.Test.YtohenjmkhncoiaaKC
namespace Go.Proofs.Ytohenjmkhncoiaa
set_option linter.unusedSimpArgs false
set_option linter.unusedVariables false
open Go.RowKit

theorem filter_lt {α : Type} {p q : α → Bool} {l : List α} (h : ∀ x ∈ l, p x = true → q x = true) {m : α} (hm : m ∈ l) (h1 : q m = true) (h2 : p m = false) : (l.filter p).length < (l.filter q).length := by
  induction l with
  | nil => simp at hm
  | cons y r ih =>
    have hle : ∀ r : List α, (∀ x ∈ r, p x = true → q x = true) → (r.filter p).length ≤ (r.filter q).length := by
      intro r
      induction r with
      | nil => intro _; simp
      | cons z s ihs =>
        intro hz
        have := ihs fun x hx => hz x (List.mem_cons_of_mem _ hx)
        have hz0 := hz z (List.mem_cons_self ..)
        cases hp : p z <;> cases hq : q z <;> simp [hp, hq] at hz0 ⊢ <;> omega
    have h3 := hle r fun x hx => h x (List.mem_cons_of_mem _ hx)
    have hy := h y (List.mem_cons_self ..)
    rcases List.mem_cons.1 hm with rfl | hm
    · simp [h1, h2]; omega
    · have := ih (fun x hx => h x (List.mem_cons_of_mem _ hx)) hm
      cases hp : p y <;> cases hq : q y <;> simp [hp, hq] at hy ⊢ <;> omega
/-- The entries that are not visited yet. -/
def lft {α : Type} (ms done : List (α × Nat)) : Nat := (ms.filter fun q => decide (q.2 ∉ done.map (·.2))).length
theorem lft_lt {α : Type} {ms done : List (α × Nat)} {m : α × Nat} (hm : m ∈ ms) (h : m.2 ∉ done.map (·.2)) : lft ms (done ++ [m]) < lft ms done := by
  refine filter_lt (fun x _ hx => ?_) hm ?_ ?_
  · simp only [decide_eq_true_eq, List.map_append, List.mem_append, not_or] at hx ⊢
    exact hx.1
  · simpa only [decide_eq_true_eq] using h
  · simp
theorem lft_nil {α : Type} (ms : List (α × Nat)) : lft ms [] = ms.length := by
  unfold lft
  rw [List.filter_eq_self.2]
  intro x _
  simp
/-- A round's head of a loop over a map. -/
structure Vis {α : Type} (ms done : List (α × Nat)) : Prop where
  sub : ∀ m ∈ done, m ∈ ms
  nd : (done.map (·.2)).Nodup
  len : done.length + lft ms done ≤ ms.length
theorem Vis.zero {α : Type} (ms : List (α × Nat)) : Vis ms [] := ⟨by simp, by simp, by rw [lft_nil]; simp⟩
theorem Vis.step {α : Type} {ms done : List (α × Nat)} (h : Vis ms done) {m : α × Nat} (hm : m ∈ ms) (hn : m.2 ∉ done.map (·.2)) : Vis ms (done ++ [m]) := by
  refine ⟨fun x hx => ?_, ?_, ?_⟩
  · rcases List.mem_append.1 hx with hx | hx
    · exact h.sub x hx
    · simp at hx; subst hx; exact hm
  · rw [List.map_append, List.nodup_append]
    refine ⟨h.nd, by simp, fun u hu v hv => ?_⟩
    simp at hv
    subst hv
    intro e
    exact hn (e ▸ hu)
  · have h1 := h.len
    have h2 := lft_lt hm hn
    simp
    omega
theorem key_inj {α κ : Type} [DecidableEq κ] {kf : α → κ} {ms : List (α × Nat)} {clk : Nat} (h : MW kf ms clk) {x y : α × Nat} (hx : x ∈ ms) (hy : y ∈ ms) : (kf x.1 = kf y.1 ↔ x.2 = y.2) := by
  obtain ⟨i, hi, ei⟩ := List.getElem_of_mem hx
  obtain ⟨j, hj, ej⟩ := List.getElem_of_mem hy
  have hk := List.pairwise_iff_getElem.1 h.keys
  have hb := List.pairwise_iff_getElem.1 h.born
  rcases Nat.lt_trichotomy i j with hlt | he | hlt
  · have h1 := hk i j (by simpa using hi) (by simpa using hj) hlt
    have h2 := hb i j (by simpa using hi) (by simpa using hj) hlt
    simp [ei, ej] at h1 h2
    exact ⟨fun e => absurd e h1, fun e => absurd e h2⟩
  · subst he
    rw [← ei, ← ej]
    simp
  · have h1 := hk j i (by simpa using hj) (by simpa using hi) hlt
    have h2 := hb j i (by simpa using hj) (by simpa using hi) hlt
    simp [ei, ej] at h1 h2
    exact ⟨fun e => absurd e.symm h1, fun e => absurd e.symm h2⟩
/-- What is left of a map of links, when those of done were asked. -/
def curK {α : Type} (q : α → Bool) (ms done : List (α × Nat)) : List (α × Nat) := ms.filter fun m => !(q m.1 && decide (m.2 ∈ done.map (·.2)))
theorem curK_nil {α : Type} (q : α → Bool) (ms : List (α × Nat)) : curK q ms [] = ms := by
  unfold curK
  rw [List.filter_eq_self]
  intro m _
  simp
theorem curK_del {α : Type} {κ : Type} [DecidableEq κ] {kf : α → κ} {q : α → Bool} {ms done : List (α × Nat)} {clk : Nat} (h : MW kf ms clk) {m : α × Nat} (hm : m ∈ ms) (hq : q m.1 = true) : (curK q ms done).filter (fun x => decide (kf x.1 ≠ kf m.1)) = curK q ms (done ++ [m]) := by
  unfold curK
  rw [List.filter_filter]
  refine List.filter_congr fun x hx => ?_
  have hi := key_inj h hx hm
  by_cases e : x.2 = m.2
  · have e2 := hi.2 e
    simp only [e2, ne_eq, not_true, decide_false, Bool.false_and, List.map_append, List.mem_append, List.map_cons, List.map_nil, List.mem_singleton, e, or_true, decide_true, Bool.and_true]
    have hxm : x = m := by
      obtain ⟨i, hi', ei⟩ := List.getElem_of_mem hx
      obtain ⟨j, hj', ej⟩ := List.getElem_of_mem hm
      have hb := List.pairwise_iff_getElem.1 h.born
      rcases Nat.lt_trichotomy i j with hlt | he | hlt
      · have := hb i j (by simpa using hi') (by simpa using hj') hlt
        simp [ei, ej, e] at this
      · subst he; rw [← ei, ← ej]
      · have := hb j i (by simpa using hj') (by simpa using hi') hlt
        simp [ei, ej, e] at this
    rw [hxm, hq]
    rfl
  · have e2 : ¬ kf x.1 = kf m.1 := fun h => e (hi.1 h)
    have e3 : x.2 ∈ (done ++ [m]).map (·.2) ↔ x.2 ∈ done.map (·.2) := by rw [List.map_append, List.mem_append]; simp [e]
    simp only [e2, e3, ne_eq, not_false_eq_true, decide_true, Bool.true_and]
theorem curK_keep {α : Type} {κ : Type} [DecidableEq κ] {kf : α → κ} {q : α → Bool} {ms done : List (α × Nat)} {clk : Nat} (h : MW kf ms clk) {m : α × Nat} (hm : m ∈ ms) (hq : q m.1 = false) : curK q ms done = curK q ms (done ++ [m]) := by
  unfold curK
  refine List.filter_congr fun x hx => ?_
  have hi := key_inj h hx hm
  by_cases e : x.2 = m.2
  · have e2 := hi.2 e
    have hxm : x = m := by
      obtain ⟨i, hi', ei⟩ := List.getElem_of_mem hx
      obtain ⟨j, hj', ej⟩ := List.getElem_of_mem hm
      have hb := List.pairwise_iff_getElem.1 h.born
      rcases Nat.lt_trichotomy i j with hlt | he | hlt
      · have := hb i j (by simpa using hi') (by simpa using hj') hlt
        simp [ei, ej, e] at this
      · subst he; rw [← ei, ← ej]
      · have := hb j i (by simpa using hj') (by simpa using hi') hlt
        simp [ei, ej, e] at this
    rw [hxm, hq]
    simp
  · have e3 : x.2 ∈ (done ++ [m]).map (·.2) ↔ x.2 ∈ done.map (·.2) := by rw [List.map_append, List.mem_append]; simp [e]
    simp only [e3]
theorem curK_over {α : Type} {κ : Type} [DecidableEq κ] {kf : α → κ} {q : α → Bool} {ms done : List (α × Nat)} (hall : ∀ m ∈ curK q ms done, m.2 ∈ done.map (·.2)) : curK q ms done = ms.filter fun m => !q m.1 := by
  unfold curK at *
  refine List.filter_congr fun x hx => ?_
  cases hq : q x.1 with
  | false => simp
  | true =>
    by_cases hd : x.2 ∈ done.map (·.2)
    · simp only [hd, decide_true]; rfl
    · exact absurd (hall x (List.mem_filter.2 ⟨hx, by rw [hq, decide_eq_false hd]; rfl⟩)) hd

end Go.Proofs.Ytohenjmkhncoiaa
