/-
  The library's stable sort, as plain functions on lists: insertion sort of blocks, and the merge by rotations. No condition.
-/
namespace Go.Proofs.Ytbkonlkffajhkaa
set_option linter.unusedSimpArgs false
set_option linter.unusedVariables false

section
variable {α : Type} (d : α) (less : α → α → Bool)

def sw (xs : List α) (i j : Nat) : List α := (xs.set i (xs.getD j d)).set j (xs.getD i d)
/-- Element j of the list goes down to its place, not below a. -/
def insIn (a : Nat) : Nat → List α → List α
  | 0, xs => xs
  | j + 1, xs => if a < j + 1 ∧ less (xs.getD (j + 1) d) (xs.getD j d) = true then insIn a j (sw d xs (j + 1) j) else xs
def insOut (a : Nat) : Nat → Nat → List α → List α
  | 0, _, xs => xs
  | n + 1, i, xs => insOut a n (i + 1) (insIn d less a i xs)
def insSort (xs : List α) (a b : Nat) : List α := insOut d less a (b - (a + 1)) (a + 1) xs
def swapR (xs : List α) (a b : Nat) : Nat → Nat → List α
  | 0, _ => xs
  | n + 1, i => swapR (sw d xs (a + i) (b + i)) a b n (i + 1)
/-- The blocks of lengths i and j around m change places. -/
def rot : Nat → List α → Nat → Nat → Nat → List α
  | 0, xs, _, _, _ => xs
  | f + 1, xs, m, i, j =>
    if i = j then swapR d xs (m - i) m i 0
    else if j < i then rot f (swapR d xs (m - i) m j 0) m (i - j) j
    else rot f (swapR d xs (m - i) (m + j - i) i 0) m i (j - i)
/-- The first place from i to j that fails, by halves. -/
def bsr (f : Nat → Bool) : Nat → Nat → Nat → Nat
  | 0, i, _ => i
  | n + 1, i, j => if i < j then (if f ((i + j) / 2) = true then bsr f n ((i + j) / 2 + 1) j else bsr f n i ((i + j) / 2)) else i
/-- Element k goes up by n places. -/
def up (xs : List α) : Nat → Nat → List α
  | _, 0 => xs
  | k, n + 1 => up (sw d xs k (k + 1)) (k + 1) n
/-- Element k goes down by n places. -/
def down (xs : List α) : Nat → Nat → List α
  | _, 0 => xs
  | k, n + 1 => down (sw d xs k (k - 1)) (k - 1) n
def symM : Nat → List α → Nat → Nat → Nat → List α
  | 0, xs, _, _, _ => xs
  | f + 1, xs, a, m, b =>
    if m - a = 1 then
      up d xs a (bsr (fun h => less (xs.getD h d) (xs.getD a d)) (b - m) m b - 1 - a)
    else if b - m = 1 then
      down d xs m (m - bsr (fun h => !less (xs.getD m d) (xs.getD h d)) (m - a) a m)
    else
      let mid := (a + b) / 2
      let n := mid + m
      let s0 := if mid < m then n - b else a
      let r0 := if mid < m then mid else m
      let start := bsr (fun c => !less (xs.getD (n - 1 - c) d) (xs.getD c d)) (r0 - s0) s0 r0
      let e := n - start
      let xs1 := if start < m ∧ m < e then rot d (e - start) xs m (m - start) (e - m) else xs
      let xs2 := if a < start ∧ start < mid then symM f xs1 a start mid else xs1
      if mid < e ∧ e < b then symM f xs2 mid e b else xs2
/-- Blocks of the size bs from a on are sorted. -/
def blocks (bs : Nat) : Nat → List α → Nat → Nat → List α
  | 0, xs, a, n => insSort d less xs a n
  | f + 1, xs, a, n => if a + bs ≤ n then blocks bs f (insSort d less xs a (a + bs)) (a + bs) n else insSort d less xs a n
def merges (bs : Nat) : Nat → List α → Nat → Nat → List α
  | 0, xs, a, n => if a + bs < n then symM d less n xs a (a + bs) n else xs
  | f + 1, xs, a, n => if a + 2 * bs ≤ n then merges bs f (symM d less n xs a (a + bs) (a + 2 * bs)) (a + 2 * bs) n else (if a + bs < n then symM d less n xs a (a + bs) n else xs)
def levels : Nat → Nat → List α → Nat → List α
  | 0, _, xs, _ => xs
  | f + 1, bs, xs, n => if bs < n then levels f (2 * bs) (merges d less bs n xs 0 n) n else xs
def stable (xs : List α) : List α := levels d less xs.length 20 (blocks d less 20 xs.length xs 0 xs.length) xs.length

theorem sw_len (xs : List α) (i j : Nat) : (sw d xs i j).length = xs.length := by simp [sw]
theorem sw_mem {p : α → Prop} {xs : List α} (h : ∀ x ∈ xs, p x) {i j : Nat} (hi : i < xs.length) (hj : j < xs.length) : ∀ x ∈ sw d xs i j, p x := by
  intro x hx
  unfold sw at hx
  rcases List.mem_or_eq_of_mem_set hx with hx | hx
  · rcases List.mem_or_eq_of_mem_set hx with hx | hx
    · exact h x hx
    · subst hx
      rw [List.getD_eq_getElem?_getD, List.getElem?_eq_getElem hj]
      exact h _ (List.getElem_mem hj)
  · subst hx
    rw [List.getD_eq_getElem?_getD, List.getElem?_eq_getElem hi]
    exact h _ (List.getElem_mem hi)
theorem rot_eq {f : Nat} {xs : List α} {m i j : Nat} (h : i = j) : rot d (f + 1) xs m i j = swapR d xs (m - i) m i 0 := by rw [rot, if_pos h]
theorem rot_gt {f : Nat} {xs : List α} {m i j : Nat} (h : j < i) : rot d (f + 1) xs m i j = rot d f (swapR d xs (m - i) m j 0) m (i - j) j := by rw [rot, if_neg (by omega), if_pos h]
theorem rot_lt {f : Nat} {xs : List α} {m i j : Nat} (h : i < j) : rot d (f + 1) xs m i j = rot d f (swapR d xs (m - i) (m + j - i) i 0) m i (j - i) := by rw [rot, if_neg (by omega), if_neg (by omega)]
theorem insIn_stop {a j : Nat} {xs : List α} (h : ¬ (a < j ∧ less (xs.getD j d) (xs.getD (j - 1) d) = true)) : insIn d less a j xs = xs := by
  cases j with
  | zero => rfl
  | succ j => rw [insIn, if_neg (by simpa using h)]
theorem insIn_go {a j : Nat} {xs : List α} (h : a < j) (hl : less (xs.getD j d) (xs.getD (j - 1) d) = true) : insIn d less a j xs = insIn d less a (j - 1) (sw d xs j (j - 1)) := by
  cases j with
  | zero => omega
  | succ j => rw [insIn, if_pos ⟨h, by simpa using hl⟩]; rfl
theorem blocks_go {bs f a n : Nat} {xs : List α} (h : a + bs ≤ n) (hf : n ≤ a + f) (hb : 1 ≤ bs) : blocks d less bs f xs a n = blocks d less bs (f - 1) (insSort d less xs a (a + bs)) (a + bs) n := by
  cases f with
  | zero => omega
  | succ f => rw [blocks, if_pos h]; rfl
theorem blocks_done {bs f a n : Nat} {xs : List α} (h : ¬ a + bs ≤ n) : blocks d less bs f xs a n = insSort d less xs a n := by
  cases f with
  | zero => rfl
  | succ f => rw [blocks, if_neg h]
theorem merges_go {bs f a n : Nat} {xs : List α} (h : a + 2 * bs ≤ n) (hf : n ≤ a + f) (hb : 1 ≤ bs) : merges d less bs f xs a n = merges d less bs (f - 1) (symM d less n xs a (a + bs) (a + 2 * bs)) (a + 2 * bs) n := by
  cases f with
  | zero => omega
  | succ f => rw [merges, if_pos h]; rfl
theorem merges_done {bs f a n : Nat} {xs : List α} (h : ¬ a + 2 * bs ≤ n) : merges d less bs f xs a n = if a + bs < n then symM d less n xs a (a + bs) n else xs := by
  cases f with
  | zero => rfl
  | succ f => rw [merges, if_neg h]
theorem levels_go {bs f n : Nat} {xs : List α} (h : bs < n) (hf : n ≤ bs + f) : levels d less f bs xs n = levels d less (f - 1) (2 * bs) (merges d less bs n xs 0 n) n := by
  cases f with
  | zero => omega
  | succ f => rw [levels, if_pos h]; rfl
theorem levels_done {bs f n : Nat} {xs : List α} (h : ¬ bs < n) : levels d less f bs xs n = xs := by
  cases f with
  | zero => rfl
  | succ f => rw [levels, if_neg h]
theorem swapR_len : ∀ (n : Nat) (xs : List α) (a b i : Nat), (swapR d xs a b n i).length = xs.length
  | 0, xs, a, b, i => rfl
  | n + 1, xs, a, b, i => by rw [swapR, swapR_len n, sw_len]
theorem sw_all {p : α → Prop} (hd : p d) {xs : List α} (h : ∀ x ∈ xs, p x) (i j : Nat) : ∀ x ∈ sw d xs i j, p x := by
  have hg : ∀ k, p (xs.getD k d) := by
    intro k
    rw [List.getD_eq_getElem?_getD]
    cases hk : xs[k]? with
    | none => exact hd
    | some y => exact h y (List.mem_of_getElem? hk)
  intro x hx
  unfold sw at hx
  rcases List.mem_or_eq_of_mem_set hx with hx | hx
  · rcases List.mem_or_eq_of_mem_set hx with hx | hx
    · exact h x hx
    · subst hx; exact hg j
  · subst hx; exact hg i
theorem insIn_len {a : Nat} : ∀ (j : Nat) (xs : List α), (insIn d less a j xs).length = xs.length
  | 0, xs => rfl
  | j + 1, xs => by
    rw [insIn]
    split
    · rw [insIn_len j, sw_len]
    · rfl
theorem insIn_all {p : α → Prop} (hd : p d) {a : Nat} : ∀ (j : Nat) (xs : List α), (∀ x ∈ xs, p x) → ∀ x ∈ insIn d less a j xs, p x
  | 0, xs, h => h
  | j + 1, xs, h => by
    rw [insIn]
    split
    · exact insIn_all hd j _ (sw_all d hd h _ _)
    · exact h
theorem insOut_len {a : Nat} : ∀ (n i : Nat) (xs : List α), (insOut d less a n i xs).length = xs.length
  | 0, i, xs => rfl
  | n + 1, i, xs => by rw [insOut, insOut_len n, insIn_len]
theorem insOut_all {p : α → Prop} (hd : p d) {a : Nat} : ∀ (n i : Nat) (xs : List α), (∀ x ∈ xs, p x) → ∀ x ∈ insOut d less a n i xs, p x
  | 0, i, xs, h => h
  | n + 1, i, xs, h => by rw [insOut]; exact insOut_all hd n _ _ (insIn_all d less hd _ _ h)
theorem insSort_len (xs : List α) (a b : Nat) : (insSort d less xs a b).length = xs.length := insOut_len d less _ _ _
theorem insSort_all {p : α → Prop} (hd : p d) {xs : List α} (h : ∀ x ∈ xs, p x) (a b : Nat) : ∀ x ∈ insSort d less xs a b, p x := insOut_all d less hd _ _ _ h
theorem swapR_all {p : α → Prop} (hd : p d) : ∀ (n : Nat) (xs : List α) (a b i : Nat), (∀ x ∈ xs, p x) → ∀ x ∈ swapR d xs a b n i, p x
  | 0, xs, a, b, i, h => h
  | n + 1, xs, a, b, i, h => by rw [swapR]; exact swapR_all hd n _ a b _ (sw_all d hd h _ _)
theorem rot_len : ∀ (f : Nat) (xs : List α) (m i j : Nat), (rot d f xs m i j).length = xs.length
  | 0, xs, m, i, j => rfl
  | f + 1, xs, m, i, j => by
    rw [rot]
    split
    · exact swapR_len d _ _ _ _ _
    · split
      · rw [rot_len f, swapR_len]
      · rw [rot_len f, swapR_len]
theorem rot_all {p : α → Prop} (hd : p d) : ∀ (f : Nat) (xs : List α) (m i j : Nat), (∀ x ∈ xs, p x) → ∀ x ∈ rot d f xs m i j, p x
  | 0, xs, m, i, j, h => h
  | f + 1, xs, m, i, j, h => by
    rw [rot]
    split
    · exact swapR_all d hd _ _ _ _ _ h
    · split
      · exact rot_all hd f _ _ _ _ (swapR_all d hd _ _ _ _ _ h)
      · exact rot_all hd f _ _ _ _ (swapR_all d hd _ _ _ _ _ h)
theorem up_len : ∀ (n : Nat) (xs : List α) (k : Nat), (up d xs k n).length = xs.length
  | 0, xs, k => by rw [up]
  | n + 1, xs, k => by rw [up, up_len n, sw_len]
theorem up_all {p : α → Prop} (hd : p d) : ∀ (n : Nat) (xs : List α) (k : Nat), (∀ x ∈ xs, p x) → ∀ x ∈ up d xs k n, p x
  | 0, xs, k, h => by rw [up]; exact h
  | n + 1, xs, k, h => by rw [up]; exact up_all hd n _ _ (sw_all d hd h _ _)
theorem down_len : ∀ (n : Nat) (xs : List α) (k : Nat), (down d xs k n).length = xs.length
  | 0, xs, k => by rw [down]
  | n + 1, xs, k => by rw [down, down_len n, sw_len]
theorem down_all {p : α → Prop} (hd : p d) : ∀ (n : Nat) (xs : List α) (k : Nat), (∀ x ∈ xs, p x) → ∀ x ∈ down d xs k n, p x
  | 0, xs, k, h => by rw [down]; exact h
  | n + 1, xs, k, h => by rw [down]; exact down_all hd n _ _ (sw_all d hd h _ _)
theorem symM_1 {f : Nat} {xs : List α} {a m b : Nat} (h : m - a = 1) : symM d less (f + 1) xs a m b = up d xs a (bsr (fun h => less (xs.getD h d) (xs.getD a d)) (b - m) m b - 1 - a) := by rw [symM, if_pos h]
theorem symM_2 {f : Nat} {xs : List α} {a m b : Nat} (h1 : ¬ m - a = 1) (h : b - m = 1) : symM d less (f + 1) xs a m b = down d xs m (m - bsr (fun h => !less (xs.getD m d) (xs.getD h d)) (m - a) a m) := by rw [symM, if_neg h1, if_pos h]
theorem symM_3 {f : Nat} {xs xs1 xs2 : List α} {a m b mid s0 r0 start e : Nat} (h1 : ¬ m - a = 1) (h2 : ¬ b - m = 1) (hmid : mid = (a + b) / 2) (hs0 : s0 = if mid < m then mid + m - b else a) (hr0 : r0 = if mid < m then mid else m)
    (hst : start = bsr (fun c => !less (xs.getD (mid + m - 1 - c) d) (xs.getD c d)) (r0 - s0) s0 r0) (he : e = mid + m - start) (hx1 : xs1 = if start < m ∧ m < e then rot d (e - start) xs m (m - start) (e - m) else xs)
    (hx2 : xs2 = if a < start ∧ start < mid then symM d less f xs1 a start mid else xs1) : symM d less (f + 1) xs a m b = if mid < e ∧ e < b then symM d less f xs2 mid e b else xs2 := by
  subst hx2 hx1 he hst hs0 hr0 hmid
  rw [symM, if_neg h1, if_neg h2]
theorem symM_both {p : α → Prop} (hd : p d) : ∀ (f : Nat) (xs : List α) (a m b : Nat), (∀ x ∈ xs, p x) → (symM d less f xs a m b).length = xs.length ∧ ∀ x ∈ symM d less f xs a m b, p x
  | 0, xs, a, m, b, h => by rw [symM]; exact ⟨rfl, h⟩
  | f + 1, xs, a, m, b, h => by
    by_cases h1 : m - a = 1
    · rw [symM_1 d less h1]; exact ⟨up_len d _ _ _, up_all d hd _ _ _ h⟩
    · by_cases h2 : b - m = 1
      · rw [symM_2 d less h1 h2]; exact ⟨down_len d _ _ _, down_all d hd _ _ _ h⟩
      · obtain ⟨start, hst⟩ : ∃ start, start = bsr (fun c => !less (xs.getD ((a + b) / 2 + m - 1 - c) d) (xs.getD c d)) ((if (a + b) / 2 < m then (a + b) / 2 else m) - (if (a + b) / 2 < m then (a + b) / 2 + m - b else a)) (if (a + b) / 2 < m then (a + b) / 2 + m - b else a) (if (a + b) / 2 < m then (a + b) / 2 else m) := ⟨_, rfl⟩
        obtain ⟨e, he⟩ : ∃ e, e = (a + b) / 2 + m - start := ⟨_, rfl⟩
        obtain ⟨xs1, hx1⟩ : ∃ xs1, xs1 = if start < m ∧ m < e then rot d (e - start) xs m (m - start) (e - m) else xs := ⟨_, rfl⟩
        obtain ⟨xs2, hx2⟩ : ∃ xs2, xs2 = if a < start ∧ start < (a + b) / 2 then symM d less f xs1 a start ((a + b) / 2) else xs1 := ⟨_, rfl⟩
        rw [symM_3 d less h1 h2 rfl rfl rfl hst he hx1 hx2]
        have p1 : xs1.length = xs.length ∧ ∀ x ∈ xs1, p x := by
          rw [hx1]
          split
          · exact ⟨rot_len d _ _ _ _ _, rot_all d hd _ _ _ _ _ h⟩
          · exact ⟨rfl, h⟩
        have p2 : xs2.length = xs.length ∧ ∀ x ∈ xs2, p x := by
          rw [hx2]
          split
          · have := symM_both hd f xs1 a start ((a + b) / 2) p1.2
            exact ⟨this.1.trans p1.1, this.2⟩
          · exact p1
        split
        · have := symM_both hd f xs2 ((a + b) / 2) e b p2.2
          exact ⟨this.1.trans p2.1, this.2⟩
        · exact p2
theorem blocks_both {p : α → Prop} (hd : p d) {bs : Nat} : ∀ (f : Nat) (xs : List α) (a n : Nat), (∀ x ∈ xs, p x) → (blocks d less bs f xs a n).length = xs.length ∧ ∀ x ∈ blocks d less bs f xs a n, p x
  | 0, xs, a, n, h => ⟨insSort_len d less _ _ _, insSort_all d less hd h _ _⟩
  | f + 1, xs, a, n, h => by
    rw [blocks]
    split
    · have := blocks_both hd (bs := bs) f (insSort d less xs a (a + bs)) (a + bs) n (insSort_all d less hd h _ _)
      exact ⟨this.1.trans (insSort_len d less _ _ _), this.2⟩
    · exact ⟨insSort_len d less _ _ _, insSort_all d less hd h _ _⟩
theorem merges_both {p : α → Prop} (hd : p d) {bs : Nat} : ∀ (f : Nat) (xs : List α) (a n : Nat), (∀ x ∈ xs, p x) → (merges d less bs f xs a n).length = xs.length ∧ ∀ x ∈ merges d less bs f xs a n, p x
  | 0, xs, a, n, h => by
    rw [merges]
    split
    · exact symM_both d less hd _ _ _ _ _ h
    · exact ⟨rfl, h⟩
  | f + 1, xs, a, n, h => by
    rw [merges]
    split
    · have h1 := symM_both d less hd n xs a (a + bs) (a + 2 * bs) h
      have := merges_both hd (bs := bs) f _ (a + 2 * bs) n h1.2
      exact ⟨this.1.trans h1.1, this.2⟩
    · split
      · exact symM_both d less hd _ _ _ _ _ h
      · exact ⟨rfl, h⟩
theorem levels_both {p : α → Prop} (hd : p d) : ∀ (f bs : Nat) (xs : List α) (n : Nat), (∀ x ∈ xs, p x) → (levels d less f bs xs n).length = xs.length ∧ ∀ x ∈ levels d less f bs xs n, p x
  | 0, bs, xs, n, h => ⟨rfl, h⟩
  | f + 1, bs, xs, n, h => by
    rw [levels]
    split
    · have h1 := merges_both d less hd (bs := bs) n xs 0 n h
      have := levels_both hd f (2 * bs) _ n h1.2
      exact ⟨this.1.trans h1.1, this.2⟩
    · exact ⟨rfl, h⟩
theorem stable_both {p : α → Prop} (hd : p d) {xs : List α} (h : ∀ x ∈ xs, p x) : (stable d less xs).length = xs.length ∧ ∀ x ∈ stable d less xs, p x := by
  have h1 := blocks_both d less hd (bs := 20) xs.length xs 0 xs.length h
  have h2 := levels_both d less hd xs.length 20 (blocks d less 20 xs.length xs 0 xs.length) xs.length h1.2
  exact ⟨h2.1.trans h1.1, h2.2⟩
theorem bsr_done {f : Nat → Bool} {n i j : Nat} (h : ¬ i < j) : bsr f n i j = i := by
  cases n with
  | zero => rfl
  | succ n => rw [bsr, if_neg h]
theorem bsr_T {f : Nat → Bool} {n i j : Nat} (h : i < j) (hn : j - i ≤ n) (hf : f ((i + j) / 2) = true) : bsr f n i j = bsr f (n - 1) ((i + j) / 2 + 1) j := by
  cases n with
  | zero => omega
  | succ n => rw [bsr, if_pos h, if_pos hf]; rfl
theorem bsr_F {f : Nat → Bool} {n i j : Nat} (h : i < j) (hn : j - i ≤ n) (hf : f ((i + j) / 2) = false) : bsr f n i j = bsr f (n - 1) i ((i + j) / 2) := by
  cases n with
  | zero => omega
  | succ n => rw [bsr, if_pos h, if_neg (by rw [hf]; simp)]; rfl
theorem bsr_range {f : Nat → Bool} : ∀ (n i j : Nat), i ≤ j → i ≤ bsr f n i j ∧ bsr f n i j ≤ j
  | 0, i, j, h => by rw [bsr]; omega
  | n + 1, i, j, h => by
    rw [bsr]
    split
    · split
      · have := bsr_range (f := f) n ((i + j) / 2 + 1) j (by omega)
        omega
      · have := bsr_range (f := f) n i ((i + j) / 2) (by omega)
        omega
    · omega
end
end Go.Proofs.Ytbkonlkffajhkaa
