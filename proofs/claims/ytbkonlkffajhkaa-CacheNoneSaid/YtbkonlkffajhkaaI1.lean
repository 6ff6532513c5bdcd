/-
  What stays true of a cache, in plain Lean: its order, its places, its links. No condition.
-/
import Derived.Test.YtbkonlkffajhkaaR5
namespace Go.Proofs.Ytbkonlkffajhkaa
set_option linter.unusedSimpArgs false
set_option linter.unusedVariables false
open Go.RowKit

structure CInv (PS : List Int) (base size cur : Int) (L : List En) (K : List Lk) : Prop where
  sz : 0 ≤ base ∧ base < 4294967296 ∧ 0 ≤ size ∧ base + size ≤ 4294967296
  cu : 0 ≤ cur ∧ cur ≤ size
  ord : L.Pairwise fun x y => x.base + (x.bytes.size : Int) ≤ y.base
  ent : ∀ x ∈ L, base ≤ x.base ∧ x.base + (x.bytes.size : Int) ≤ base + size ∧ 0 < x.bytes.size ∧ SameOk x ∧ x.pc ∈ PS ∧ 0 ≤ x.st ∧ x.st < 4
  pcs : (L.map En.pc).Nodup
  lkf : ∀ l ∈ K, ∃ x ∈ L, x.pc = l.f ∧ 0 ≤ l.s ∧ l.s < x.st
  lkt : ∀ l ∈ K, ∃ y ∈ L, y.pc = l.t
  ordK : K.Pairwise ltK

section
variable {PS : List Int} {base size cur : Int} {L : List En} {K : List Lk}
theorem CInv.off (h : CInv PS base size cur L K) {x : En} (hx : x ∈ L) : offW base x = x.base - base := by
  have h1 := h.ent x hx
  have h2 := h.sz
  exact wrap_u32_id (by omega) (by omega)
theorem CInv.hL (h : CInv PS base size cur L K) : L.Pairwise fun x y => offW base x < offW base y := by
  have h1 := h.ord
  rw [List.pairwise_iff_getElem] at h1 ⊢
  intro i j hi hj hij
  have h2 := h1 i j hi hj hij
  have h3 := h.ent _ (List.getElem_mem hi)
  rw [h.off (List.getElem_mem hi), h.off (List.getElem_mem hj)]
  omega
theorem CInv.hlen (h : CInv PS base size cur L K) (hp : PS.length ≤ 12) : L.length ≤ 12 := by
  have h1 : (L.map En.pc) ⊆ PS := fun p hp => by
    obtain ⟨x, hx, rfl⟩ := List.mem_map.1 hp
    exact (h.ent x hx).2.2.2.2.1
  have := List.Nodup.length_le_of_subset h.pcs h1
  rw [List.length_map] at this
  omega
theorem flat3 (PS : List Int) : (PS.flatMap fun p => [(p, (0 : Int)), (p, 1), (p, 2)]).length = 3 * PS.length := by
  induction PS with
  | nil => rfl
  | cons a r ih => simp only [List.flatMap_cons, List.length_append, List.length_cons, ih, List.length_nil]; omega
theorem CInv.hlenK (h : CInv PS base size cur L K) (hp : PS.length ≤ 12) : K.length < 40 := by
  have hn : (K.map kfS).Nodup := by
    rw [List.nodup_iff_pairwise_ne, List.pairwise_map]
    refine h.ordK.imp fun {a b} hab e => ?_
    simp only [kfS, Prod.mk.injEq] at e
    unfold ltK at hab
    omega
  have hs : (K.map kfS) ⊆ PS.flatMap fun p => [(p, (0 : Int)), (p, 1), (p, 2)] := fun k hk => by
    obtain ⟨l, hl, rfl⟩ := List.mem_map.1 hk
    obtain ⟨x, hx, e1, e2, e3⟩ := h.lkf l hl
    have h1 := h.ent x hx
    refine List.mem_flatMap.2 ⟨l.f, by rw [← e1]; exact h1.2.2.2.2.1, ?_⟩
    unfold kfS
    have : l.s = 0 ∨ l.s = 1 ∨ l.s = 2 := by omega
    rcases this with e | e | e <;> simp [e]
  have := List.Nodup.length_le_of_subset hn hs
  rw [List.length_map, flat3] at this
  omega
theorem CInv.sizes (h : CInv PS base size cur L K) : ∀ x ∈ L, x.bytes.size ≤ 4294967296 := fun x hx => by
  have h1 := h.ent x hx
  have h2 := h.sz
  omega
theorem CInv.sites (h : CInv PS base size cur L K) : ∀ x ∈ L, (x.sites.n : Int) = x.st := fun x hx => (h.ent x hx).2.2.2.1.1
theorem CInv.gone (h : CInv PS base size cur L K) (G : List Int) : CInv PS base size cur (L.filter (keepE G)) (K.filter (keepK G)) where
  sz := h.sz
  cu := h.cu
  ord := h.ord.filter _
  ent := fun x hx => h.ent x (List.mem_filter.1 hx).1
  pcs := (List.filter_sublist.map _).nodup h.pcs
  lkf := fun l hl => by
    obtain ⟨h1, h2⟩ := List.mem_filter.1 hl
    obtain ⟨x, hx, e1, e2⟩ := h.lkf l h1
    simp only [keepK, Bool.not_eq_true', Bool.or_eq_false_iff, decide_eq_false_iff_not] at h2
    exact ⟨x, List.mem_filter.2 ⟨hx, by simp only [keepE, e1, h2.1, decide_false, Bool.not_false]⟩, e1, e2⟩
  lkt := fun l hl => by
    obtain ⟨h1, h2⟩ := List.mem_filter.1 hl
    obtain ⟨x, hx, e1⟩ := h.lkt l h1
    simp only [keepK, Bool.not_eq_true', Bool.or_eq_false_iff, decide_eq_false_iff_not] at h2
    exact ⟨x, List.mem_filter.2 ⟨hx, by simp only [keepE, e1, h2.2, decide_false, Bool.not_false]⟩, e1⟩
  ordK := h.ordK.filter _
theorem goneF_eq (h : CInv PS base size cur L K) (pc : Int) : L.filter (keepE (goneF L pc)) = L.filter (keepE [pc]) ∧ K.filter (keepK (goneF L pc)) = K.filter (keepK [pc]) ∧ K.filter (cutK (goneF L pc)) = K.filter (cutK [pc]) := by
  unfold goneF
  cases hf : L.find? (fun a => decide (a.pc = pc)) with
  | some x => simp
  | none =>
    have hno : ∀ x ∈ L, x.pc ≠ pc := fun x hx => by simpa using List.find?_eq_none.1 hf x hx
    have hf' : ∀ l ∈ K, l.f ≠ pc ∧ l.t ≠ pc := fun l hl => by
      obtain ⟨x, hx, e1, _⟩ := h.lkf l hl
      obtain ⟨y, hy, e2⟩ := h.lkt l hl
      exact ⟨fun e => hno x hx (e1.trans e), fun e => hno y hy (e2.trans e)⟩
    refine ⟨List.filter_congr fun x hx => ?_, List.filter_congr fun l hl => ?_, List.filter_congr fun l hl => ?_⟩
    · simp [keepE, hno x hx]
    · simp [keepK, (hf' l hl).1, (hf' l hl).2]
    · simp [cutK, (hf' l hl).1, (hf' l hl).2]
theorem pc_inj (h : (L.map En.pc).Nodup) {x y : En} (hx : x ∈ L) (hy : y ∈ L) (e : x.pc = y.pc) : x = y := by
  obtain ⟨i, hi, ei⟩ := List.getElem_of_mem hx
  obtain ⟨j, hj, ej⟩ := List.getElem_of_mem hy
  have hp := List.pairwise_iff_getElem.1 h
  rcases Nat.lt_trichotomy i j with hlt | he | hlt
  · have := hp i j (by simpa using hi) (by simpa using hj) hlt
    simp [ei, ej, e] at this
  · subst he; rw [← ei, ← ej]
  · have := hp j i (by simpa using hj) (by simpa using hi) hlt
    simp [ei, ej, e] at this
/-- What adding gives. -/
structure AddR where
  cur : Int
  L : List En
  K : List Lk
  b : Int
  rem : List En
  cut : List Lk
  err : Int
def addF (base size cur : Int) (L : List En) (K : List Lk) (e : En) : AddR :=
  if e.bytes.size = 0 then ⟨cur, L, K, 0, [], [], 1⟩
  else if size < e.bytes.size then ⟨cur, L, K, 0, [], [], 30⟩
  else
    let c1 := curN size cur e.bytes.size
    let rem := remL L base c1 e.bytes.size e
    ⟨c1 + e.bytes.size, insD (qE base c1) (putE base c1 e) (L.filter (keepE (rem.map En.pc))), K.filter (keepK (rem.map En.pc)), base + c1, rem, K.filter (cutK (rem.map En.pc)), 0⟩
/-- What stays is not in the way. -/
theorem kept_free (h : CInv PS base size cur L K) {c1 n : Int} {e x : En} (hx : x ∈ L.filter (keepE ((remL L base c1 n e).map En.pc))) : x ∈ L ∧ x.pc ≠ e.pc ∧ (c1 + n ≤ x.base - base ∨ x.base - base + x.bytes.size ≤ c1) := by
  obtain ⟨h1, h2⟩ := List.mem_filter.1 hx
  have hno : inWay base c1 n e x = false := by
    cases hw : inWay base c1 n e x with
    | false => rfl
    | true =>
      have : x.pc ∈ (remL L base c1 n e).map En.pc := List.mem_map.2 ⟨x, List.mem_filter.2 ⟨h1, hw⟩, rfl⟩
      simp [keepE, this] at h2
  unfold inWay at hno
  rw [h.off h1] at hno
  simp only [Bool.or_eq_false_iff, Bool.and_eq_false_iff, decide_eq_false_iff_not] at hno
  exact ⟨h1, hno.1, by omega⟩
theorem CInv.add (h : CInv PS base size cur L K) {e : En} (hpc : e.pc ∈ PS) (hst : 0 ≤ e.st ∧ e.st < 4) (hsi : (e.sites.n : Int) = e.st) (hal : e.al = e.st) (hpg : e.pg.length ≤ 4) (hes : e.bytes.size ≤ 1000000) : CInv PS base size (addF base size cur L K e).cur (addF base size cur L K e).L (addF base size cur L K e).K := by
  unfold addF
  by_cases h0 : e.bytes.size = 0
  · rw [if_pos h0]; exact h
  · rw [if_neg h0]
    by_cases h1 : size < e.bytes.size
    · rw [if_pos h1]; exact h
    · rw [if_neg h1]
      have hsz := h.sz
      have hcu := h.cu
      have hc1 : 0 ≤ curN size cur e.bytes.size ∧ curN size cur e.bytes.size + e.bytes.size ≤ size := by unfold curN; split <;> omega
      generalize curN size cur e.bytes.size = c1 at hc1
      have hg := h.gone ((remL L base c1 e.bytes.size e).map En.pc)
      have hfree : ∀ x ∈ L.filter (keepE ((remL L base c1 e.bytes.size e).map En.pc)), _ := fun x hx => kept_free h hx
      dsimp only
      generalize hL1 : L.filter (keepE ((remL L base c1 e.bytes.size e).map En.pc)) = L1 at hg hfree
      have hper := insD_perm (qE base c1) (putE base c1 e) L1
      have hmem : ∀ x, x ∈ insD (qE base c1) (putE base c1 e) L1 ↔ x = putE base c1 e ∨ x ∈ L1 := fun x => by
        rw [hper.mem_iff]
        simp
      refine ⟨h.sz, ⟨by omega, by omega⟩, ?_, ?_, ?_, ?_, ?_, hg.ordK⟩
      · refine insD_sorted (fun x y z hxy hyz => by omega) hg.ord (fun x hx hq => ?_) (fun x hx hq => ?_)
        · have := (hfree x hx).2.2
          have h3 := (hg.ent x hx).2.2.1
          simp only [qE, decide_eq_true_eq] at hq
          simp only [putE]
          omega
        · have := (hfree x hx).2.2
          simp only [qE, decide_eq_false_iff_not] at hq
          simp only [putE]
          omega
      · intro x hx
        rcases (hmem x).1 hx with rfl | hx
        · refine ⟨by simp only [putE]; omega, by simp only [putE]; omega, by simp only [putE]; omega, ⟨hsi, hal, rfl, hes, hpg⟩, hpc, hst⟩
        · exact hg.ent x hx
      · have h5 := (hper.map En.pc).nodup_iff.2
        refine h5 ?_
        rw [List.map_cons, List.nodup_cons]
        refine ⟨fun hm => ?_, hg.pcs⟩
        obtain ⟨x, hx, ex⟩ := List.mem_map.1 hm
        exact (hfree x hx).2.1 ex
      · intro l hl
        obtain ⟨x, hx, e1⟩ := hg.lkf l hl
        exact ⟨x, (hmem x).2 (.inr hx), e1⟩
      · intro l hl
        obtain ⟨x, hx, e1⟩ := hg.lkt l hl
        exact ⟨x, (hmem x).2 (.inr hx), e1⟩
theorem link_perm (L : List En) (K : List Lk) (l : Lk) : (linkK L K l).Perm (rlinkK L K l) := by
  unfold linkK rlinkK
  split
  · exact (insD_perm (qL l) l (K.filter (neK l))).symm
  · exact List.Perm.refl _
theorem CInv.link (h : CInv PS base size cur L K) (l : Lk) : CInv PS base size cur L (rlinkK L K l) := by
  unfold rlinkK
  by_cases hok : okB L l = true
  · rw [if_pos hok]
    have hper := insD_perm (qL l) l (K.filter (neK l))
    have hok2 : (∃ x ∈ L, x.pc = l.f ∧ 0 ≤ l.s ∧ l.s < x.st) ∧ ∃ y ∈ L, y.pc = l.t := by
      unfold okB at hok
      cases h1 : L.find? (fun a => decide (a.pc = l.f)) with
      | none => simp [h1] at hok
      | some x =>
        cases h2 : L.find? (fun a => decide (a.pc = l.t)) with
        | none => simp [h1, h2] at hok
        | some y =>
          have hx := List.mem_of_find?_eq_some h1
          have hy := List.mem_of_find?_eq_some h2
          have ex := List.find?_some h1
          have ey := List.find?_some h2
          simp at ex ey
          simp [h1, h2] at hok
          have hs := h.sites x hx
          exact ⟨⟨x, hx, ex, hok.1, by omega⟩, ⟨y, hy, ey⟩⟩
    refine ⟨h.sz, h.cu, h.ord, h.ent, h.pcs, fun x hx => ?_, fun x hx => ?_, ?_⟩
    · rcases List.mem_cons.1 (hper.mem_iff.1 hx) with rfl | hx
      · exact hok2.1
      · exact h.lkf x (List.mem_filter.1 hx).1
    · rcases List.mem_cons.1 (hper.mem_iff.1 hx) with rfl | hx
      · exact hok2.2
      · exact h.lkt x (List.mem_filter.1 hx).1
    · refine insD_sorted (fun x y z hxy hyz => by unfold ltK at *; omega) (h.ordK.filter _) (fun x hx hq => ?_) (fun x hx hq => ?_)
      · simp only [qL, Bool.or_eq_true, Bool.and_eq_true, decide_eq_true_eq] at hq
        exact hq
      · simp only [qL, Bool.or_eq_false_iff, Bool.and_eq_false_iff, decide_eq_false_iff_not] at hq
        have hne := (List.mem_filter.1 hx).2
        simp only [neK, kfS, decide_eq_true_eq, ne_eq, Prod.mk.injEq] at hne
        unfold ltK
        omega
  · rw [if_neg hok]
    exact h
end
end Go.Proofs.Ytbkonlkffajhkaa
