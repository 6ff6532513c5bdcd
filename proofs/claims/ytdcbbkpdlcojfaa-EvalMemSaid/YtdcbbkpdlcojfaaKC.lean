/-
  The logic's rules for maps, iterators over maps, function values with first arguments, nil pointers, and strings of bytes. No condition.
-/
import Derived.Test.YtdcbbkpdlcojfaaKB
import Derived.Maps.RangeRun
import Derived.WalkSpells
import Derived.Laws.BytesString
import Derived.Lib.ConvBytes
namespace Go.Proofs.Ytdcbbkpdlcojfaa
set_option linter.unusedSimpArgs false
set_option linter.unusedVariables false
set_option linter.unusedSectionVars false
open Go.RowKit

/-! ### Plain lists by key -/
section
variable {α κ : Type} [DecidableEq κ]
def fnd (kf : α → κ) (vf : α → Value) (k : κ) : List (α × Nat) → Nat → Option (Nat × Value)
  | [], _ => none
  | m :: r, i => if kf m.1 = k then some (i, vf m.1) else fnd kf vf k r (i + 1)
theorem fnd_none {kf : α → κ} {vf : α → Value} {k : κ} : ∀ {ms : List (α × Nat)} {i : Nat}, fnd kf vf k ms i = none → ∀ m ∈ ms, kf m.1 ≠ k
  | [], _, _, m, hm => by simp at hm
  | m0 :: r, i, h, m, hm => by
    simp only [fnd] at h
    by_cases e : kf m0.1 = k
    · rw [if_pos e] at h; cases h
    · rw [if_neg e] at h
      rcases List.mem_cons.1 hm with rfl | hm
      · exact e
      · exact fnd_none h m hm
theorem fnd_some {kf : α → κ} {vf : α → Value} {k : κ} : ∀ {ms : List (α × Nat)} {i j : Nat} {v : Value}, fnd kf vf k ms i = some (j, v) → i ≤ j ∧ ∃ m, ms[j - i]? = some m ∧ kf m.1 = k ∧ v = vf m.1
  | [], _, _, _, h => by cases h
  | m0 :: r, i, j, v, h => by
    simp only [fnd] at h
    by_cases e : kf m0.1 = k
    · rw [if_pos e] at h
      simp at h
      obtain ⟨rfl, rfl⟩ := h
      exact ⟨Nat.le_refl _, m0, by simp, e, rfl⟩
    · rw [if_neg e] at h
      obtain ⟨h1, m, h2, h3, h4⟩ := fnd_some h
      refine ⟨by omega, m, ?_, h3, h4⟩
      rw [show j - i = (j - (i + 1)) + 1 by omega]
      simpa using h2
/-- A map's entries: keys and stamps are different, stamps below the clock. -/
structure MW (kf : α → κ) (ms : List (α × Nat)) (clk : Nat) : Prop where
  keys : (ms.map fun m => kf m.1).Nodup
  born : (ms.map (·.2)).Nodup
  lt : ∀ m ∈ ms, m.2 < clk
def entOf (mk : κ → Value) (kf : α → κ) (vf : α → Value) (m : α × Nat) : MapEntry := { key := mk (kf m.1), val := vf m.1, born := m.2 }
/-- How keys of the type kt are compared. -/
structure KeyLaw (P : Program) (kt : TypeId) (mk : κ → Value) : Prop where
  check : ∀ (b : Bool) (k : κ) (w : World), (Instr.checkKey b 10000 kt (mk k)).run P w = .ok () w
  find : ∀ {α : Type} (kf : α → κ) (vf : α → Value) (k : κ) (ms : List (α × Nat)) (w : World), (Instr.findKey kt (mk k) (ms.map (entOf mk kf vf))).run P w = .ok (fnd kf vf k ms 0) w
  stays : ∀ k : κ, Instr.sameBits 10000 (mk k) (mk k) = true
end

theorem key_int {P : Program} {kt : TypeId} {q : IntKind} (h : P.underlying kt = some (.int q)) : KeyLaw P kt (fun n : Int => Value.int q n) where
  check := fun b k w => by
    show (Instr.checkKey b (9999 + 1) kt (.int q k)).run P w = _
    unfold Instr.checkKey
    simp [Sem.run_bind, run_underlying h]
  find := fun {α} kf vf k ms w => by
    have hnow : ∀ (ms : List (α × Nat)) (i : Nat), Instr.findNow (.int q) (.int q k) (ms.map (entOf (fun n : Int => Value.int q n) kf vf)) i = some (fnd kf vf k ms i) := by
      intro ms
      induction ms with
      | nil => intro i; rfl
      | cons m r ih =>
        intro i
        simp only [List.map_cons, Instr.findNow, entOf, Instr.sameNow, if_true, fnd]
        by_cases e : kf m.1 = k
        · have : (k == kf m.1) = true := by simp [e]
          rw [this, if_pos e]
        · have : (k == kf m.1) = false := by simp; exact fun h => e h.symm
          rw [this, if_neg e]
          exact ih (i + 1)
    unfold Instr.findKey
    simp [Sem.run_bind, run_underlying h, hnow]
  stays := fun k => by simp [Instr.sameBits]

section
variable {α κ : Type} [DecidableEq κ]
/-- The map o: its entries and its clock. -/
def mps (mk : κ → Value) (kf : α → κ) (vf : α → Value) (o : Option Nat) (ms : List (α × Nat)) (clk : Nat) : Asn :=
  ⟨fun w F => MW kf ms clk ∧ (∀ x, F x ↔ o = some x) ∧ (o = none → ms = []) ∧ ∀ b, o = some b → w.heap[b]? = some (.map (ms.map (entOf mk kf vf)).toArray clk),
   fun ⟨h0, h1, h2, h3⟩ hs => ⟨h0, h1, h2, fun b hb => (hs b ((h1 b).2 hb)).trans (h3 b hb)⟩⟩
/-- The map o holds the list, in whatever order. -/
def mp (mk : κ → Value) (kf : α → κ) (vf : α → Value) (o : Option Nat) (L : List α) : Asn :=
  ⟨fun w F => ∃ ms clk, (ms.map (·.1)).Perm L ∧ (mps mk kf vf o ms clk).pred w F, fun ⟨ms, clk, h1, h2⟩ hs => ⟨ms, clk, h1, (mps mk kf vf o ms clk).stable h2 hs⟩⟩
/-- An iterator over the map o that has visited the entries done. -/
def itr (i : Nat) (o : Option Nat) (clk : Nat) (done : List (α × Nat)) : Asn :=
  ⟨fun w F => (∀ x, F x ↔ x = i) ∧ w.heap[i]? = some (.mapIter o (if o = none then 0 else clk) (done.map (·.2)).toArray (if o = none then 0 else clk)), fun ⟨h1, h2⟩ hs => ⟨h1, (hs i ((h1 i).2 rfl)).trans h2⟩⟩
end

theorem MW.find {α κ : Type} [DecidableEq κ] {kf : α → κ} {ms : List (α × Nat)} {clk : Nat} (h : MW kf ms clk) {L : List α} (hp : (ms.map (·.1)).Perm L) {k : κ} {m : α × Nat} (hm : m ∈ ms) (hk : kf m.1 = k) : L.find? (fun a => decide (kf a = k)) = some m.1 := by
  have hmem : m.1 ∈ L := hp.mem_iff.1 (List.mem_map.2 ⟨m, hm, rfl⟩)
  have hnd : (L.map kf).Nodup := by
    have := (hp.map kf).nodup_iff.1 (by rw [List.map_map]; exact h.keys)
    exact this
  cases hf : L.find? (fun a => decide (kf a = k)) with
  | none =>
    have := List.find?_eq_none.1 hf m.1 hmem
    simp [hk] at this
  | some a =>
    have h1 := List.find?_some hf
    have h2 := List.mem_of_find?_eq_some hf
    simp at h1
    have : a = m.1 := by
      have hi := List.getElem_of_mem h2
      have hj := List.getElem_of_mem hmem
      obtain ⟨i, hi, ei⟩ := hi
      obtain ⟨j, hj, ej⟩ := hj
      have hp2 := List.pairwise_iff_getElem.1 hnd
      rcases Nat.lt_trichotomy i j with hlt | he | hlt
      · have := hp2 i j (by simpa using hi) (by simpa using hj) hlt
        simp [ei, ej, h1, hk] at this
      · subst he; rw [← ei, ← ej]
      · have := hp2 j i (by simpa using hj) (by simpa using hi) hlt
        simp [ei, ej, h1, hk] at this
    rw [this]
theorem MW.nofind {α κ : Type} [DecidableEq κ] {kf : α → κ} {ms : List (α × Nat)} {L : List α} (hp : (ms.map (·.1)).Perm L) {k : κ} (hk : ∀ m ∈ ms, kf m.1 ≠ k) : L.find? (fun a => decide (kf a = k)) = none := by
  refine List.find?_eq_none.2 fun a ha => ?_
  obtain ⟨m, hm, rfl⟩ := List.mem_map.1 (hp.mem_iff.2 ha)
  simpa using hk m hm

def noRow : Obj → Bool
  | .cells _ _ _ => false
  | _ => true
theorem run_getObj {P : Program} {w : World} {r : Nat} {o : Obj} (h : w.heap[r]? = some o) (hn : noRow o = true) : (getObj r).run P w = .ok o w := by
  simp only [getObj, Sem.run, h]
  cases o <;> simp_all [noRow]
theorem run_setObj {P : Program} {w : World} {r : Nat} {o : Obj} (h : w.heap[r]? = some o) (hn : noRow o = true) (o' : Obj) : (setObj r o').run P w = .ok () (Go.ChangeMaps.setBlock w r o') := by
  simp only [setObj, Sem.run, h, Go.ChangeMaps.setBlock]
  cases o <;> simp_all [noRow]
theorem touch_setBlock {w : World} {r : Nat} {o' : Obj} {M : Nat → Prop} (hM : M r) : Touch M w (Go.ChangeMaps.setBlock w r o') :=
  ⟨rfl, rfl, rfl, by simp [Go.ChangeMaps.setBlock], fun k hk hm => by
    simp only [Go.ChangeMaps.setBlock, Array.getElem?_setIfInBounds]
    rw [if_neg (fun e : r = k => hm (e ▸ hM))]⟩
theorem setBlock_same {w : World} {r : Nat} {o o' : Obj} (h : w.heap[r]? = some o) : (Go.ChangeMaps.setBlock w r o').heap[r]? = some o' := by
  have := (Array.getElem?_eq_some_iff.1 h).1
  simp [Go.ChangeMaps.setBlock, this]
theorem setBlock_size {w : World} {r : Nat} {o' : Obj} : (Go.ChangeMaps.setBlock w r o').heap.size = w.heap.size := by simp [Go.ChangeMaps.setBlock]

section
variable {P : Program} {N : Nat} {w0 : World} {M H : Nat → Prop} {E : Env} {Γ R : Ctx} {Q : Exit → Act → World → Prop}
variable {ops : Array Oper} {rest : List Oper} {T : TypeId} {ps : String} {af : Array Edge} {d : Nat} {op : Op}
variable {α κ : Type} [DecidableEq κ] {mk : κ → Value} {kf : α → κ} {vf : α → Value}

/-- An owned or read map. -/
def HasMp (Γ R : Ctx) (mk : κ → Value) (kf : α → κ) (vf : α → Value) (o : Option Nat) (L : List α) : Prop := (∃ k, cget Γ k = some (mp mk kf vf o L)) ∨ ∃ k, cget R k = some (mp mk kf vf o L)
theorem hm_own {k : Nat} {o : Option Nat} {L : List α} (h : cget Γ k = some (mp mk kf vf o L)) : HasMp Γ R mk kf vf o L := .inl ⟨k, h⟩
theorem hm_ro {k : Nat} {o : Option Nat} {L : List α} (h : cget R k = some (mp mk kf vf o L)) : HasMp Γ R mk kf vf o L := .inr ⟨k, h⟩
theorem HasMp.ok {o : Option Nat} {L : List α} (h : HasMp Γ R mk kf vf o L) {w : World} (hC : COk w0 M H Γ R w) : ∃ G, (mp mk kf vf o L).pred w G := by
  rcases h with ⟨k, hk⟩ | ⟨k, hk⟩
  · obtain ⟨G, h1, _⟩ := hC.reads (.inl hk); exact ⟨G, h1⟩
  · obtain ⟨G, h1, _⟩ := hC.reads (.inr hk); exact ⟨G, h1⟩

/-- make(map[K]V) -/
theorem ms_makeMap {S : TypeId} (kf : α → κ) (mk : κ → Value) (vf : α → Value) : MS P N w0 M H E Γ R ⟨some d, .makeMap S none, T, ps, af, none⟩ (X := Nat) (fun _ => True) (fun b => .map (some b)) (fun b => (d, mp mk kf vf (some b) []) :: Γ) (fun _ => R) :=
  ms_gen fun a w hE hC => ⟨w.heap.size, w.alloc (.map #[] 0), trivial, by simp [execOp, Instr.makeMap, newObj, Sem.run], by
    refine hC.new (Touch.alloc _ _ _) ⟨fun x => x = w.heap.size, ⟨[], 0, List.Perm.refl _, ⟨by simp, by simp, by simp⟩, fun x => by simp [eq_comm], by simp, fun b hb => ?_⟩, fun b hb => by subst hb; simp⟩
    simp at hb
    subst hb
    exact (Go.MapKept.heap_alloc w _).1⟩
theorem r_makeMap {S : TypeId} (kf : α → κ) (mk : κ → Value) (vf : α → Value) (hd : Nat.blt d N = true) (kk : ∀ b, At N w0 M H ((d, .map (some b)) :: E) ((d, mp mk kf vf (some b) []) :: Γ) R (wpList P ops Q rest)) :
    At N w0 M H E Γ R (wpList P ops Q (⟨some d, .makeMap S none, T, ps, af, none⟩ :: rest)) := r_ms (ms_makeMap kf mk vf) hd fun b _ => kk b

/-- m[k], with or without ok. -/
theorem p_lookup {S kt et : TypeId} {x y : Operand} {o : Option Nat} {k : κ} {L : List α} {r : Option α} {D : TypeDesc} {z : Value} {s bb : Nat} {ok : Bool} (hS : P.underlying S = some (.map kt et)) (hK : KeyLaw P kt mk) (ht : TI P et D z s bb) (hx : ev E x = some (.map o)) (hy : ev E y = some (mk k)) (hm : HasMp Γ R mk kf vf o L) (hr : L.find? (fun a => decide (kf a = k)) = r) :
    PR P N w0 M H E Γ R (.lookup S x y ok) (bif ok then .tuple #[(r.map vf).getD z, .bool r.isSome] else (r.map vf).getD z) := fun _ _ _ a w hE hC _ _ => by
  obtain ⟨G, ms, clk, hp, hw, hF, hn, hb⟩ := hm.ok hC
  have hrun : ∀ es : Array MapEntry, es = (ms.map (entOf mk kf vf)).toArray → (∀ v ok', (fnd kf vf k ms 0 = none → v = z ∧ ok' = false) → (∀ i u, fnd kf vf k ms 0 = some (i, u) → v = u ∧ ok' = true) → v = (r.map vf).getD z ∧ ok' = r.isSome) := by
    intro es _ v ok' h1 h2
    cases hf : fnd kf vf k ms 0 with
    | none =>
      obtain ⟨rfl, rfl⟩ := h1 hf
      rw [MW.nofind hp (fnd_none hf)] at hr
      subst hr
      exact ⟨rfl, rfl⟩
    | some p =>
      obtain ⟨i, u⟩ := p
      obtain ⟨rfl, rfl⟩ := h2 i u hf
      obtain ⟨_, m, hm1, hm2, rfl⟩ := fnd_some hf
      rw [hw.find hp (List.mem_of_getElem? hm1) hm2] at hr
      subst hr
      exact ⟨rfl, rfl⟩
  have h0 := hrun _ rfl
  have key : (Instr.lookup S (.map o) (mk k) ok).run P w = .ok (bif ok then .tuple #[(r.map vf).getD z, .bool r.isSome] else (r.map vf).getD z) w := by
    have hfind := hK.find kf vf k ms w
    unfold Instr.lookup
    simp only [Sem.run_bind, run_underlying hS, Result.andThen_ok]
    cases o with
    | none =>
      rw [hn rfl] at hfind h0
      simp only [List.map_nil] at hfind
      simp only [Sem.run_bind, Sem.run_pure, Result.andThen_ok, hK.check, hfind]
      cases hf : fnd kf vf k ([] : List (α × Nat)) 0 with
      | none =>
        obtain ⟨h3, h4⟩ := h0 z false (fun _ => ⟨rfl, rfl⟩) (fun i u h => by rw [hf] at h; cases h)
        simp only [Sem.run_bind, ht.zero, Result.andThen_ok, Sem.run_pure, ← h3, ← h4]
        cases ok <;> simp
      | some p =>
        obtain ⟨i, u⟩ := p
        obtain ⟨h3, h4⟩ := h0 u true (fun h => by rw [hf] at h; cases h) (fun i' u' h => by rw [hf] at h; simp at h; exact ⟨h.2, rfl⟩)
        simp only [Sem.run_bind, Result.andThen_ok, Sem.run_pure, ← h3, ← h4]
        cases ok <;> simp
    | some b =>
      simp only [Sem.run_bind, run_getObj (hb b rfl) rfl, Sem.run_pure, Result.andThen_ok, hK.check, hfind]
      cases hf : fnd kf vf k ms 0 with
      | none =>
        obtain ⟨h3, h4⟩ := h0 z false (fun _ => ⟨rfl, rfl⟩) (fun i u h => by rw [hf] at h; cases h)
        simp only [Sem.run_bind, ht.zero, Result.andThen_ok, Sem.run_pure, ← h3, ← h4]
        cases ok <;> simp
      | some p =>
        obtain ⟨i, u⟩ := p
        obtain ⟨h3, h4⟩ := h0 u true (fun h => by rw [hf] at h; cases h) (fun i' u' h => by rw [hf] at h; simp at h; exact ⟨h.2, rfl⟩)
        simp only [Sem.run_bind, Result.andThen_ok, Sem.run_pure, ← h3, ← h4]
        cases ok <;> simp
  simp [execOp, hE.ev hx, hE.ev hy, key]

theorem COk.openG {k : Nat} {A : Asn} {w : World} (h : COk w0 M H Γ R w) (hk : cget Γ k = some A) : ∃ G, A.pred w G ∧ (∀ b, G b → b < w.heap.size) ∧ ∀ A' : Asn, A'.pred w G → COk w0 M H ((k, A') :: Γ) R w := by
  obtain ⟨F, hF⟩ := h
  refine ⟨F k, hF.has k A hk, hF.lt k, fun A' hA' => ⟨F, hF.touch, fun j B hj => ?_, hF.lt, hF.mine, hF.apart, hF.ro⟩⟩
  simp only [cget] at hj
  cases hb : Nat.beq k j with
  | true =>
    rw [hb] at hj
    simp at hj
    subst hj
    rw [← Nat.eq_of_beq_eq_true hb]
    exact hA'
  | false => rw [hb] at hj; exact hF.has j B hj
theorem COk.openR {k r : Nat} {A : Asn} {w : World} (h : COk w0 M H Γ R w) (hk : cget R k = some A) : ∃ G, A.pred w G ∧ ∀ A' : Asn, A'.pred w G → COk w0 M H Γ ((r, A') :: R) w := by
  obtain ⟨F, hF⟩ := h
  obtain ⟨G, h1, h2⟩ := hF.ro k A hk
  refine ⟨G, h1, fun A' hA' => ⟨F, hF.touch, hF.has, hF.lt, hF.mine, hF.apart, fun j B hj => ?_⟩⟩
  simp only [cget] at hj
  cases hb : Nat.beq r j with
  | true => rw [hb] at hj; simp at hj; subst hj; exact ⟨G, hA', h2⟩
  | false => rw [hb] at hj; exact hF.ro j B hj
/-- An owned map, opened: some entries in some order. -/
theorem r_mpo (k : Nat) {o : Option Nat} {L : List α} {Rel : Act → World → Prop} (hk : cget Γ k = some (mp mk kf vf o L)) (kk : ∀ ms clk, (ms.map (·.1)).Perm L → MW kf ms clk → At N w0 M H E ((k, mps mk kf vf o ms clk) :: Γ) R Rel) : At N w0 M H E Γ R Rel := by
  intro a w hE hC
  obtain ⟨G, ⟨ms, clk, h1, h2⟩, _, h3⟩ := hC.openG hk
  exact kk ms clk h1 h2.1 a w hE (h3 _ h2)
theorem r_mpoR (k r : Nat) {o : Option Nat} {L : List α} {Rel : Act → World → Prop} (hk : cget R k = some (mp mk kf vf o L)) (kk : ∀ ms clk, (ms.map (·.1)).Perm L → MW kf ms clk → At N w0 M H E Γ ((r, mps mk kf vf o ms clk) :: R) Rel) : At N w0 M H E Γ R Rel := by
  intro a w hE hC
  obtain ⟨G, ⟨ms, clk, h1, h2⟩, h3⟩ := hC.openR (r := r) hk
  exact kk ms clk h1 h2.1 a w hE (h3 _ h2)
theorem mps_mp {o : Option Nat} {ms : List (α × Nat)} {clk : Nat} {L : List α} (h : (ms.map (·.1)).Perm L) : ∀ w G, (mps mk kf vf o ms clk).pred w G → (mp mk kf vf o L).pred w G := fun w G hp => ⟨ms, clk, h, hp⟩
/-- Another order, or more said of the same. -/
theorem mp_perm {o : Option Nat} {L L' : List α} (h : L.Perm L') : ∀ w G, (mp mk kf vf o L).pred w G → (mp mk kf vf o L').pred w G := fun w G ⟨ms, clk, h1, h2⟩ => ⟨ms, clk, h1.trans h, h2⟩

theorem set_perm {kf : α → κ} (a : α) : ∀ (l : List α) (i : Nat) (x : α), (l.map kf).Nodup → l[i]? = some x → kf x = kf a → (l.set i a).Perm (a :: l.filter fun y => decide (kf y ≠ kf a))
  | [], i, x, _, h, _ => by simp at h
  | y :: r, 0, x, hn, h, hk => by
    simp at h
    subst h
    simp only [List.map_cons, List.nodup_cons] at hn
    rw [List.set_cons_zero, List.filter_cons_of_neg (by simpa using hk), List.filter_eq_self.2]
    intro z hz
    simp only [decide_eq_true_eq]
    intro e
    exact hn.1 (by rw [hk, ← e]; exact List.mem_map.2 ⟨z, hz, rfl⟩)
  | y :: r, i + 1, x, hn, h, hk => by
    simp only [List.map_cons, List.nodup_cons] at hn
    have hr : r[i]? = some x := by simpa using h
    have ih := set_perm a r i x hn.2 hr hk
    have hy : kf y ≠ kf a := fun e => hn.1 (by rw [e, ← hk]; exact List.mem_map.2 ⟨x, List.mem_of_getElem? hr, rfl⟩)
    rw [List.set_cons_succ, List.filter_cons_of_pos (by simpa using hy)]
    exact (ih.cons y).trans (List.Perm.swap a y _)
theorem modify_map {β γ : Type} (f : β → γ) (g : γ → γ) (l : List β) (i : Nat) (x b : β) (hi : l[i]? = some x) (h : g (f x) = f b) : (l.map f).toArray.modify i g = ((l.set i b).map f).toArray := by
  apply Array.ext_getElem?
  intro j
  rw [Array.getElem?_modify]
  simp only [List.getElem?_toArray, List.getElem?_map, List.getElem?_set]
  by_cases e : i = j
  · subst e
    obtain ⟨hlt, hx⟩ := List.getElem?_eq_some_iff.1 hi
    simp [hx, h, hlt]
  · simp [e]
/-- m[k] = v -/
theorem ms_mapUpdate {S kt et : TypeId} {x y z : Operand} {b : Nat} {k : Nat} (e : α) {L : List α} (L' : List α) (hS : P.underlying S = some (.map kt et)) (hK : KeyLaw P kt mk) (hx : ev E x = some (.map (some b))) (hy : ev E y = some (mk (kf e))) (hz : ev E z = some (vf e)) (hk : cget Γ k = some (mp mk kf vf (some b) L))
    (hp : (e :: L.filter fun a => decide (kf a ≠ kf e)).Perm L') :
    MS P N w0 M H E Γ R ⟨none, .mapUpdate S x y z, T, ps, af, none⟩ (X := Unit) (fun _ => True) (fun _ => undef) (fun _ => (k, mp mk kf vf (some b) L') :: Γ) (fun _ => R) := by
  intro a w hE hC next Q hn
  obtain ⟨G0, ⟨ms, clk, hpm, hmp⟩, _⟩ := hC.reads (.inl hk)
  obtain ⟨hW, hF, _, hb⟩ := hmp
  have hb := hb b rfl
  have hfind := hK.find kf vf (kf e) ms w
  have hmid : ∃ (ms' : List (α × Nat)) (clk' : Nat), (Instr.mapUpdate S (.map (some b)) (mk (kf e)) (vf e)).run P w = .ok () (Go.ChangeMaps.setBlock w b (.map (ms'.map (entOf mk kf vf)).toArray clk')) ∧ MW kf ms' clk' ∧ (ms'.map (·.1)).Perm L' := by
    unfold Instr.mapUpdate
    simp only [Sem.run_bind, run_underlying hS, Result.andThen_ok, run_getObj hb rfl, hK.check, hfind]
    cases hf : fnd kf vf (kf e) ms 0 with
    | none =>
      have hno := fnd_none hf
      refine ⟨ms ++ [(e, clk)], clk + 1, ?_, ⟨?_, ?_, ?_⟩, ?_⟩
      · simp only [run_setObj hb rfl]
        simp [entOf]
      · rw [List.map_append, List.nodup_append]
        refine ⟨hW.keys, by simp, fun u hu v hv => ?_⟩
        obtain ⟨m, hm, rfl⟩ := List.mem_map.1 hu
        simp at hv
        subst hv
        exact hno m hm
      · rw [List.map_append, List.nodup_append]
        refine ⟨hW.born, by simp, fun u hu v hv => ?_⟩
        obtain ⟨m, hm, rfl⟩ := List.mem_map.1 hu
        simp at hv
        subst hv
        exact Nat.ne_of_lt (hW.lt m hm)
      · intro m hm
        rcases List.mem_append.1 hm with h | h
        · have := hW.lt m h; omega
        · simp at h; subst h; simp
      · refine List.Perm.trans ?_ hp
        rw [List.map_append]
        have hfl : L.filter (fun a => decide (kf a ≠ kf e)) = L := List.filter_eq_self.2 fun u hu => by
          obtain ⟨m, hm, rfl⟩ := List.mem_map.1 (hpm.mem_iff.2 hu)
          simpa using hno m hm
        rw [hfl]
        exact (List.perm_append_singleton e (ms.map (·.1))).trans (hpm.cons e)
    | some p =>
      obtain ⟨i, u⟩ := p
      obtain ⟨_, m, hm1, hm2, rfl⟩ := fnd_some hf
      rw [Nat.sub_zero] at hm1
      refine ⟨ms.set i (e, m.2), clk, ?_, ⟨?_, ?_, ?_⟩, ?_⟩
      · have hold : (((ms.map (entOf mk kf vf)).toArray[i]?).map (·.key)).getD (mk (kf e)) = mk (kf e) := by
          simp [List.getElem?_map, hm1, entOf, hm2]
        simp only [Sem.run_bind, hold, Instr.keyThatStays, hK.stays, if_true, Sem.run_pure, Result.andThen_ok, run_setObj hb rfl]
        rw [modify_map (entOf mk kf vf) _ ms i m (e, m.2) hm1 (by simp [entOf])]
      · have : (ms.set i (e, m.2)).map (fun m => kf m.1) = ms.map fun m => kf m.1 := by
          apply List.ext_getElem?
          intro j
          simp only [List.getElem?_map, List.getElem?_set]
          by_cases e1 : i = j
          · subst e1
            obtain ⟨hlt, hx2⟩ := List.getElem?_eq_some_iff.1 hm1
            simp [hx2, hlt, hm2]
          · simp [e1]
        rw [this]
        exact hW.keys
      · have : (ms.set i (e, m.2)).map (·.2) = ms.map (·.2) := by
          apply List.ext_getElem?
          intro j
          simp only [List.getElem?_map, List.getElem?_set]
          by_cases e1 : i = j
          · subst e1
            obtain ⟨hlt, hx2⟩ := List.getElem?_eq_some_iff.1 hm1
            simp [hx2, hlt]
          · simp [e1]
        rw [this]
        exact hW.born
      · intro m' hm'
        rcases List.mem_or_eq_of_mem_set hm' with h | h
        · exact hW.lt m' h
        · subst h; exact hW.lt m (List.mem_of_getElem? hm1)
      · refine List.Perm.trans ?_ hp
        have e1 : (ms.set i (e, m.2)).map (·.1) = (ms.map (·.1)).set i e := by rw [List.map_set]
        rw [e1]
        have h2 := set_perm (kf := kf) e (ms.map (·.1)) i m.1 (by rw [List.map_map]; exact hW.keys) (by simp [hm1]) hm2
        exact h2.trans ((hpm.filter _).cons e)
  obtain ⟨ms', clk', hrun, hW', hp'⟩ := hmid
  unfold Oper.wp
  have hex : (execOp a.eval ⟨none, .mapUpdate S x y z, T, ps, af, none⟩).run P w = .ok .skip (Go.ChangeMaps.setBlock w b (.map (ms'.map (entOf mk kf vf)).toArray clk')) := by
    simp [execOp, hE.ev hx, hE.ev hy, hE.ev hz, hrun]
  rw [hex]
  refine hn () _ trivial (hC.upd hk fun G hG hGlt => ?_)
  obtain ⟨ms2, clk2, _, _, hF2, _, hb2⟩ := hG
  have hGb : G b := (hF2 b).2 rfl
  refine ⟨G, ⟨ms', clk', hp', hW', hF2, by simp, fun c hc => ?_⟩, fun c hc => ⟨by rw [setBlock_size]; exact hGlt c hc, fun _ => hc⟩, touch_setBlock hGb⟩
  simp at hc
  subst hc
  exact setBlock_same hb
theorem r_mapUpdate {S kt et : TypeId} {x y z : Operand} {b : Nat} {k : Nat} (e : α) {L : List α} (L' : List α) (hS : P.underlying S = some (.map kt et)) (hK : KeyLaw P kt mk) (hx : ev E x = some (.map (some b))) (hy : ev E y = some (mk (kf e))) (hz : ev E z = some (vf e)) (hk : cget Γ k = some (mp mk kf vf (some b) L))
    (hp : (e :: L.filter fun a => decide (kf a ≠ kf e)).Perm L') (kk : At N w0 M H E ((k, mp mk kf vf (some b) L') :: Γ) R (wpList P ops Q rest)) : At N w0 M H E Γ R (wpList P ops Q (⟨none, .mapUpdate S x y z, T, ps, af, none⟩ :: rest)) :=
  r_ms0 (ms_mapUpdate e L' hS hK hx hy hz hk hp) fun _ _ => kk

theorem erase_filter {kf : α → κ} {k : κ} : ∀ (l : List (α × Nat)) (i : Nat) (m : α × Nat), (l.map fun m => kf m.1).Nodup → l[i]? = some m → kf m.1 = k → l.eraseIdx i = l.filter fun m => decide (kf m.1 ≠ k)
  | [], i, m, _, h, _ => by simp at h
  | y :: r, 0, m, hn, h, hk => by
    simp at h
    subst h
    simp only [List.map_cons, List.nodup_cons] at hn
    rw [List.filter_cons_of_neg (by simpa using hk), List.eraseIdx_cons_zero, List.filter_eq_self.2]
    intro z hz
    simp only [decide_eq_true_eq]
    intro e
    exact hn.1 (by rw [hk, ← e]; exact List.mem_map.2 ⟨z, hz, rfl⟩)
  | y :: r, i + 1, m, hn, h, hk => by
    simp only [List.map_cons, List.nodup_cons] at hn
    have hr : r[i]? = some m := by simpa using h
    have hy : kf y.1 ≠ k := fun e => hn.1 (by rw [e, ← hk]; exact List.mem_map.2 ⟨m, List.mem_of_getElem? hr, rfl⟩)
    rw [List.eraseIdx_cons_succ, List.filter_cons_of_pos (by simpa using hy), erase_filter r i m hn.2 hr hk]
theorem MW.filter {kf : α → κ} {ms : List (α × Nat)} {clk : Nat} (h : MW kf ms clk) (p : α × Nat → Bool) : MW kf (ms.filter p) clk :=
  ⟨(List.filter_sublist.map _).nodup h.keys, (List.filter_sublist.map _).nodup h.born, fun m hm => h.lt m ((List.mem_filter.1 hm).1)⟩
/-- delete(m, k), of an opened map. -/
theorem ms_deleteS {S kt et K2 : TypeId} {x y : Operand} {dst : Option Nat} {o : Option Nat} {k : κ} {kn : Nat} {ms : List (α × Nat)} {clk : Nat} (hS : P.underlying S = some (.map kt et)) (hK : KeyLaw P kt mk) (hx : ev E x = some (.map o)) (hy : ev E y = some (mk k)) (hk : cget Γ kn = some (mps mk kf vf o ms clk)) :
    MS P N w0 M H E Γ R ⟨dst, .call { callee := .builtin .delete, args := #[x, y], argTypes := #[S, K2] }, T, ps, af, none⟩ (X := Unit) (fun _ => True) (fun _ => .tuple #[]) (fun _ => (kn, mps mk kf vf o (ms.filter fun m => decide (kf m.1 ≠ k)) clk) :: Γ) (fun _ => R) := by
  refine ms_gen fun a w hE hC => ?_
  obtain ⟨G0, ⟨hW, hF, hn, hb⟩, _⟩ := hC.reads (.inl hk)
  cases o with
  | none =>
    refine ⟨(), w, trivial, ?_, hC.upd hk fun G hG hGlt => ⟨G, ?_, fun c hc => ⟨hGlt c hc, fun _ => hc⟩, Touch.refl _ _⟩⟩
    · simp [execOp, resolve, invoke, builtin, hE.ev hx, hE.ev hy, Builtin.delete_, run_underlying hS, hK.check]
    · rw [hn rfl]
      have := hG
      rw [hn rfl] at this
      exact this
  | some b =>
    have hb := hb b rfl
    have hfind := hK.find kf vf k ms w
    refine ⟨(), Go.ChangeMaps.setBlock w b (.map ((ms.filter fun m => decide (kf m.1 ≠ k)).map (entOf mk kf vf)).toArray clk), trivial, ?_, hC.upd hk fun G hG hGlt => ?_⟩
    · have hd : (Builtin.delete_ #[S, K2] T #[.map (some b), mk k]).run P w = .ok (.tuple #[]) (Go.ChangeMaps.setBlock w b (.map ((ms.filter fun m => decide (kf m.1 ≠ k)).map (entOf mk kf vf)).toArray clk)) := by
        unfold Builtin.delete_
        simp only [Sem.run_bind, List.getElem?_toArray, List.getElem?_cons_zero, List.getElem?_cons_succ, run_underlying hS, Result.andThen_ok, run_getObj hb rfl, hK.check, hfind]
        cases hf : fnd kf vf k ms 0 with
        | none =>
          have hfl : ms.filter (fun m => decide (kf m.1 ≠ k)) = ms := List.filter_eq_self.2 fun m hm => by simpa using fnd_none hf m hm
          simp only [Sem.run_bind, run_setObj hb rfl, Result.andThen_ok, Sem.run_pure, hfl]
        | some p =>
          obtain ⟨i, u⟩ := p
          obtain ⟨_, m, hm1, hm2, rfl⟩ := fnd_some hf
          rw [Nat.sub_zero] at hm1
          have hlt := (List.getElem?_eq_some_iff.1 hm1).1
          have he : (ms.map (entOf mk kf vf)).toArray.eraseIdxIfInBounds i = ((ms.filter fun m => decide (kf m.1 ≠ k)).map (entOf mk kf vf)).toArray := by
            rw [← erase_filter ms i m hW.keys hm1 hm2]
            unfold Array.eraseIdxIfInBounds
            rw [dif_pos (by simpa using hlt)]
            simp [Go.ChangeMaps.map_eraseIdx]
          simp only [Sem.run_bind, run_setObj hb rfl, Result.andThen_ok, Sem.run_pure, he]
      simp [execOp, resolve, invoke, builtin, hE.ev hx, hE.ev hy, hd]
    · obtain ⟨_, hF2, _, _⟩ := hG
      have hGb : G b := (hF2 b).2 rfl
      refine ⟨G, ⟨hW.filter _, hF2, by simp, fun c hc => ?_⟩, fun c hc => ⟨by rw [setBlock_size]; exact hGlt c hc, fun _ => hc⟩, touch_setBlock hGb⟩
      simp at hc
      subst hc
      exact setBlock_same hb

/-! ### Ranging over a map -/
def HasMps (Γ R : Ctx) (mk : κ → Value) (kf : α → κ) (vf : α → Value) (o : Option Nat) (ms : List (α × Nat)) (clk : Nat) : Prop := (∃ k, cget Γ k = some (mps mk kf vf o ms clk)) ∨ ∃ k, cget R k = some (mps mk kf vf o ms clk)
theorem hms_own {k : Nat} {o : Option Nat} {ms : List (α × Nat)} {clk : Nat} (h : cget Γ k = some (mps mk kf vf o ms clk)) : HasMps Γ R mk kf vf o ms clk := .inl ⟨k, h⟩
theorem hms_ro {k : Nat} {o : Option Nat} {ms : List (α × Nat)} {clk : Nat} (h : cget R k = some (mps mk kf vf o ms clk)) : HasMps Γ R mk kf vf o ms clk := .inr ⟨k, h⟩
theorem HasMps.ok {o : Option Nat} {ms : List (α × Nat)} {clk : Nat} (h : HasMps Γ R mk kf vf o ms clk) {w : World} (hC : COk w0 M H Γ R w) : ∃ G, (mps mk kf vf o ms clk).pred w G := by
  rcases h with ⟨k, hk⟩ | ⟨k, hk⟩
  · obtain ⟨G, h1, _⟩ := hC.reads (.inl hk); exact ⟨G, h1⟩
  · obtain ⟨G, h1, _⟩ := hC.reads (.inr hk); exact ⟨G, h1⟩
theorem ms_range {S kt et : TypeId} {x : Operand} {o : Option Nat} {ms : List (α × Nat)} {clk : Nat} (hS : P.underlying S = some (.map kt et)) (hx : ev E x = some (.map o)) (hm : HasMps Γ R mk kf vf o ms clk) :
    MS P N w0 M H E Γ R ⟨some d, .range S x, T, ps, af, none⟩ (X := Nat) (fun _ => True) (fun i => .pointer (some ⟨i, 0, none⟩)) (fun i => (d, itr (α := α) i o clk []) :: Γ) (fun _ => R) := by
  refine ms_gen fun a w hE hC => ?_
  obtain ⟨G, hW, hF, hn, hb⟩ := hm.ok hC
  refine ⟨w.heap.size, w.alloc (.mapIter o (if o = none then 0 else clk) #[] (if o = none then 0 else clk)), trivial, ?_, hC.new (Touch.alloc _ _ _) ⟨fun x => x = w.heap.size, ⟨fun x => Iff.rfl, by simpa using (Go.MapKept.heap_alloc w _).1⟩, fun b hb => by subst hb; simp⟩⟩
  cases o with
  | none => simp [execOp, hE.ev hx, Instr.range, run_underlying hS, newObj, Sem.run]
  | some b => simp [execOp, hE.ev hx, Instr.range, run_underlying hS, newObj, Sem.run, run_getObj (hb b rfl) rfl]
theorem r_range {S kt et : TypeId} {x : Operand} {o : Option Nat} {ms : List (α × Nat)} {clk : Nat} (hS : P.underlying S = some (.map kt et)) (hx : ev E x = some (.map o)) (hm : HasMps Γ R mk kf vf o ms clk) (hd : Nat.blt d N = true)
    (kk : ∀ i, At N w0 M H ((d, .pointer (some ⟨i, 0, none⟩)) :: E) ((d, itr (α := α) i o clk []) :: Γ) R (wpList P ops Q rest)) : At N w0 M H E Γ R (wpList P ops Q (⟨some d, .range S x, T, ps, af, none⟩ :: rest)) := r_ms (ms_range hS hx hm) hd fun i _ => kk i

theorem r_next {x : Operand} {i ki : Nat} {o : Option Nat} {ms done : List (α × Nat)} {clk : Nat} (hx : ev E x = some (.pointer (some ⟨i, 0, none⟩))) (hk : cget Γ ki = some (itr i o clk done)) (hm : HasMps Γ R mk kf vf o ms clk) (hd : Nat.blt d N = true)
    (over : (∀ m ∈ ms, m.2 ∈ done.map (·.2)) → At N w0 M H ((d, .tuple #[.bool false]) :: E) Γ R (wpList P ops Q rest))
    (more : ∀ m, m ∈ ms → m.2 ∉ done.map (·.2) → At N w0 M H ((d, .tuple #[.bool true, mk (kf m.1), vf m.1]) :: E) ((ki, itr i o clk (done ++ [m])) :: Γ) R (wpList P ops Q rest)) :
    At N w0 M H E Γ R (wpList P ops Q (⟨some d, .next x false, T, ps, af, none⟩ :: rest)) := by
  intro a w hE hC
  obtain ⟨G, hW, hF, hn, hb⟩ := hm.ok hC
  obtain ⟨GI, ⟨hI1, hI2⟩, _⟩ := hC.reads (.inl hk)
  unfold wpList
  rw [if_pos (by simp [Region.wanted])]
  left
  unfold Oper.wp
  cases o with
  | none =>
    have hrun : (execOp a.eval ⟨some d, .next x false, T, ps, af, none⟩).run P w = .ok (.value (.tuple #[.bool false])) w := by
      simp [execOp, hE.ev hx, Instr.next, run_getObj hI2 rfl]
    rw [hrun]
    exact over (fun m hm => by rw [hn rfl] at hm; simp at hm) _ _ (hE.put hd _) hC
  | some b =>
    have hb := hb b rfl
    simp only [reduceCtorEq, if_false] at hI2
    have hmem : ∀ e : MapEntry, e ∈ (leftOf (ms.map (entOf mk kf vf)).toArray (done.map (·.2)).toArray).toList ↔ ∃ m, m ∈ ms ∧ m.2 ∉ done.map (·.2) ∧ entOf mk kf vf m = e := by
      intro e
      simp only [leftOf, Array.toList_filter, List.mem_filter, List.mem_map, List.contains_toArray]
      constructor
      · rintro ⟨⟨m, hm, rfl⟩, h2⟩
        refine ⟨m, hm, ?_, rfl⟩
        rintro ⟨q, hq, e⟩
        simp [entOf] at h2
        exact h2 q.1 (by rw [← e]; exact hq)
      · rintro ⟨m, hm, h2, rfl⟩
        refine ⟨⟨m, hm, rfl⟩, ?_⟩
        simp [entOf]
        intro y hy
        exact h2 ⟨(y, m.2), hy, rfl⟩
    rcases run_next_at (P := P) w T i b clk clk (done.map (·.2)).toArray (ms.map (entOf mk kf vf)).toArray clk hI2 hb (fun e he => by
        simp at he
        obtain ⟨m1, m2, hm, rfl⟩ := he
        exact hW.lt _ hm) (Nat.le_refl _) with ⟨h0, hr⟩ | ⟨e, he, w1, hw1, hr⟩
    · have hrun : (execOp a.eval ⟨some d, .next x false, T, ps, af, none⟩).run P w = .ok (.value (.tuple #[.bool false])) w := by
        simp [execOp, hE.ev hx, hr]
      rw [hrun]
      refine over (fun m hm => ?_) _ _ (hE.put hd _) hC
      apply Classical.byContradiction
      intro hno
      have := (hmem (entOf mk kf vf m)).2 ⟨m, hm, hno, rfl⟩
      have hs : (leftOf (ms.map (entOf mk kf vf)).toArray (done.map (·.2)).toArray).toList.length = 0 := by simpa using h0
      rw [List.eq_nil_of_length_eq_zero hs] at this
      simp at this
    · obtain ⟨m, hm, hno, rfl⟩ := (hmem e).1 he
      have hrun : (execOp a.eval ⟨some d, .next x false, T, ps, af, none⟩).run P w = .ok (.value (.tuple #[.bool true, mk (kf m.1), vf m.1])) (Go.ChangeMaps.setBlock w1 i (.mapIter (some b) clk ((done.map (·.2)).toArray.push m.2) clk)) := by
        simp [execOp, hE.ev hx]
        rw [hr]
        simp [entOf]
      rw [hrun]
      have hC1 : COk w0 M H Γ R w1 := by
        rcases hw1 with rfl | rfl
        · exact hC
        · exact hC.stay ⟨rfl, rfl, rfl, Nat.le_refl _, fun _ _ _ => rfl⟩
      have hI3 : w1.heap[i]? = some (.mapIter (some b) clk (done.map (·.2)).toArray clk) := by
        rcases hw1 with rfl | rfl <;> exact hI2
      refine more m hm hno _ _ (hE.put hd _) (hC1.upd hk fun G2 hG hGlt => ⟨G2, ⟨hG.1, ?_⟩, fun c hc => ⟨by rw [setBlock_size]; exact hGlt c hc, fun _ => hc⟩, touch_setBlock ((hG.1 i).2 rfl)⟩)
      rw [setBlock_same hI3]
      simp
theorem p_entry {x : Operand} {i ki : Nat} {o : Option Nat} {ms done : List (α × Nat)} {clk : Nat} {m : α × Nat} (hx : ev E x = some (.pointer (some ⟨i, 0, none⟩))) (hk : cget Γ ki = some (itr i o clk (done ++ [m]))) (hm : HasMps Γ R mk kf vf o ms clk) (hmem : m ∈ ms) :
    PR P N w0 M H E Γ R (.entry x) (.tuple #[mk (kf m.1), vf m.1]) := fun _ _ _ a w hE hC _ _ => by
  obtain ⟨G, hW, hF, hn, hb⟩ := hm.ok hC
  obtain ⟨GI, ⟨hI1, hI2⟩, _⟩ := hC.reads (.inl hk)
  cases o with
  | none => rw [hn rfl] at hmem; simp at hmem
  | some b =>
    simp only [reduceCtorEq, if_false, List.map_append, List.map_cons, List.map_nil] at hI2
    have hI3 : w.heap[i]? = some (.mapIter (some b) clk ((done.map (·.2)).toArray.push (entOf mk kf vf m).born) clk) := by
      rw [hI2]; simp [entOf]
    have := run_entry_at (P := P) w i b clk (done.map (·.2)).toArray (ms.map (entOf mk kf vf)).toArray clk (entOf mk kf vf m) hI3 (hb b rfl) (by simp; exact ⟨m.1, m.2, hmem, rfl⟩) (by
      have := hW.born
      simpa [List.map_map, Function.comp_def, entOf] using this)
    simp [execOp, hE.ev hx, this, entOf]
/-- What has been visited when nothing is left is everything. -/
theorem done_perm {ms done : List (α × Nat)} (hb : (ms.map (·.2)).Nodup) (hsub : ∀ m ∈ done, m ∈ ms) (hnd : (done.map (·.2)).Nodup) (hall : ∀ m ∈ ms, m.2 ∈ done.map (·.2)) : done.Perm ms := by
  have inj : ∀ x ∈ ms, ∀ y ∈ ms, x.2 = y.2 → x = y := by
    intro x hx y hy e
    obtain ⟨i, hi, ei⟩ := List.getElem_of_mem hx
    obtain ⟨j, hj, ej⟩ := List.getElem_of_mem hy
    have hp := List.pairwise_iff_getElem.1 hb
    rcases Nat.lt_trichotomy i j with h | h | h
    · have := hp i j (by simpa using hi) (by simpa using hj) h
      simp [ei, ej, e] at this
    · subst h; rw [← ei, ← ej]
    · have := hp j i (by simpa using hj) (by simpa using hi) h
      simp [ei, ej, e] at this
  have n1 : done.Nodup := (List.pairwise_map.1 hnd).imp fun h e => h (by rw [e])
  have n2 : ms.Nodup := (List.pairwise_map.1 hb).imp fun h e => h (by rw [e])
  refine (List.perm_ext_iff_of_nodup n1 n2).2 fun m => ⟨hsub m, fun hm => ?_⟩
  obtain ⟨q, hq, e⟩ := List.mem_map.1 (hall m hm)
  rw [← inj q (hsub q hq) m hm e]
  exact hq
end

section
variable {P : Program} {N : Nat} {w0 : World} {M H : Nat → Prop} {E : Env} {Γ R : Ctx} {Q : Exit → Act → World → Prop}
variable {ops : Array Oper} {rest : List Oper} {T : TypeId} {ps : String} {af : Array Edge} {d : Nat} {op : Op}
/-! ### Calls of function values with first arguments -/
theorem ms_callF {dst : Option Nat} {n : Nat} {f : Operand} {xs : List Operand} {fst cap us vs : List Value} {at_ : Array TypeId} {L R0 : List Asn} {X : Type} {φ : X → Prop} {v : X → Value} {L' R' : X → List Asn} (hs : Spec P n vs L R0 φ v L' R') (hcb : Cb P n)
    (ks : List Nat) (rs : List (Bool × Nat)) (ns rns : List Nat) (hf : ev E f = some (.func (.func n) fst.toArray cap.toArray)) (hx : evs E xs = some us) (hu : fst ++ us ++ cap = vs)
    (hnd : ndB ks = true) (hL : cgets Γ ks = somes L) (hR : lgets Γ R rs = somes R0) (hl : lentOk ks rs = true) (hns : ndB ns = true) (hnl : ∀ x, φ x → ns.length = (L' x).length) (hrl : ∀ x, φ x → noneLent rs = true → rns.length = (R' x).length) :
    MS P N w0 M H E Γ R ⟨dst, .call { callee := .value f, args := xs.toArray, argTypes := at_ }, T, ps, af, none⟩ φ v (fun x => cputs ns (L' x) (ckill ks Γ)) (fun x => bif noneLent rs then cputs rns (R' x) R else R) := by
  intro a w hE hC next Q hnext
  unfold Oper.wp
  have hev := hE.evs hx
  have hrun : (execOp a.eval ⟨dst, .call { callee := .value f, args := xs.toArray, argTypes := at_ }, T, ps, af, none⟩).run P w = .ok (.enter n vs.toArray) w := by
    subst hu
    simp [execOp, resolve, hE.ev hf, Deferred.ofValue, invoke, hev, run_callFunc hcb]
  rw [hrun]
  refine (calls_use hs hC ks hnd hL rs hR hl ns hns hnl rns hrl).mono ?_
  rintro e w' ⟨x, h1, rfl, h2⟩
  exact hnext x w' h1 h2
theorem r_callF {n : Nat} {f : Operand} {xs : List Operand} {fst cap us vs : List Value} {at_ : Array TypeId} {L R0 : List Asn} {X : Type} {φ : X → Prop} {v : X → Value} {L' R' : X → List Asn} (hs : Spec P n vs L R0 φ v L' R') (hcb : Cb P n)
    (ks : List Nat) (rs : List (Bool × Nat)) (ns rns : List Nat) (hf : ev E f = some (.func (.func n) fst.toArray cap.toArray)) (hx : evs E xs = some us) (hu : fst ++ us ++ cap = vs)
    (hnd : ndB ks = true) (hL : cgets Γ ks = somes L) (hR : lgets Γ R rs = somes R0) (hl : lentOk ks rs = true) (hns : ndB ns = true) (hnl : ∀ x, φ x → ns.length = (L' x).length) (hrl : ∀ x, φ x → noneLent rs = true → rns.length = (R' x).length)
    (hd : Nat.blt d N = true) (k : ∀ x, φ x → At N w0 M H ((d, v x) :: E) (cputs ns (L' x) (ckill ks Γ)) (bif noneLent rs then cputs rns (R' x) R else R) (wpList P ops Q rest)) :
    At N w0 M H E Γ R (wpList P ops Q (⟨some d, .call { callee := .value f, args := xs.toArray, argTypes := at_ }, T, ps, af, none⟩ :: rest)) :=
  r_ms (ms_callF hs hcb ks rs ns rns hf hx hu hnd hL hR hl hns hnl hrl) hd k

/-! ### nil -/
theorem ptr_of {S t : TypeId} (hS : P.underlying S = some (.pointer t)) : P.underlying S = some (.pointer (P.pointee S)) := by
  simp [Program.pointee, hS]
theorem b_eqPn {S t : TypeId} {p : Option Addr} (hS : P.underlying S = some (.pointer t)) : BinRun P .eql S (.pointer p) (.pointer none) (.bool p.isNone) := fun x y w => by
  have := run_eql_pointer_nil (P := P) w S p (ptr_of hS)
  simp [Sem.run_bind, eqGuard, this]
theorem b_nePn {S t : TypeId} {p : Option Addr} (hS : P.underlying S = some (.pointer t)) : BinRun P .neq S (.pointer p) (.pointer none) (.bool (!p.isNone)) := fun x y w => by
  have := run_neq_pointer_nil (P := P) w S p (ptr_of hS)
  simp [Sem.run_bind, eqGuard, this]
theorem b_sadd {S : TypeId} {a b : ByteArray} (h : a.size + b.size ≤ 1000000) : BinRun P .add S (.string a) (.string b) (.string (a ++ b)) := fun x y w => by
  rw [eqg_string]; simp [binOp, Op.stringOp]
  omega
theorem b_seq {S : TypeId} {a b : ByteArray} : BinRun P .eql S (.string a) (.string b) (.bool (a == b)) := fun x y w => by
  rw [eqg_string, beq_toListBytes]; simp [binOp, Op.stringOp]
theorem b_sne {S : TypeId} {a b : ByteArray} : BinRun P .neq S (.string a) (.string b) (.bool (!(a == b))) := fun x y w => by
  rw [eqg_string, beq_toListBytes]; simp [binOp, Op.stringOp, bne]
theorem b_eqMn {S t u : TypeId} {p : Option Nat} (hS : P.underlying S = some (.map t u)) : BinRun P .eql S (.map p) (.map none) (.bool p.isNone) := fun x y w => by
  have := run_eql_map_nil (P := P) w S t u p hS
  simp [Sem.run_bind, eqGuard, this]

/-! ### Strings and bytes -/
def bytesI (s : ByteArray) : List Int := s.data.toList.map fun b => (b.toNat : Int)
theorem bytesI_len (s : ByteArray) : (bytesI s).length = s.size := by simp [bytesI]
theorem bytesI_bd (s : ByteArray) (j : Nat) : 0 ≤ (bytesI s).getD j 0 ∧ (bytesI s).getD j 0 < 256 := by
  unfold bytesI
  rw [List.getD_eq_getElem?_getD, List.getElem?_map]
  cases h : s.data.toList[j]? with
  | none => simp
  | some b => simp; have := b.toNat_lt; omega
def eU8 : Int → List Value := fun n => [.int .u8 n]
theorem p_idx_str {S : TypeId} {x y : Operand} {s : ByteArray} {k : IntKind} {i : Int} {j : Nat} (hS : P.underlying S = some .string) (hx : ev E x = some (.string s)) (hy : ev E y = some (.int k i)) (hi : i = (j : Int)) (hj : j < s.size) :
    PR P N w0 M H E Γ R (.index S x y) (.int .u8 ((bytesI s).getD j 0)) := fun _ _ _ a w hE hC _ _ => by
  subst hi
  have hj' : j < s.data.size := hj
  have he : (bytesI s).getD j 0 = ((s[j]'hj).toNat : Int) := by
    unfold bytesI
    rw [List.getD_eq_getElem?_getD, List.getElem?_map, Array.getElem?_toList, Array.getElem?_eq_getElem hj']
    rfl
  rw [he]
  simp [execOp, hE.ev hx, hE.ev hy, Instr.index, asIntOf, run_underlying hS, hj]
theorem ms_s2b {S D U : TypeId} {x : Operand} {s : ByteArray} (hS : P.underlying S = some .string) (hD : P.underlying D = some (.slice U)) (hU : P.underlying U = some (.int .u8)) (hx : ev E x = some (.string s)) (hs : s.size ≤ 1000000) :
    MS P N w0 M H E Γ R ⟨some d, .convert S D x, T, ps, af, none⟩ (X := SV) (fun _ => True) (fun v => sv v) (fun _ => (d, emp) :: Γ) (fun v => (d, sl 1 eU8 (sv v) (bytesI s)) :: R) := by
  refine ms_gen fun a w hE hC => ?_
  have hrun := Go.Lib.run_convert_string_bytes (P := P) w S D U s hS hD hU
  refine ⟨⟨some ⟨w.heap.size, 0, none⟩, s.size, grownCap w s.size 0 U⟩, Go.Lib.bytesWorld w U s, trivial, ?_, ?_⟩
  · simp [execOp, hE.ev hx, hrun, sv]
  · have ht : Touch (fun _ => False) w (Go.Lib.bytesWorld w U s) := ⟨rfl, rfl, rfl, by rw [Go.Lib.bytesWorld_size]; omega, fun k hk _ => Go.Lib.bytesWorld_at_old w U s k hk⟩
    have hnew := hC.new (k := d) (A' := sl 1 eU8 (sv ⟨some ⟨w.heap.size, 0, none⟩, s.size, grownCap w s.size 0 U⟩) (bytesI s)) ht ⟨fun x => x = w.heap.size, ⟨grownCap w s.size 0 U, by rw [bytesI_len]; exact grownCap_ge w s.size 0 U, grownCap_le_maxLen w s.size 0 U (by unfold maxLen; omega), .inr ⟨w.heap.size, 0, by rw [bytesI_len]; rfl, rfl, fun j u hj => ?_⟩⟩, fun b hb => by subst hb; rw [Go.Lib.bytesWorld_size]; omega⟩
    · have h2 := hnew.freeze (k := d) (r := d) (A := sl 1 eU8 (sv ⟨some ⟨w.heap.size, 0, none⟩, s.size, grownCap w s.size 0 U⟩) (bytesI s)) (by simp [cget]) (fun _ _ h => h)
      refine h2.congr (fun j A hA => ?_) (fun _ _ h => h)
      simp only [cget] at hA ⊢
      cases hb : Nat.beq d j with
      | true => rw [hb] at hA; simpa using hA
      | false => rw [hb] at hA; simpa using hA
    · have hfl : (bytesI s).flatMap eU8 = (bytesI s).map (Value.int .u8) := by
        generalize bytesI s = l
        induction l with
        | nil => rfl
        | cons y ys ih => simp [eU8, ih]
      rw [hfl, List.getElem?_map] at hj
      have hjs : j < s.size := by
        rw [← bytesI_len s]
        cases h : (bytesI s)[j]? with
        | none => rw [h] at hj; cases hj
        | some y => exact (List.getElem?_eq_some_iff.1 h).1
      rw [Nat.zero_add, Go.Lib.bytesWorld_cell w U s j hjs]
      simp only [bytesI, List.getElem?_map] at hj
      have hjd : j < s.data.toList.length := by simpa using hjs
      rw [List.getElem?_eq_getElem hjd] at hj
      simp at hj
      subst hj
      rw [List.getD_eq_getElem?_getD, List.getElem?_eq_getElem hjd]
      simp
theorem r_s2b {S D U : TypeId} {x : Operand} {s : ByteArray} (hS : P.underlying S = some .string) (hD : P.underlying D = some (.slice U)) (hU : P.underlying U = some (.int .u8)) (hx : ev E x = some (.string s)) (hs : s.size ≤ 1000000) (hd : Nat.blt d N = true)
    (kk : ∀ v, At N w0 M H ((d, sv v) :: E) ((d, emp) :: Γ) ((d, sl 1 eU8 (sv v) (bytesI s)) :: R) (wpList P ops Q rest)) : At N w0 M H E Γ R (wpList P ops Q (⟨some d, .convert S D x, T, ps, af, none⟩ :: rest)) := r_ms (ms_s2b hS hD hU hx hs) hd fun v _ => kk v
def ofI (l : List Int) : ByteArray := l.foldl (fun r n => r.push (UInt8.ofNat n.toNat)) ByteArray.empty
theorem ofI_size (l : List Int) : (ofI l).size = l.length := by
  have : ∀ (l : List Int) (r : ByteArray), (l.foldl (fun r n => r.push (UInt8.ofNat n.toNat)) r).size = r.size + l.length := by
    intro l
    induction l with
    | nil => intro r; simp
    | cons n l ih => intro r; rw [List.foldl_cons, ih, ByteArray.size_push, List.length_cons]; omega
  have := this l ByteArray.empty
  simpa [ofI] using this
theorem p_b2s {S D U : TypeId} {x : Operand} {v : SV} {l : List Int} (hS : P.underlying S = some (.slice U)) (hU : P.underlying U = some (.int .u8)) (hD : P.underlying D = some .string) (hx : ev E x = some (sv v)) (hs : HasSl Γ R 1 eU8 (sv v) l) (hl : l ≠ []) :
    PR P N w0 M H E Γ R (.convert S D x) (.string (ofI l)) := fun _ _ _ a w hE hC _ _ => by
  obtain ⟨G, c, h1, h2, h3⟩ := hs.ok hC
  rcases h3 with ⟨rfl, _⟩ | ⟨b, o, hv, _, hc⟩
  · exact absurd rfl hl
  · have hfl : l.flatMap eU8 = l.map (Value.int .u8) := by
      clear hl hs hv hc h1 h2
      induction l with
      | nil => rfl
      | cons y ys ih => simp [eU8, ih]
    rw [hfl] at hc
    have hld := run_loadCells_list (P := P) w ⟨b, o, none⟩ (l.map (Value.int .u8)) (fun j u hj => by rw [add_lit']; exact hc j u hj)
    rw [List.length_map] at hld
    have := run_bytesToString (P := P) w ⟨b, o, none⟩ l.length c l hld
    simp [execOp, hE.ev hx, hv, run_convert_bytes_string w S D U _ _ _ hS hU hD, this, ofI]

/-! ### Many slices to read -/
def pgA {β : Type} (pv : β → SV) (pl : β → List Int) (S : List β) : Asn :=
  ⟨fun w F => ∀ x ∈ S, ∃ G : Nat → Prop, SlOk w G 1 eI (sv (pv x)) (pl x) ∧ ∀ b, G b → F b, fun h hs x hx => by
    obtain ⟨G, h1, h2⟩ := h x hx
    exact ⟨G, (sl 1 eI (sv (pv x)) (pl x)).stable h1 fun b hb => hs b (h2 b hb), h2⟩⟩
theorem COk.joinR {w : World} (h : COk w0 M H Γ R w) {r1 r2 r : Nat} {A B C : Asn} (h1 : cget R r1 = some A) (h2 : cget R r2 = some B) (hC : ∀ GA GB : Nat → Prop, A.pred w GA → B.pred w GB → C.pred w fun b => GA b ∨ GB b) : COk w0 M H Γ ((r, C) :: R) w := by
  obtain ⟨F, hF⟩ := h
  refine ⟨F, hF.touch, hF.has, hF.lt, hF.mine, hF.apart, fun j D hj => ?_⟩
  simp only [cget] at hj
  cases hb : Nat.beq r j with
  | true =>
    rw [hb] at hj
    simp at hj
    subst hj
    obtain ⟨GA, a1, a2⟩ := hF.ro r1 A h1
    obtain ⟨GB, b1, b2⟩ := hF.ro r2 B h2
    exact ⟨_, hC GA GB a1 b1, fun b hb => by rcases hb with hb | hb; exact a2 b hb; exact b2 b hb⟩
  | false => rw [hb] at hj; exact hF.ro j D hj
/-- One more slice that is read from now on. -/
theorem r_pgadd {β : Type} {pv : β → SV} {pl : β → List Int} (k r r' : Nat) {S : List β} (x : β) {v : SV} {l : List Int} {U : TypeId} {Rel : Act → World → Prop} (hk : cget Γ k = some (own U 1 eI (sv v) l)) (hr : cget R r = some (pgA pv pl S)) (hv : pv x = v) (hl : pl x = l) (hne : Nat.beq r' r = false)
    (h : At N w0 M H E ((k, emp) :: Γ) ((r, pgA pv pl (x :: S)) :: (r', sl 1 eI (sv v) l) :: R) Rel) : At N w0 M H E Γ R Rel := by
  intro a w hE hC
  subst hv
  subst hl
  have h1 := hC.freeze (r := r') hk own_to_sl
  have h2 := h1.joinR (r1 := r) (r2 := r') (r := r) (A := pgA pv pl S) (B := sl 1 eI (sv (pv x)) (pl x)) (C := pgA pv pl (x :: S)) (by simp [cget, hne, hr]) (by simp [cget]) (fun GA GB ha hb y hy => by
    rcases List.mem_cons.1 hy with rfl | hy
    · exact ⟨GB, hb, fun b h => .inr h⟩
    · obtain ⟨G, g1, g2⟩ := ha y hy
      exact ⟨G, g1, fun b h => .inl (g2 b h)⟩)
  exact h a w hE h2
theorem r_pgsl {β : Type} {pv : β → SV} {pl : β → List Int} (r r' : Nat) {S : List β} (x : β) {Rel : Act → World → Prop} (hr : cget R r = some (pgA pv pl S)) (hx : x ∈ S) (h : At N w0 M H E Γ ((r', sl 1 eI (sv (pv x)) (pl x)) :: R) Rel) : At N w0 M H E Γ R Rel :=
  r_more r r' hr (fun w G hG _ => by obtain ⟨G', g1, g2⟩ := hG x hx; exact ⟨G', g1, g2⟩) h
theorem pgA_nil {β : Type} {pv : β → SV} {pl : β → List Int} (w : World) (G : Nat → Prop) : (pgA pv pl ([] : List β)).pred w G := fun x hx => by simp at hx

/-! ### Rows to read -/
theorem g_rowR {k b o : Nat} {S : TypeId} {c us : List Value} (hk : cget R k = some (row b S c)) (hu : (c.drop o).take us.length = us) : Gives w0 M H Γ R b o us := by
  intro w hC j u hj
  obtain ⟨G, ⟨_, h2⟩, _⟩ := hC.reads (.inr hk)
  rw [cell_of_row w b (o + j) _ S (0, 0) h2]
  rw [← hu, List.getElem?_take] at hj
  split at hj
  · simpa using hj
  · cases hj
theorem g_row1R {k b o : Nat} {S : TypeId} {c : List Value} {u : Value} (hk : cget R k = some (row b S c)) (hu : c[o]? = some u) : Gives w0 M H Γ R b o [u] := by
  intro w hC j u' hj
  obtain ⟨G, ⟨_, h2⟩, _⟩ := hC.reads (.inr hk)
  cases j with
  | zero => simp at hj; subst hj; rw [cell_of_row w b (o + 0) _ S (0, 0) h2]; simpa using hu
  | succ j => simp at hj
theorem wrap_u32_bd (z : Int) : 0 ≤ IntKind.u32.wrap z ∧ IntKind.u32.wrap z < 4294967296 := by
  simp only [IntKind.wrap, IntKind.signed, IntKind.bits]
  simp
  omega
theorem wrap_u32_id {z : Int} (h : 0 ≤ z) (h2 : z < 4294967296) : IntKind.u32.wrap z = z := by
  simp only [IntKind.wrap, IntKind.signed, IntKind.bits]
  simp
  omega
end
end Go.Proofs.Ytdcbbkpdlcojfaa
