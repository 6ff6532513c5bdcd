/-
  The rules of the logic for operations on memory: blocks of the call's own, slices that it owns, slices that it reads; calls; returns. No condition.
-/
import Derived.Test.YtfdbkclbcajkiaaK1
namespace Go.Proofs.Ytfdbkclbcajkiaa
set_option linter.unusedSimpArgs false
set_option linter.unusedVariables false
open Go.RowKit

/-! ### Types -/
def aggD : TypeDesc → Bool
  | .struct _ | .array _ _ => true
  | _ => false
/-- Facts of a type: its form, its zero value, its number of cells and of bytes. -/
structure TI (P : Program) (T : TypeId) (D : TypeDesc) (z : Value) (s b : Nat) : Prop where
  und : P.underlying T = some D
  inf : (P.info? T).map (fun i => (i.zero, i.size, i.bytes)) = some (some z, s, b)

section
variable {P : Program} {T : TypeId} {D : TypeDesc} {z : Value} {s b : Nat}
theorem TI.info (h : TI P T D z s b) : ∃ i, P.info? T = some i ∧ i.zero = some z ∧ i.size = s ∧ i.bytes = b := by
  have hi := h.inf
  cases hx : P.info? T with
  | none => rw [hx] at hi; simp at hi
  | some i =>
    rw [hx] at hi
    simp at hi
    exact ⟨i, rfl, hi.1, hi.2.1, hi.2.2⟩
theorem TI.isAgg (h : TI P T D z s b) (w : World) : (isAgg T).run P w = .ok (aggD D) w := by
  unfold Go.isAgg
  rw [Sem.run_bind, run_underlying h.und]
  cases D <;> simp [aggD]
theorem TI.sizeOf (h : TI P T D z s b) (w : World) : (sizeOf T).run P w = .ok s w := by
  obtain ⟨i, h1, h2, h3, h4⟩ := h.info
  simp [Go.sizeOf, typeInfo, h1, h3]
theorem TI.zero (h : TI P T D z s b) (w : World) : (zeroValue T).run P w = .ok z w := by
  obtain ⟨i, h1, h2, h3, h4⟩ := h.info
  simp [zeroValue, typeInfo, h1, h2]
end

/-! ### Assertions -/
/-- Block b is a row of the cells c. -/
def row (b : Nat) (T : TypeId) (c : List Value) : Asn := ⟨fun w F => (∀ x, F x ↔ x = b) ∧ w.heap[b]? = some (.cells c.toArray T (0, 0)), fun ⟨h1, h2⟩ hs => ⟨h1, (hs b ((h1 b).2 rfl)).trans h2⟩⟩
/-- Block b is a row of n cells; f tells them. -/
def arr (b : Nat) (T : TypeId) (n : Nat) (f : Nat → Value) : Asn := ⟨fun w F => (∀ x, F x ↔ x = b) ∧ w.rowIs b T n f, fun ⟨h1, h2⟩ hs => ⟨h1, h2.of_block (hs b ((h1 b).2 rfl))⟩⟩
theorem ownsRow_block {w w' : World} {base : Nat} {e : TypeId} {size : Nat} {v : Value} {n : Nat} {xs : List Value} (h : w.ownsRow base e size v n xs) (hb : ∀ b, v.ownBlock = some b → w'.heap[b]? = w.heap[b]?) : w'.ownsRow base e size v n xs := by
  refine ⟨h.1, ?_⟩
  rcases h.2 with hn | ⟨g, cap, cur, rfl, hbg, hg, rest⟩
  · exact .inl hn
  · exact .inr ⟨g, cap, cur, rfl, hbg, (hb g rfl).trans hg, rest⟩
/-- The slice v, of the call's own (it may be nil if it is empty), holds the list l; each element is s cells. -/
def own {α : Type} (T : TypeId) (s : Nat) (enc : α → List Value) (v : Value) (l : List α) : Asn :=
  ⟨fun w F => (∀ x, F x ↔ v.ownBlock = some x) ∧ w.ownsRow 0 T s v l.length (l.flatMap enc), fun ⟨h1, h2⟩ hs => ⟨h1, ownsRow_block h2 fun b hb => hs b ((h1 b).2 hb)⟩⟩
/-- The slice v, for reading, holds the list l. -/
def SlOk {α : Type} (w : World) (F : Nat → Prop) (s : Nat) (enc : α → List Value) (v : Value) (l : List α) : Prop :=
  ∃ c, l.length ≤ c ∧ c ≤ maxLen ∧ ((l = [] ∧ (∀ x, ¬ F x) ∧ v = .slice none 0 0) ∨
    ∃ b o, v = .slice (some ⟨b, o, none⟩) l.length c ∧ F b ∧ ∀ j u, (l.flatMap enc)[j]? = some u → w.cell? ⟨b, o + j, none⟩ = some u)
def sl {α : Type} (s : Nat) (enc : α → List Value) (v : Value) (l : List α) : Asn :=
  ⟨fun w F => SlOk w F s enc v l, fun ⟨c, h1, h2, h3⟩ hs => ⟨c, h1, h2, by
    rcases h3 with h | ⟨b, o, hv, hb, hc⟩
    · exact .inl h
    · exact .inr ⟨b, o, hv, hb, fun j u hj => (World.cell?_of_block (hs b hb)).trans (hc j u hj)⟩⟩⟩

/-- A slice value. -/
structure SV where
  a : Option Addr
  n : Nat
  c : Nat
def sv (x : SV) : Value := .slice x.a x.n x.c
def nilS : SV := ⟨none, 0, 0⟩
theorem ownsRow_sv {w : World} {base : Nat} {e : TypeId} {size : Nat} {v : Value} {n : Nat} {xs : List Value} (h : w.ownsRow base e size v n xs) : ∃ x, v = sv x := by
  rcases h.2 with ⟨rfl, _⟩ | ⟨g, cap, cur, rfl, _⟩
  · exact ⟨nilS, rfl⟩
  · exact ⟨⟨_, _, _⟩, rfl⟩

def sblk : Value → Nat
  | .slice (some a) _ _ => a.block
  | _ => 0
def soff : Value → Nat
  | .slice (some a) _ _ => a.off
  | _ => 0

theorem own_sl {α : Type} {T : TypeId} {s : Nat} {enc : α → List Value} {v : Value} {l : List α} {w : World} {F : Nat → Prop} (h : (own T s enc v l).pred w F) : SlOk w F s enc v l := by
  obtain ⟨h1, h2⟩ := h
  rcases h2.2 with ⟨rfl, hn⟩ | ⟨g, cap, cur, rfl, _, hg, hnc, hcm, hcs, htake⟩
  · have : l = [] := List.eq_nil_of_length_eq_zero hn
    subst this
    exact ⟨0, by simp, by simp, .inl ⟨rfl, fun x hx => by simpa [Value.ownBlock] using (h1 x).1 hx, rfl⟩⟩
  · refine ⟨cap, hnc, hcm, .inr ⟨g, 0, rfl, (h1 g).2 rfl, fun j u hj => ?_⟩⟩
    have := h2.cells (g := g) rfl j u hj
    have hadd : (⟨g, 0, none⟩ : Addr).add j = ⟨g, 0 + j, none⟩ := by unfold Addr.add; split <;> simp_all
    rwa [hadd] at this

/-! ### Changing what is owned -/
section
variable {w0 : World} {M H : Nat → Prop} {Γ R : Ctx} {w w' : World}

theorem cget_swap {k : Nat} {A' : Asn} (Γ : Ctx) : ∀ j A, cget ((k, A') :: Γ) j = some A → cget (cputs [k] [A'] (ckill [k] Γ)) j = some A := by
  intro j A h
  simp only [cputs, ckill, cget] at h ⊢
  cases hb : Nat.beq k j with
  | true => rw [hb] at h; simpa using h
  | false => rw [hb] at h; simpa using h

theorem COk.upd {k : Nat} {A A' : Asn} (h : COk w0 M H Γ R w) (hk : cget Γ k = some A)
    (hs : ∀ G, A.pred w G → (∀ b, G b → b < w.heap.size) → ∃ G', A'.pred w' G' ∧ (∀ b, G' b → b < w'.heap.size ∧ (b < w.heap.size → G b)) ∧ Touch G w w') : COk w0 M H ((k, A') :: Γ) R w' := by
  obtain ⟨M', H', hL, hstep⟩ := h.step [k] (by simp) (L := [A]) (by simp [cgets, somes, hk]) (R0 := []) (by intro i A h; simp at h)
  obtain ⟨F0, hF⟩ := hL
  obtain ⟨G', h1, h2, h3⟩ := hs (F0 0) (hF.has 0 A rfl) (hF.lt 0)
  have hnew : LOk w M' H' [A'] [] w' := by
    refine ⟨fun i b => i = 0 ∧ G' b, ?_, ?_, ?_, ?_, ?_, ?_⟩
    · exact (hF.touch).trans h3 (fun x hx hg => hF.mine 0 x hg hx)
    · intro i B hi
      cases i with
      | zero =>
        simp at hi
        subst hi
        have : (fun b => (0 : Nat) = 0 ∧ G' b) = G' := by funext b; simp
        show A'.pred w' _
        rw [this]
        exact h1
      | succ i => simp at hi
    · rintro i b ⟨_, hb⟩; exact (h2 b hb).1
    · rintro i b ⟨_, hb⟩ hlt; exact hF.mine 0 b ((h2 b hb).2 hlt) hlt
    · rintro i j b ⟨rfl, _⟩ ⟨rfl, _⟩; rfl
    · intro i B hi; simp at hi
  exact (hstep [A'] [] [k] [] w' (by simp) rfl rfl hnew).1.congr (cget_swap Γ) (fun _ _ h => h)

theorem COk.new {k : Nat} {A' : Asn} (h : COk w0 M H Γ R w) (ht : Touch (fun _ => False) w w') (hs : ∃ G', A'.pred w' G' ∧ ∀ b, G' b → b < w'.heap.size ∧ w.heap.size ≤ b) : COk w0 M H ((k, A') :: Γ) R w' := by
  obtain ⟨M', H', hL, hstep⟩ := h.step [] (by simp) (L := []) rfl (R0 := []) (by intro i A h; simp at h)
  obtain ⟨F0, hF⟩ := hL
  obtain ⟨G', h1, h2⟩ := hs
  have hnew : LOk w M' H' [A'] [] w' := by
    refine ⟨fun i b => i = 0 ∧ G' b, ?_, ?_, ?_, ?_, ?_, ?_⟩
    · exact (hF.touch).trans ht (fun x hx hg => hg.elim)
    · intro i B hi
      cases i with
      | zero =>
        simp at hi
        subst hi
        have : (fun b => (0 : Nat) = 0 ∧ G' b) = G' := by funext b; simp
        show A'.pred w' _
        rw [this]
        exact h1
      | succ i => simp at hi
    · rintro i b ⟨_, hb⟩; exact (h2 b hb).1
    · rintro i b ⟨_, hb⟩ hlt; have := (h2 b hb).2; omega
    · rintro i j b ⟨rfl, _⟩ ⟨rfl, _⟩; rfl
    · intro i B hi; simp at hi
  exact (hstep [A'] [] [k] [] w' (by simp) rfl rfl hnew).1

theorem COk.stay (h : COk w0 M H Γ R w) (ht : Touch (fun _ => False) w w') : COk w0 M H Γ R w' := by
  obtain ⟨M', H', hL, hstep⟩ := h.step [] (by simp) (L := []) rfl (R0 := []) (by intro i A h; simp at h)
  obtain ⟨F0, hF⟩ := hL
  have hnew : LOk w M' H' [] [] w' := ⟨fun _ _ => False, (hF.touch).trans ht (fun x hx hg => hg.elim), fun i B hi => by simp at hi, fun _ _ h => h.elim, fun _ _ h => h.elim, fun _ _ _ h => h.elim, fun i B hi => by simp at hi⟩
  exact (hstep [] [] [] [] w' (by simp) rfl rfl hnew).1

theorem COk.reads {k : Nat} {A : Asn} (h : COk w0 M H Γ R w) (hk : cget Γ k = some A ∨ cget R k = some A) : ∃ G, A.pred w G ∧ ∀ b, G b → b < w.heap.size := by
  obtain ⟨F, hF⟩ := h
  rcases hk with hk | hk
  · exact ⟨F k, hF.has k A hk, hF.lt k⟩
  · obtain ⟨G, h1, h2⟩ := hF.ro k A hk
    exact ⟨G, h1, fun b hb => (h2 b hb).1⟩

/-- What is owned becomes what is read. -/
theorem COk.freeze {k r : Nat} {A A' : Asn} (h : COk w0 M H Γ R w) (hk : cget Γ k = some A) (hA : ∀ w G, A.pred w G → A'.pred w G) : COk w0 M H ((k, emp) :: Γ) ((r, A') :: R) w := by
  classical
  obtain ⟨F, hF⟩ := h
  refine ⟨fun j b => j ≠ k ∧ F j b, hF.touch, ?_, ?_, ?_, ?_, ?_⟩
  · intro j B hj
    simp only [cget] at hj
    cases hb : Nat.beq k j with
    | true =>
      rw [hb] at hj
      simp at hj
      subst hj
      have := Nat.eq_of_beq_eq_true hb
      subst this
      rintro b ⟨hne, _⟩
      exact hne rfl
    | false =>
      rw [hb] at hj
      have hne : j ≠ k := fun e => by subst e; simp at hb
      have : (fun b => j ≠ k ∧ F j b) = F j := by funext b; simp [hne]
      show B.pred w _
      rw [this]
      exact hF.has j B hj
  · rintro j b ⟨_, hb⟩; exact hF.lt j b hb
  · rintro j b ⟨_, hb⟩ hlt; exact hF.mine j b hb hlt
  · rintro i j b ⟨_, hi⟩ ⟨_, hj⟩; exact hF.apart i j b hi hj
  · intro j B hj
    simp only [cget] at hj
    cases hb : Nat.beq r j with
    | true =>
      rw [hb] at hj
      simp at hj
      subst hj
      refine ⟨F k, hA _ _ (hF.has k A hk), fun b hb => ⟨hF.lt k b hb, ?_, fun hlt => .inl (hF.mine k b hb hlt)⟩⟩
      rintro j ⟨hne, hj⟩
      exact hne (hF.apart j k b hj hb)
    | false =>
      rw [hb] at hj
      obtain ⟨G, h1, h2⟩ := hF.ro j B hj
      refine ⟨G, h1, fun b hb => ⟨(h2 b hb).1, ?_, (h2 b hb).2.2⟩⟩
      rintro i ⟨_, hi⟩
      exact (h2 b hb).2.1 i hi

/-- More that is read, out of what is read. -/
theorem COk.more {k r : Nat} {A A' : Asn} (h : COk w0 M H Γ R w) (hk : cget R k = some A) (hA : ∀ G, A.pred w G → (∀ b, G b → b < w.heap.size) → ∃ G', A'.pred w G' ∧ ∀ b, G' b → G b) : COk w0 M H Γ ((r, A') :: R) w := by
  obtain ⟨F, hF⟩ := h
  refine ⟨F, hF.touch, hF.has, hF.lt, hF.mine, hF.apart, fun j B hj => ?_⟩
  simp only [cget] at hj
  cases hb : Nat.beq r j with
  | true =>
    rw [hb] at hj
    simp at hj
    subst hj
    obtain ⟨G, h1, h2⟩ := hF.ro k A hk
    obtain ⟨G', h3, h4⟩ := hA G h1 (fun b hb => (h2 b hb).1)
    exact ⟨G', h3, fun b hb => h2 b (h4 b hb)⟩
  | false => rw [hb] at hj; exact hF.ro j B hj
/-- The nil slice can always be read. -/
theorem COk.nil {r : Nat} {α : Type} {s : Nat} {enc : α → List Value} (h : COk w0 M H Γ R w) : COk w0 M H Γ ((r, sl s enc (.slice none 0 0) []) :: R) w := by
  obtain ⟨F, hF⟩ := h
  refine ⟨F, hF.touch, hF.has, hF.lt, hF.mine, hF.apart, fun j B hj => ?_⟩
  simp only [cget] at hj
  cases hb : Nat.beq r j with
  | true =>
    rw [hb] at hj
    simp at hj
    subst hj
    exact ⟨fun _ => False, ⟨0, by simp, by simp, .inl ⟨rfl, fun x h => h, rfl⟩⟩, fun b hb => hb.elim⟩
  | false => rw [hb] at hj; exact hF.ro j B hj
end

/-! ### Reading cells -/
section
variable {P : Program} {N : Nat} {w0 : World} {M H : Nat → Prop} {E : Env} {Γ R : Ctx} {Q : Exit → Act → World → Prop}
variable {ops : Array Oper} {rest : List Oper} {T : TypeId} {ps : String} {af : Array Edge} {d : Nat} {op : Op}

/-- At A there are the cells us. -/
def Gives (w0 : World) (M H : Nat → Prop) (Γ R : Ctx) (b o : Nat) (us : List Value) : Prop := ∀ w, COk w0 M H Γ R w → ∀ (j : Nat) u, us[j]? = some u → w.cell? ⟨b, o + j, none⟩ = some u

theorem add_lit' (b o j : Nat) : (⟨b, o, none⟩ : Addr).add j = ⟨b, o + j, none⟩ := by unfold Addr.add; split <;> simp_all

theorem g_row {k b o : Nat} {S : TypeId} {c us : List Value} (hk : cget Γ k = some (row b S c)) (hu : (c.drop o).take us.length = us) : Gives w0 M H Γ R b o us := by
  intro w hC j u hj
  obtain ⟨G, ⟨_, h2⟩, _⟩ := hC.reads (.inl hk)
  rw [cell_of_row w b (o + j) _ S (0, 0) h2]
  rw [← hu, List.getElem?_take] at hj
  split at hj
  · simpa using hj
  · cases hj
theorem g_row1 {k b o : Nat} {S : TypeId} {c : List Value} {u : Value} (hk : cget Γ k = some (row b S c)) (hu : c[o]? = some u) : Gives w0 M H Γ R b o [u] := by
  intro w hC j u' hj
  obtain ⟨G, ⟨_, h2⟩, _⟩ := hC.reads (.inl hk)
  cases j with
  | zero => simp at hj; subst hj; rw [cell_of_row w b (o + 0) _ S (0, 0) h2]; simpa using hu
  | succ j => simp at hj
theorem g_arr1 {k b o n : Nat} {S : TypeId} {f : Nat → Value} (hk : cget Γ k = some (arr b S n f)) (ho : o < n) : Gives w0 M H Γ R b o [f o] := by
  intro w hC j u hj
  obtain ⟨G, ⟨_, h2⟩, _⟩ := hC.reads (.inl hk)
  cases j with
  | zero => simp at hj; subst hj; exact h2.cell ho
  | succ j => simp at hj
theorem g_arr {k b n : Nat} {S : TypeId} {f : Nat → Value} (hk : cget Γ k = some (arr b S n f)) : Gives w0 M H Γ R b 0 ((List.range n).map f) := by
  intro w hC j u hj
  obtain ⟨G, ⟨_, h2⟩, _⟩ := hC.reads (.inl hk)
  rw [List.getElem?_map] at hj
  have hjn : j < n := by
    rcases Nat.lt_or_ge j n with h | h
    · exact h
    · rw [List.getElem?_eq_none (by simpa using h)] at hj; cases hj
  rw [List.getElem?_range hjn] at hj
  simp at hj
  subst hj
  simpa using h2.cell hjn

theorem flatMap_at {α : Type} {s : Nat} {enc : α → List Value} (he : ∀ x, (enc x).length = s) : ∀ (l : List α) (i o : Nat) (x : α) (u : Value), l[i]? = some x → (enc x)[o]? = some u → (l.flatMap enc)[i * s + o]? = some u
  | [], i, o, x, u, hi, _ => by simp at hi
  | y :: l, 0, o, x, u, hi, hu => by
    simp at hi
    subst hi
    rw [List.flatMap_cons, List.getElem?_append_left (by have := (List.getElem?_eq_some_iff.1 hu).1; omega)]
    simpa using hu
  | y :: l, i + 1, o, x, u, hi, hu => by
    rw [List.flatMap_cons, List.getElem?_append_right (by rw [he]; rw [Nat.add_mul]; omega), he]
    have := flatMap_at he l i o x u (by simpa using hi) hu
    rw [show (i + 1) * s + o - s = i * s + o by rw [Nat.add_mul]; omega]
    exact this

/-- A slice that is owned or read. -/
def HasSl {α : Type} (Γ R : Ctx) (s : Nat) (enc : α → List Value) (v : Value) (l : List α) : Prop :=
  (∃ k T, cget Γ k = some (own T s enc v l)) ∨ ∃ k, cget R k = some (sl s enc v l)
theorem hs_own {α : Type} {k : Nat} {T : TypeId} {s : Nat} {enc : α → List Value} {v : Value} {l : List α} (h : cget Γ k = some (own T s enc v l)) : HasSl Γ R s enc v l := .inl ⟨k, T, h⟩
theorem hs_sl {α : Type} {k : Nat} {s : Nat} {enc : α → List Value} {v : Value} {l : List α} (h : cget R k = some (sl s enc v l)) : HasSl Γ R s enc v l := .inr ⟨k, h⟩
theorem HasSl.ok {α : Type} {s : Nat} {enc : α → List Value} {v : Value} {l : List α} (h : HasSl Γ R s enc v l) {w : World} (hC : COk w0 M H Γ R w) : ∃ G, SlOk w G s enc v l := by
  rcases h with ⟨k, T, hk⟩ | ⟨k, hk⟩
  · obtain ⟨G, h1, _⟩ := hC.reads (.inl hk)
    exact ⟨G, own_sl h1⟩
  · obtain ⟨G, h1, _⟩ := hC.reads (.inr hk)
    exact ⟨G, h1⟩
theorem HasSl.len {α : Type} {s : Nat} {enc : α → List Value} {v : Value} {l : List α} (h : HasSl Γ R s enc v l) {w : World} (hC : COk w0 M H Γ R w) : l.length ≤ maxLen := by
  obtain ⟨G, c, h1, h2, _⟩ := h.ok hC
  omega

/-- The element i, and a part of it. -/
theorem g_elp {α : Type} {s : Nat} {enc : α → List Value} {v : Value} {l : List α} (h : HasSl Γ R s enc v l) (he : ∀ x, (enc x).length = s) {i o : Nat} {x : α} (hx : l[i]? = some x) {us : List Value} (hu : ((enc x).drop o).take us.length = us) :
    Gives w0 M H Γ R (sblk v) (soff v + i * s + o) us := by
  intro w hC j u hj
  obtain ⟨G, c, h1, h2, h3⟩ := h.ok hC
  rcases h3 with ⟨rfl, _⟩ | ⟨b, o', rfl, _, hc⟩
  · simp at hx
  · simp only [sblk, soff]
    have hxu : (enc x)[o + j]? = some u := by
      rw [← hu, List.getElem?_take] at hj
      split at hj
      · simpa using hj
      · cases hj
    have := hc _ u (flatMap_at he l i (o + j) x u hx hxu)
    rwa [show o' + (i * s + (o + j)) = o' + i * s + o + j by omega] at this
theorem g_el {α : Type} {s : Nat} {enc : α → List Value} {v : Value} {l : List α} (h : HasSl Γ R s enc v l) (he : ∀ x, (enc x).length = s) {i : Nat} {x : α} (hx : l[i]? = some x) :
    Gives w0 M H Γ R (sblk v) (soff v + i * s) (enc x) := by
  have := g_elp (w0 := w0) (M := M) (H := H) h he (o := 0) hx (us := enc x) (by simp)
  simpa using this

theorem Gives.cells {b o : Nat} {us : List Value} (h : Gives w0 M H Γ R b o us) {w : World} (hC : COk w0 M H Γ R w) : (loadCells ⟨b, o, none⟩ us.length).run P w = .ok us.toArray w :=
  run_loadCells_list w _ us fun j v hj => by rw [add_lit']; exact h w hC j v hj

theorem r_load1 {S : TypeId} {D : TypeDesc} {z : Value} {s bb : Nat} {x : Operand} {b o : Nat} {u : Value} (ht : TI P S D z s bb) (hag : aggD D = false) (hx : ev E x = some (.pointer (some ⟨b, o, none⟩))) (hg : Gives w0 M H Γ R b o [u])
    (hd : Nat.blt d N = true) (k : At N w0 M H ((d, u) :: E) Γ R (wpList P ops Q rest)) : At N w0 M H E Γ R (wpList P ops Q (⟨some d, .load S x, T, ps, af, none⟩ :: rest)) :=
  r_gen (X := Unit) (fun _ => True) (fun _ => u) (fun _ => Γ) (fun _ => R) hd (fun a w hE hC => ⟨(), w, trivial, by
    have := hg w hC 0 u rfl
    simp only [Nat.add_zero] at this
    simp [execOp, hE.ev hx, Instr.loadAt, Instr.sureAddr, loadVar, ht.isAgg, hag, this], hC⟩) fun _ _ => k
theorem r_loadA {S : TypeId} {D : TypeDesc} {z : Value} {s bb : Nat} {x : Operand} {b o : Nat} {us : List Value} (ht : TI P S D z s bb) (hag : aggD D = true) (hx : ev E x = some (.pointer (some ⟨b, o, none⟩))) (hn : us.length = s) (hg : Gives w0 M H Γ R b o us)
    (hd : Nat.blt d N = true) (k : At N w0 M H ((d, .agg us.toArray) :: E) Γ R (wpList P ops Q rest)) : At N w0 M H E Γ R (wpList P ops Q (⟨some d, .load S x, T, ps, af, none⟩ :: rest)) :=
  r_gen (X := Unit) (fun _ => True) (fun _ => .agg us.toArray) (fun _ => Γ) (fun _ => R) hd (fun a w hE hC => ⟨(), w, trivial, by
    have := hg.cells (P := P) hC
    rw [hn] at this
    simp [execOp, hE.ev hx, Instr.loadAt, Instr.sureAddr, loadVar, ht.isAgg, hag, ht.sizeOf, this], hC⟩) fun _ _ => k

/-! ### New blocks -/
theorem row_alloc (w : World) (S : TypeId) (c : List Value) : (row w.heap.size S c).pred (w.alloc (.cells c.toArray S)) (· = w.heap.size) := ⟨fun x => Iff.rfl, heap_alloc_new w _⟩
theorem COk.alloc {k : Nat} {S : TypeId} {c : List Value} {w : World} (h : COk w0 M H Γ R w) : COk w0 M H ((k, row w.heap.size S c) :: Γ) R (w.alloc (.cells c.toArray S)) :=
  h.new (Touch.alloc _ _ _) ⟨_, row_alloc w S c, fun b hb => by subst hb; simp⟩
theorem r_alloc {S : TypeId} {D : TypeDesc} {z : Value} {s bb : Nat} {c : List Value} (ht : TI P S D z s bb) (hc : z.cells.toList = c) (hd : Nat.blt d N = true)
    (k : ∀ b, At N w0 M H ((d, .pointer (some ⟨b, 0, none⟩)) :: E) ((d, row b S c) :: Γ) R (wpList P ops Q rest)) : At N w0 M H E Γ R (wpList P ops Q (⟨some d, .alloc S, T, ps, af, none⟩ :: rest)) :=
  r_gen (X := Nat) (fun _ => True) (fun b => .pointer (some ⟨b, 0, none⟩)) (fun b => (d, row b S c) :: Γ) (fun _ => R) hd (fun a w hE hC => ⟨w.heap.size, w.alloc (.cells c.toArray S), trivial, by
    subst hc
    simp [execOp, Instr.alloc, ht.zero, newVar, newRow], hC.alloc⟩) fun b _ => k b
theorem r_box {S : TypeId} {x : Operand} {v : Value} {c : List Value} (hx : ev E x = some v) (hc : v.cells.toList = c) (hd : Nat.blt d N = true)
    (k : ∀ b, At N w0 M H ((d, .pointer (some ⟨b, 0, none⟩)) :: E) ((d, row b S c) :: Γ) R (wpList P ops Q rest)) : At N w0 M H E Γ R (wpList P ops Q (⟨some d, .box S x, T, ps, af, none⟩ :: rest)) :=
  r_gen (X := Nat) (fun _ => True) (fun b => .pointer (some ⟨b, 0, none⟩)) (fun b => (d, row b S c) :: Γ) (fun _ => R) hd (fun a w hE hC => ⟨w.heap.size, w.alloc (.cells c.toArray S), trivial, by
    subst hc
    simp [execOp, hE.ev hx, Instr.box, newVar, newRow], hC.alloc⟩) fun b _ => k b
theorem row_arr {b n : Nat} {S : TypeId} {c : List Value} {f : Nat → Value} (hn : c.length = n) (hf : ∀ i, i < n → c[i]? = some (f i)) {w : World} {F : Nat → Prop} (h : (row b S c).pred w F) : (arr b S n f).pred w F :=
  ⟨h.1, c.toArray, h.2, by simpa using hn, fun i hi => by simpa using hf i hi⟩
/-- An owned assertion is said otherwise. -/
theorem r_conva {k : Nat} {A A' : Asn} {Rel : Act → World → Prop} (hk : cget Γ k = some A) (hA : ∀ w G, A.pred w G → A'.pred w G) (h : At N w0 M H E ((k, A') :: Γ) R Rel) : At N w0 M H E Γ R Rel :=
  h.weak (fun _ h => h) fun w hC => hC.upd hk fun G hG hlt => ⟨G, hA w G hG, fun b hb => ⟨hlt b hb, fun _ => hb⟩, Touch.refl _ _⟩
theorem r_freeze (k r : Nat) {A A' : Asn} {Rel : Act → World → Prop} (hk : cget Γ k = some A) (hA : ∀ w G, A.pred w G → A'.pred w G) (h : At N w0 M H E ((k, emp) :: Γ) ((r, A') :: R) Rel) : At N w0 M H E Γ R Rel :=
  h.weak (fun _ h => h) fun w hC => hC.freeze hk hA
theorem r_nilsl (r : Nat) {α : Type} {s : Nat} {enc : α → List Value} {Rel : Act → World → Prop} (h : At N w0 M H E Γ ((r, sl s enc (.slice none 0 0) []) :: R) Rel) : At N w0 M H E Γ R Rel :=
  h.weak (fun _ h => h) fun w hC => hC.nil
theorem r_nilown (k : Nat) {α : Type} {S : TypeId} {s : Nat} {enc : α → List Value} {Rel : Act → World → Prop} (h : At N w0 M H E ((k, own S s enc (.slice none 0 0) []) :: Γ) R Rel) : At N w0 M H E Γ R Rel :=
  h.weak (fun _ h => h) fun w hC => hC.new (Touch.refl _ _) ⟨fun _ => False, ⟨fun x => by simp [Value.ownBlock], World.ownsRow_nil _ _ _ _⟩, fun b hb => hb.elim⟩
theorem r_more (k r : Nat) {A A' : Asn} {Rel : Act → World → Prop} (hk : cget R k = some A) (hA : ∀ w G, A.pred w G → (∀ b, G b → b < w.heap.size) → ∃ G', A'.pred w G' ∧ ∀ b, G' b → G b) (h : At N w0 M H E Γ ((r, A') :: R) Rel) : At N w0 M H E Γ R Rel :=
  h.weak (fun _ h => h) fun w hC => hC.more hk (hA w)

/-! ### Stores -/
theorem setRow_touch (w : World) (g : Nat) (cs : Array Value) : Touch (· = g) w (w.setRow g cs) := ⟨rfl, rfl, rfl, by simp, fun k _ hk => setRow_other w g k cs hk⟩
theorem r_store_gen {S : TypeId} {D : TypeDesc} {z : Value} {s bb : Nat} {x y : Operand} {b o : Nat} {v : Value} {A A' : Asn} {k : Nat} {us : List Value} (ht : TI P S D z s bb) (hx : ev E x = some (.pointer (some ⟨b, o, none⟩))) (hy : ev E y = some v)
    (hus : v.cells.toList = us) (hs : us.length = s) (h1 : us.all (·.oneCell') = true) (hk : cget Γ k = some A)
    (hA : ∀ w G, A.pred w G → ∃ cur S', w.heap[b]? = some (.cells cur S' (0, 0)) ∧ G b ∧ o + us.length ≤ cur.size ∧ A'.pred (w.setRow b (cur.toList.take o ++ us ++ cur.toList.drop (o + us.length)).toArray) G)
    (kk : At N w0 M H E ((k, A') :: Γ) R (wpList P ops Q rest)) : At N w0 M H E Γ R (wpList P ops Q (⟨none, .store S x y, T, ps, af, none⟩ :: rest)) := by
  intro a w hE hC
  obtain ⟨G0, hp, hlt⟩ := hC.reads (.inl hk)
  obtain ⟨cur, S', hb, _, hfit, _⟩ := hA w G0 hp
  have hst := run_storeCells_at P b o S' us 0 cur w hb (by simpa using hfit) (fun v hv => by simpa using List.all_eq_true.1 h1 v hv)
  simp only [Nat.add_zero] at hst
  have hC' : COk w0 M H ((k, A') :: Γ) R (w.setRow b (cur.toList.take o ++ us ++ cur.toList.drop (o + us.length)).toArray) :=
    hC.upd hk fun G hG hGlt => by
      obtain ⟨cur', S'', hb', hGb, hfit', hA'⟩ := hA w G hG
      rw [hb] at hb'
      injection hb' with hb'
      injection hb' with e1 e2
      subst e1
      exact ⟨G, hA', fun x hx => ⟨by simpa using hGlt x hx, fun _ => hx⟩, ⟨rfl, rfl, rfl, by simp, fun i _ hi => setRow_other w b i _ (fun e => hi (e ▸ hGb))⟩⟩
  unfold wpList
  rw [if_pos (by simp [Region.wanted])]
  left
  unfold Oper.wp
  have hrun : (execOp a.eval ⟨none, .store S x y, T, ps, af, none⟩).run P w = .ok .skip (w.setRow b (cur.toList.take o ++ us ++ cur.toList.drop (o + us.length)).toArray) := by
    have hsz : v.cells.size = s := by rw [← hs, ← hus]; simp
    simp [execOp, hE.ev hx, hE.ev hy, Instr.storeAt, Instr.sureAddr, storeVar, ht.sizeOf, hsz, hus, hst]
  rw [hrun]
  exact kk _ _ hE hC'
theorem row_put {b o : Nat} {S : TypeId} {c c' us : List Value} (hc : c.take o ++ us ++ c.drop (o + us.length) = c') (hfit : o + us.length ≤ c.length) : ∀ (w : World) (G : Nat → Prop), (row b S c).pred w G →
    ∃ cur S', w.heap[b]? = some (.cells cur S' (0, 0)) ∧ G b ∧ o + us.length ≤ cur.size ∧ (row b S c').pred (w.setRow b (cur.toList.take o ++ us ++ cur.toList.drop (o + us.length)).toArray) G := by
  rintro w G ⟨h1, h2⟩
  refine ⟨_, S, h2, (h1 b).2 rfl, by simpa using hfit, h1, ?_⟩
  rw [setRow_heap w b _ _ S (0, 0) h2, ← hc]
theorem r_store_row {S S' : TypeId} {D : TypeDesc} {z : Value} {s bb : Nat} {x y : Operand} {b o : Nat} {v : Value} {k : Nat} {c c' us : List Value} (ht : TI P S D z s bb) (hx : ev E x = some (.pointer (some ⟨b, o, none⟩))) (hy : ev E y = some v)
    (hus : v.cells.toList = us) (hs : us.length = s) (h1 : us.all (·.oneCell') = true) (hk : cget Γ k = some (row b S' c)) (hfit : Nat.ble (o + us.length) c.length = true) (hc : c.take o ++ us ++ c.drop (o + us.length) = c')
    (kk : At N w0 M H E ((k, row b S' c') :: Γ) R (wpList P ops Q rest)) : At N w0 M H E Γ R (wpList P ops Q (⟨none, .store S x y, T, ps, af, none⟩ :: rest)) :=
  r_store_gen ht hx hy hus hs h1 hk (row_put hc (by simpa using hfit)) kk
def fset (f : Nat → Value) (o : Nat) (u : Value) : Nat → Value := fun j => if j = o then u else f j
theorem arr_put {b o n : Nat} {S : TypeId} {f : Nat → Value} {u : Value} (ho : o < n) : ∀ (w : World) (G : Nat → Prop), (arr b S n f).pred w G →
    ∃ cur S', w.heap[b]? = some (.cells cur S' (0, 0)) ∧ G b ∧ o + [u].length ≤ cur.size ∧ (arr b S n (fset f o u)).pred (w.setRow b (cur.toList.take o ++ [u] ++ cur.toList.drop (o + [u].length)).toArray) G := by
  rintro w G ⟨h1, c, h2, h3, h4⟩
  refine ⟨c, S, h2, (h1 b).2 rfl, by simp; omega, h1, _, setRow_heap w b _ _ S (0, 0) h2, by simp; omega, fun i hi => ?_⟩
  have hci := h4 i hi
  have hco : o < c.toList.length := by simp; omega
  have e : (c.toList.take o ++ [u] ++ c.toList.drop (o + [u].length)) = c.toList.set o u := by
    rw [List.set_eq_take_append_cons_drop, if_pos hco]; simp
  rw [e]
  simp only [fset, List.getElem?_toArray, List.getElem?_set]
  by_cases hio : i = o
  · subst hio; simp; omega
  · rw [if_neg (fun h => hio h.symm), if_neg hio]; simpa using hci
theorem r_store_arr {S S' : TypeId} {D : TypeDesc} {z : Value} {s bb : Nat} {x y : Operand} {b o n : Nat} {v : Value} {k : Nat} {f : Nat → Value} (ht : TI P S D z s bb) (hx : ev E x = some (.pointer (some ⟨b, o, none⟩))) (hy : ev E y = some v)
    (h1 : v.oneCell' = true) (hs : s = 1) (hk : cget Γ k = some (arr b S' n f)) (ho : o < n)
    (kk : At N w0 M H E ((k, arr b S' n (fset f o v)) :: Γ) R (wpList P ops Q rest)) : At N w0 M H E Γ R (wpList P ops Q (⟨none, .store S x y, T, ps, af, none⟩ :: rest)) :=
  r_store_gen (us := [v]) ht hx hy (by cases v <;> first | rfl | simp [Value.oneCell'] at h1) (by simp [hs]) (by simp [h1]) hk (arr_put ho) kk

theorem flatMap_len {α : Type} {s : Nat} {enc : α → List Value} (he : ∀ x, (enc x).length = s) : ∀ (l : List α), (l.flatMap enc).length = l.length * s
  | [] => by simp
  | x :: l => by rw [List.flatMap_cons, List.length_append, he, flatMap_len he l, List.length_cons, Nat.add_mul]; omega
theorem flatMap_put {α : Type} {s : Nat} {enc : α → List Value} (he : ∀ x, (enc x).length = s) : ∀ (l : List α) (i o : Nat) (x x' : α) (us : List Value), l[i]? = some x → o + us.length ≤ s → (enc x).take o ++ us ++ (enc x).drop (o + us.length) = enc x' →
    (l.flatMap enc).take (i * s + o) ++ us ++ (l.flatMap enc).drop (i * s + o + us.length) = (l.set i x').flatMap enc
  | [], i, o, x, x', us, hi, _, _ => by simp at hi
  | y :: l, 0, o, x, x', us, hi, ho, hx => by
    simp at hi
    subst hi
    simp only [List.set_cons_zero, List.flatMap_cons, Nat.zero_mul, Nat.zero_add]
    rw [List.take_append_of_le_length (by rw [he]; omega), List.drop_append_of_le_length (by rw [he]; omega), ← hx]
    simp
  | y :: l, i + 1, o, x, x', us, hi, ho, hx => by
    simp only [List.set_cons_succ, List.flatMap_cons]
    rw [← flatMap_put he l i o x x' us (by simpa using hi) ho hx]
    have e1 : (i + 1) * s + o = (enc y).length + (i * s + o) := by rw [he, Nat.add_mul]; omega
    rw [e1, List.take_length_add_append, Nat.add_assoc, List.drop_length_add_append]
    simp [List.append_assoc]
theorem own_put {α : Type} {S : TypeId} {s : Nat} {enc : α → List Value} {v : Value} {l : List α} (he : ∀ x, (enc x).length = s) {i o : Nat} {x x' : α} {us : List Value} (hi : l[i]? = some x) (ho : o + us.length ≤ s) (hx : (enc x).take o ++ us ++ (enc x).drop (o + us.length) = enc x') :
    ∀ (w : World) (G : Nat → Prop), (own S s enc v l).pred w G → ∃ cur S', w.heap[sblk v]? = some (.cells cur S' (0, 0)) ∧ G (sblk v) ∧ soff v + i * s + o + us.length ≤ cur.size ∧
      (own S s enc v (l.set i x')).pred (w.setRow (sblk v) (cur.toList.take (soff v + i * s + o) ++ us ++ cur.toList.drop (soff v + i * s + o + us.length)).toArray) G := by
  rintro w G ⟨h1, h2⟩
  rcases h2.2 with ⟨rfl, hn⟩ | ⟨g, cap, cur, rfl, hbg, hg, hnc, hcm, hcs, htake⟩
  · have : l = [] := List.eq_nil_of_length_eq_zero hn
    subst this
    simp at hi
  · simp only [sblk, soff, Nat.zero_add]
    have hil : i < l.length := (List.getElem?_eq_some_iff.1 hi).1
    have hb1 : i * s + o + us.length ≤ l.length * s := by
      have : (i + 1) * s ≤ l.length * s := Nat.mul_le_mul_right s hil
      rw [Nat.add_mul] at this
      omega
    have hb2 : l.length * s ≤ cur.size := by rw [hcs]; exact Nat.mul_le_mul_right s hnc
    refine ⟨cur, S, hg, (h1 g).2 rfl, by omega, h1, ?_, .inr ⟨g, cap, _, by simp, hbg, setRow_heap w g _ _ S (0, 0) hg, by simpa using hnc, hcm, ?_, ?_⟩⟩
    · rw [flatMap_len he]
    · simp only [List.size_toArray, List.length_append, List.length_take, List.length_drop, Array.length_toList]
      omega
    · rw [← flatMap_put he l i o x x' us hi ho hx, ← htake]
      have hl : (cur.toList.take (l.length * s)).length = l.length * s := by rw [List.length_take]; simp; omega
      simp only [List.length_set]
      apply List.ext_getElem?
      intro j
      simp only [List.getElem?_append, List.getElem?_take, List.getElem?_drop, List.length_append, List.length_take, Array.length_toList]
      repeat' split
      all_goals (first | rfl | omega | (congr 1; omega) | skip)
theorem r_store_own {α : Type} {S S' : TypeId} {D : TypeDesc} {z : Value} {s n bb : Nat} {x y : Operand} {u v : Value} {k i o : Nat} {enc : α → List Value} {l : List α} {e e' : α} {us : List Value} (ht : TI P S D z n bb) (hx : ev E x = some (.pointer (some ⟨sblk v, soff v + i * s + o, none⟩))) (hy : ev E y = some u)
    (hus : u.cells.toList = us) (hs : us.length = n) (h1 : us.all (·.oneCell') = true) (hk : cget Γ k = some (own S' s enc v l)) (he : ∀ x, (enc x).length = s) (hi : l[i]? = some e) (ho : o + us.length ≤ s) (hx' : (enc e).take o ++ us ++ (enc e).drop (o + us.length) = enc e')
    (kk : At N w0 M H E ((k, own S' s enc v (l.set i e')) :: Γ) R (wpList P ops Q rest)) : At N w0 M H E Γ R (wpList P ops Q (⟨none, .store S x y, T, ps, af, none⟩ :: rest)) :=
  r_store_gen ht hx hy hus hs h1 hk (own_put he hi ho hx') kk

end
end Go.Proofs.Ytfdbkclbcajkiaa
