/-
  A logic of assertions over the heap for walks: what a call owns, by name; what it may read; and the step of a call inside it. No condition.
-/
import Derived.WalkKit
import Derived.WalkSpells
import Derived.WalkLawsBesides
import Derived.Lib.Hide
import Derived.Deep.Draws
import Derived.Deep.QuietTactic
import Derived.BigQuiet
import Derived.Deep.OwnRows
import Derived.Deep.WholeRow
import Derived.Deep.MidRow
namespace Go.Proofs.Ytfdbkclbcajkiaa
set_option linter.unusedSimpArgs false
set_option linter.unusedVariables false
open Go.RowKit

/-- All blocks of the elder world but those of M are as they were. -/
structure Touch (M : Nat → Prop) (w w' : World) : Prop where
  os : w'.os = w.os
  tape : w'.tape = w.tape
  output : w'.output = w.output
  size : w.heap.size ≤ w'.heap.size
  block : ∀ k, k < w.heap.size → ¬ M k → w'.heap[k]? = w.heap[k]?

theorem Touch.refl (M : Nat → Prop) (w : World) : Touch M w w := ⟨rfl, rfl, rfl, Nat.le_refl _, fun _ _ _ => rfl⟩
theorem Touch.trans {M M' : Nat → Prop} {a b c : World} (h : Touch M a b) (k : Touch M' b c) (hM : ∀ x, x < a.heap.size → M' x → M x) : Touch M a c :=
  ⟨k.os.trans h.os, k.tape.trans h.tape, k.output.trans h.output, Nat.le_trans h.size k.size,
   fun i hi hm => (k.block i (Nat.lt_of_lt_of_le hi h.size) (fun e => hm (hM i hi e))).trans (h.block i hi hm)⟩
theorem Touch.below {w w' : World} (h : Touch (fun _ => False) w w') : Below w.heap.size w w' := ⟨h.os, h.tape, h.output, h.size, fun k hk => h.block k hk (fun e => e)⟩
theorem Touch.of_below {M : Nat → Prop} {w w' : World} (h : Below w.heap.size w w') : Touch M w w' := ⟨h.os, h.tape, h.output, h.size, fun k hk _ => h.block k hk⟩
theorem Touch.alloc (M : Nat → Prop) (w : World) (o : Obj) : Touch M w (w.alloc o) := ⟨rfl, rfl, rfl, by simp, fun k hk _ => Below.heap_alloc w o k hk⟩

/-- An assertion: what holds of a world, on some blocks; it stays while these blocks stay. -/
structure Asn where
  pred : World → (Nat → Prop) → Prop
  stable : ∀ {w w' : World} {F : Nat → Prop}, pred w F → (∀ b, F b → w'.heap[b]? = w.heap[b]?) → pred w' F

def emp : Asn := ⟨fun _ F => ∀ b, ¬ F b, fun h _ => h⟩

abbrev Ctx := List (Nat × Asn)
def cget : Ctx → Nat → Option Asn
  | [], _ => none
  | (j, A) :: r, k => bif Nat.beq j k then some A else cget r k

/-- What a call that began in w0 owns in w (by a name each) and may read; M: the elder blocks that it may write; H: the elder blocks that it may keep reading. -/
structure Own (w0 : World) (M H : Nat → Prop) (g r : Nat → Option Asn) (w : World) (F : Nat → Nat → Prop) : Prop where
  touch : Touch M w0 w
  has : ∀ k A, g k = some A → A.pred w (F k)
  lt : ∀ k b, F k b → b < w.heap.size
  mine : ∀ k b, F k b → b < w0.heap.size → M b
  apart : ∀ j k b, F j b → F k b → j = k
  ro : ∀ k A, r k = some A → ∃ G : Nat → Prop, A.pred w G ∧ ∀ b, G b → b < w.heap.size ∧ (∀ j, ¬ F j b) ∧ (b < w0.heap.size → M b ∨ H b)

/-- THE FRAME: a call that took the owned names ks, and gives new ones by ns. -/
theorem Own.call {w0 : World} {M H M' H' : Nat → Prop} {g r g' r' g'' r'' : Nat → Option Asn} {w w' : World} {F F' : Nat → Nat → Prop}
    (h : Own w0 M H g r w F) (ks : Nat → Prop) (hM' : ∀ b, M' b → ∃ k, ks k ∧ F k b) (hM'' : ∀ k b, ks k → F k b → M' b) (h' : Own w M' H' g' r' w' F')
    (ns : Nat → Option Nat) (hns : ∀ j k i, ns j = some i → ns k = some i → j = k)
    (hg : ∀ k A, g'' k = some A → (∃ i, ns k = some i ∧ g' i = some A) ∨ (ns k = none ∧ ¬ ks k ∧ g k = some A) ∨ (A = emp ∧ ns k = none ∧ ks k))
    (hr : ∀ k A, r'' k = some A → r k = some A ∨ ((∃ i, r' i = some A) ∧ ∀ b, H' b → b < w.heap.size → (∀ j, ¬ F j b) ∧ (b < w0.heap.size → M b ∨ H b))) :
    ∃ F'', Own w0 M H g'' r'' w' F'' := by
  classical
  let F'' : Nat → Nat → Prop := fun k => match ns k with
    | some i => F' i
    | none => if ks k then fun _ => False else F k
  have hnew : ∀ k i, ns k = some i → F'' k = F' i := fun k i e => by simp [F'', e]
  have hold : ∀ k, ns k = none → ¬ ks k → F'' k = F k := fun k e e' => by simp [F'', e, e']
  have hemp : ∀ k, ns k = none → ks k → F'' k = fun _ => False := fun k e e' => by simp [F'', e, e']
  have hcase : ∀ k b, F'' k b → (∃ i, ns k = some i ∧ F' i b) ∨ (ns k = none ∧ ¬ ks k ∧ F k b) := by
    intro k b hb
    cases e : ns k with
    | some i => rw [hnew k i e] at hb; exact .inl ⟨i, rfl, hb⟩
    | none =>
      by_cases e' : ks k
      · rw [hemp k e e'] at hb; exact hb.elim
      · rw [hold k e e'] at hb; exact .inr ⟨rfl, e', hb⟩
  have hfree : ∀ k b, ¬ ks k → F k b → ¬ M' b := by
    intro k b hk hb hm
    obtain ⟨j, hj, hjb⟩ := hM' b hm
    exact hk (h.apart j k b hjb hb ▸ hj)
  have hnewold : ∀ i k b, ¬ ks k → F k b → ¬ F' i b := by
    intro i k b hk hb hb'
    exact hfree k b hk hb (h'.mine i b hb' (h.lt k b hb))
  refine ⟨F'', ?_, ?_, ?_, ?_, ?_, ?_⟩
  · refine h.touch.trans h'.touch fun x hx hm => ?_
    obtain ⟨k, _, hk⟩ := hM' x hm
    exact h.mine k x hk hx
  · intro k A hk
    rcases hg k A hk with ⟨i, hi, hA⟩ | ⟨hn, hk', hA⟩ | ⟨rfl, hn, hk'⟩
    · rw [hnew k i hi]; exact h'.has i A hA
    · rw [hold k hn hk']
      exact A.stable (h.has k A hA) fun b hb => h'.touch.block b (h.lt k b hb) (hfree k b hk' hb)
    · rw [hemp k hn hk']; exact fun b hb => hb
  · intro k b hb
    rcases hcase k b hb with ⟨i, _, hi⟩ | ⟨_, _, hk⟩
    · exact h'.lt i b hi
    · exact Nat.lt_of_lt_of_le (h.lt k b hk) h'.touch.size
  · intro k b hb hlt
    rcases hcase k b hb with ⟨i, _, hi⟩ | ⟨_, _, hk⟩
    · obtain ⟨j, _, hj⟩ := hM' b (h'.mine i b hi (Nat.lt_of_lt_of_le hlt h.touch.size))
      exact h.mine j b hj hlt
    · exact h.mine k b hk hlt
  · intro j k b hj hk
    rcases hcase j b hj with ⟨i, hi, hib⟩ | ⟨_, hjk, hjb⟩ <;> rcases hcase k b hk with ⟨i', hi', hib'⟩ | ⟨_, hkk, hkb⟩
    · have := h'.apart i i' b hib hib'
      subst this
      exact hns j k i hi hi'
    · exact (hnewold i k b hkk hkb hib).elim
    · exact (hnewold i' j b hjk hjb hib').elim
    · exact h.apart j k b hjb hkb
  · intro k A hk
    rcases hr k A hk with hA | ⟨⟨i, hA⟩, hH⟩
    · obtain ⟨G, hp, hG⟩ := h.ro k A hA
      have hnm : ∀ b, G b → ¬ M' b := fun b hb hm => by
        obtain ⟨j, _, hj⟩ := hM' b hm
        exact (hG b hb).2.1 j hj
      refine ⟨G, A.stable hp fun b hb => h'.touch.block b (hG b hb).1 (hnm b hb), fun b hb => ⟨Nat.lt_of_lt_of_le (hG b hb).1 h'.touch.size, fun j hj => ?_, (hG b hb).2.2⟩⟩
      rcases hcase j b hj with ⟨i, _, hi⟩ | ⟨_, _, hjb⟩
      · exact hnm b hb (h'.mine i b hi (hG b hb).1)
      · exact (hG b hb).2.1 j hjb
    · obtain ⟨G, hp, hG⟩ := h'.ro i A hA
      refine ⟨G, hp, fun b hb => ⟨(hG b hb).1, fun j hj => ?_, fun hlt => ?_⟩⟩
      · rcases hcase j b hj with ⟨i', _, hi'⟩ | ⟨_, hjk, hjb⟩
        · exact (hG b hb).2.1 i' hi'
        · have hlt : b < w.heap.size := h.lt j b hjb
          rcases (hG b hb).2.2 hlt with hm | hh
          · exact hfree j b hjk hjb hm
          · exact (hH b hh hlt).1 j hjb
      · have hlt' : b < w.heap.size := Nat.lt_of_lt_of_le hlt h.touch.size
        rcases (hG b hb).2.2 hlt' with hm | hh
        · obtain ⟨j, _, hj⟩ := hM' b hm
          exact .inl (h.mine j b hj hlt)
        · exact (hH b hh hlt').2 hlt

def COk (w0 : World) (M H : Nat → Prop) (Γ R : Ctx) (w : World) : Prop := ∃ F, Own w0 M H (cget Γ) (cget R) w F
def LOk (w0 : World) (M H : Nat → Prop) (L R : List Asn) (w : World) : Prop := ∃ F, Own w0 M H (fun k => L[k]?) (fun k => R[k]?) w F

/-- What a call gives: a value and assertions on what is new, for some x. -/
def Ret (w0 : World) (M H : Nat → Prop) {X : Type} (φ : X → Prop) (v : X → Value) (L R : X → List Asn) : Ending → World → Prop :=
  fun e w' => ∃ x, φ x ∧ e = .returned (v x) ∧ LOk w0 M H (L x) (R x) w'

/-! ### Frames -/
abbrev Env := List (Nat × Value)
def eget : Env → Nat → Option Value
  | [], _ => none
  | (j, v) :: r, k => bif Nat.beq j k then some v else eget r k
def ev (E : Env) : Operand → Option Value
  | .tmp t => eget E t
  | .const v => some v
  | .global g => some (.pointer (some ⟨g, 0, none⟩))
  | .func f => some (.func (.func f) #[] #[])
structure EOk (N : Nat) (E : Env) (a : Act) : Prop where
  defers : a.defers = []
  size : N ≤ a.tmps.size
  slot : ∀ t v, eget E t = some v → a.tmps[t]? = some v

theorem EOk.ev {N : Nat} {E : Env} {a : Act} (h : EOk N E a) {x : Operand} {v : Value} (hv : ev E x = some v) : a.eval x = v := by
  cases x with
  | tmp t =>
    have := h.slot t v hv
    simp [Act.eval, this]
  | const u => simpa [Ytfdbkclbcajkiaa.ev, Act.eval] using hv
  | global g => simpa [Ytfdbkclbcajkiaa.ev, Act.eval] using hv
  | func f => simpa [Ytfdbkclbcajkiaa.ev, Act.eval] using hv

theorem EOk.put {N : Nat} {E : Env} {a : Act} (h : EOk N E a) {d : Nat} (hd : Nat.blt d N = true) (v : Value) : EOk N ((d, v) :: E) (a.put (some d) v) := by
  have hd' : d < N := by simpa [Nat.blt_eq] using hd
  refine ⟨h.defers, by simpa [Act.put] using h.size, fun t u ht => ?_⟩
  simp only [eget] at ht
  simp only [Act.put, Array.getElem?_setIfInBounds]
  cases hb : Nat.beq d t with
  | true =>
    rw [hb] at ht
    have : d = t := Nat.eq_of_beq_eq_true hb
    subst this
    have := h.size
    simp only [cond_true, Option.some.injEq] at ht
    simp [ht]
    omega
  | false =>
    rw [hb] at ht
    have hne : d ≠ t := fun e => by subst e; simp at hb
    rw [if_neg hne]
    exact h.slot t u ht

theorem EOk.put0 {N : Nat} {E : Env} {a : Act} (h : EOk N E a) (v : Value) : EOk N E (a.put none v) := h

/-- In every frame and world that fit E, Γ and R. -/
def At (N : Nat) (w0 : World) (M H : Nat → Prop) (E : Env) (Γ R : Ctx) (Rel : Act → World → Prop) : Prop :=
  ∀ a w, EOk N E a → COk w0 M H Γ R w → Rel a w

/-! ### Contexts by names -/
def cputs : List Nat → List Asn → Ctx → Ctx
  | n :: ns, A :: L, Γ => (n, A) :: cputs ns L Γ
  | _, _, Γ => Γ
def ckill : List Nat → Ctx → Ctx
  | k :: ks, Γ => (k, emp) :: ckill ks Γ
  | [], Γ => Γ
def cgets (Γ : Ctx) : List Nat → List (Option Asn)
  | [] => []
  | k :: ks => cget Γ k :: cgets Γ ks
def somes : List Asn → List (Option Asn)
  | [] => []
  | A :: L => some A :: somes L

def nfind : List Nat → Nat → Nat → Option Nat
  | [], _, _ => none
  | n :: ns, k, i => bif Nat.beq n k then some i else nfind ns k (i + 1)

theorem nfind_ge : ∀ {ns : List Nat} {k i j : Nat}, nfind ns k i = some j → i ≤ j ∧ ns[j - i]? = some k
  | [], _, _, _, h => by cases h
  | n :: ns, k, i, j, h => by
    simp only [nfind] at h
    cases hb : Nat.beq n k with
    | true =>
      rw [hb] at h
      simp at h
      subst h
      simp [Nat.eq_of_beq_eq_true hb]
    | false =>
      rw [hb] at h
      obtain ⟨h1, h2⟩ := nfind_ge (ns := ns) h
      refine ⟨by omega, ?_⟩
      have : j - i = (j - (i + 1)) + 1 := by omega
      rw [this]
      simpa using h2

theorem cget_cputs : ∀ (ns : List Nat) (L : List Asn) (Γ : Ctx) (k i : Nat) (A : Asn), ns.length = L.length → cget (cputs ns L Γ) k = some A →
    (∃ j, nfind ns k i = some (i + j) ∧ L[j]? = some A) ∨ (nfind ns k i = none ∧ cget Γ k = some A)
  | [], [], Γ, k, i, A, _, h => .inr ⟨rfl, h⟩
  | n :: ns, B :: L, Γ, k, i, A, hl, h => by
    simp only [cputs, cget] at h
    simp only [nfind]
    cases hb : Nat.beq n k with
    | true =>
      rw [hb] at h
      simp at h
      exact .inl ⟨0, by simp, by simp [h]⟩
    | false =>
      rw [hb] at h
      rcases cget_cputs ns L Γ k (i + 1) A (by simpa using hl) h with ⟨j, h1, h2⟩ | ⟨h1, h2⟩
      · exact .inl ⟨j + 1, by simpa [Nat.add_assoc, Nat.add_comm 1 j] using h1, by simpa using h2⟩
      · exact .inr ⟨by simpa using h1, h2⟩
  | [], _ :: _, _, _, _, _, hl, _ => by simp at hl
  | _ :: _, [], _, _, _, _, hl, _ => by simp at hl

theorem cget_ckill : ∀ (ks : List Nat) (Γ : Ctx) (k : Nat) (A : Asn), cget (ckill ks Γ) k = some A → (A = emp ∧ k ∈ ks) ∨ (k ∉ ks ∧ cget Γ k = some A)
  | [], Γ, k, A, h => .inr ⟨by simp, h⟩
  | n :: ks, Γ, k, A, h => by
    simp only [ckill, cget] at h
    cases hb : Nat.beq n k with
    | true =>
      rw [hb] at h
      simp at h
      exact .inl ⟨h.symm, by simp [Nat.eq_of_beq_eq_true hb]⟩
    | false =>
      rw [hb] at h
      have hne : k ≠ n := fun e => by subst e; simp at hb
      rcases cget_ckill ks Γ k A h with ⟨h1, h2⟩ | ⟨h1, h2⟩
      · exact .inl ⟨h1, by simp [h2]⟩
      · exact .inr ⟨by simp [hne, h1], h2⟩

theorem somes_get : ∀ (Γ : Ctx) (ks : List Nat) (L : List Asn) (i : Nat) (A : Asn), cgets Γ ks = somes L → L[i]? = some A → ∃ k, ks[i]? = some k ∧ cget Γ k = some A
  | Γ, [], [], i, A, _, h => by simp at h
  | Γ, k :: ks, B :: L, i, A, h, hi => by
    simp only [cgets, somes, List.cons.injEq] at h
    cases i with
    | zero => simp at hi; subst hi; exact ⟨k, by simp, h.1⟩
    | succ i => simpa using somes_get Γ ks L i A h.2 (by simpa using hi)
  | Γ, [], _ :: _, _, _, h, _ => by simp [cgets, somes] at h
  | Γ, _ :: _, [], _, _, h, _ => by simp [cgets, somes] at h

theorem nd_inj {ks : List Nat} (h : ks.Nodup) {i j k : Nat} (hi : ks[i]? = some k) (hj : ks[j]? = some k) : i = j := by
  obtain ⟨hi1, hi2⟩ := List.getElem?_eq_some_iff.1 hi
  obtain ⟨hj1, hj2⟩ := List.getElem?_eq_some_iff.1 hj
  have hp := List.pairwise_iff_getElem.1 h
  rcases Nat.lt_trichotomy i j with hlt | he | hlt
  · exact absurd (hi2.trans hj2.symm) (hp i j hi1 hj1 hlt)
  · exact he
  · exact absurd (hj2.trans hi2.symm) (hp j i hj1 hi1 hlt)

/-- A callee's own and read assertions, out of a caller's: ks: the owned names that it takes; rs: read names; bs: owned names that are lent for reading. -/
theorem COk.enter {w0 : World} {M H : Nat → Prop} {Γ R : Ctx} {w : World} (F : Nat → Nat → Prop) (h : Own w0 M H (cget Γ) (cget R) w F) (ks : List Nat) (hnd : ks.Nodup) {L : List Asn} (hL : cgets Γ ks = somes L)
    {R0 : List Asn} (hR : ∀ (i : Nat) A, R0[i]? = some A → (∃ k, cget R k = some A) ∨ ∃ k, k ∉ ks ∧ cget Γ k = some A) (H' : Nat → Prop)
    (hH : ∀ b, b < w.heap.size → ((∀ j, ¬ F j b) ∧ (b < w0.heap.size → M b ∨ H b)) ∨ (∃ (i : Nat) (A : Asn) (k : Nat), R0[i]? = some A ∧ k ∉ ks ∧ cget Γ k = some A ∧ F k b ∧ ∀ k', cget R k' ≠ some A) → H' b) :
    LOk w (fun b => ∃ k, k ∈ ks ∧ F k b) H' L R0 w := by
  classical
  refine ⟨fun i b => ∃ k, ks[i]? = some k ∧ F k b, Touch.refl _ _, ?_, ?_, ?_, ?_, ?_⟩
  · intro i A hi
    obtain ⟨k, hk, hA⟩ := somes_get Γ ks L i A hL hi
    have : (fun b => ∃ k, ks[i]? = some k ∧ F k b) = F k := by
      funext b
      simp [hk]
    show A.pred w _
    rw [this]
    exact h.has k A hA
  · rintro i b ⟨k, _, hb⟩; exact h.lt k b hb
  · rintro i b ⟨k, hk, hb⟩ _; exact ⟨k, List.mem_of_getElem? hk, hb⟩
  · rintro i j b ⟨k, hk, hb⟩ ⟨k', hk', hb'⟩
    have := h.apart k k' b hb hb'
    subst this
    exact nd_inj hnd hk hk'
  · intro i A hi
    by_cases hro : ∃ k, cget R k = some A
    · obtain ⟨k, hA⟩ := hro
      obtain ⟨G, hp, hG⟩ := h.ro k A hA
      refine ⟨G, hp, fun b hb => ⟨(hG b hb).1, ?_, fun hlt => .inr (hH b hlt (.inl (hG b hb).2))⟩⟩
      rintro j ⟨k', _, hb'⟩
      exact (hG b hb).2.1 k' hb'
    · rcases hR i A hi with hx | ⟨k, hk, hA⟩
      · exact absurd hx hro
      · refine ⟨F k, h.has k A hA, fun b hb => ⟨h.lt k b hb, ?_, fun hlt => .inr (hH b hlt (.inr ⟨i, A, k, hi, hk, hA, hb, fun k' e => hro ⟨k', e⟩⟩))⟩⟩
        rintro j ⟨k', hk', hb'⟩
        have := h.apart k k' b hb hb'
        subst this
        exact hk (List.mem_of_getElem? hk')

/-- A step inside: what owns the names ks by itself, and reads R0, gives L' and (if nothing owned was lent) R'. -/
theorem COk.step {w0 : World} {M H : Nat → Prop} {Γ R : Ctx} {w : World} (h : COk w0 M H Γ R w) (ks : List Nat) (hnd : ks.Nodup) {L : List Asn} (hL : cgets Γ ks = somes L)
    {R0 : List Asn} (hR : ∀ (i : Nat) A, R0[i]? = some A → (∃ k, cget R k = some A) ∨ ∃ k, k ∉ ks ∧ cget Γ k = some A) :
    ∃ M' H' : Nat → Prop, LOk w M' H' L R0 w ∧ ∀ (L' R' : List Asn) (ns rs : List Nat) (w' : World), ns.Nodup → ns.length = L'.length → rs.length = R'.length →
      LOk w M' H' L' R' w' → COk w0 M H (cputs ns L' (ckill ks Γ)) R w' ∧ ((∀ (i : Nat) A, R0[i]? = some A → ∃ k, cget R k = some A) → COk w0 M H (cputs ns L' (ckill ks Γ)) (cputs rs R' R) w') := by
  classical
  obtain ⟨F, hF⟩ := h
  let H' : Nat → Prop := fun b => ((∀ j, ¬ F j b) ∧ (b < w0.heap.size → M b ∨ H b)) ∨ (∃ (i : Nat) (A : Asn) (k : Nat), R0[i]? = some A ∧ k ∉ ks ∧ cget Γ k = some A ∧ F k b ∧ ∀ k', cget R k' ≠ some A)
  refine ⟨fun b => ∃ k, k ∈ ks ∧ F k b, H', COk.enter F hF ks hnd hL hR H' (fun b _ hb => hb), ?_⟩
  rintro L' R' ns rs w' hns hnl hrl ⟨F', h'⟩
  have hgg : ∀ k A, cget (cputs ns L' (ckill ks Γ)) k = some A →
      (∃ i, nfind ns k 0 = some i ∧ L'[i]? = some A) ∨ (nfind ns k 0 = none ∧ ¬ k ∈ ks ∧ cget Γ k = some A) ∨ (A = emp ∧ nfind ns k 0 = none ∧ k ∈ ks) := by
    intro k A hA
    rcases cget_cputs ns L' _ k 0 A hnl hA with ⟨j, h1, h2⟩ | ⟨h1, h2⟩
    · exact .inl ⟨j, by simpa using h1, h2⟩
    · rcases cget_ckill ks Γ k A h2 with ⟨h3, h4⟩ | ⟨h3, h4⟩
      · exact .inr (.inr ⟨h3, h1, h4⟩)
      · exact .inr (.inl ⟨h1, h3, h4⟩)
  have hinj : ∀ j k i, nfind ns j 0 = some i → nfind ns k 0 = some i → j = k := by
    intro j k i h1 h2
    have e1 := (nfind_ge h1).2
    have e2 := (nfind_ge h2).2
    rw [e1] at e2
    injection e2
  constructor
  · exact hF.call (fun k => k ∈ ks) (fun b hb => hb) (fun k b hk hb => ⟨k, hk, hb⟩) h' (fun k => nfind ns k 0) hinj hgg (fun k A hA => .inl hA)
  · intro hro
    refine hF.call (fun k => k ∈ ks) (fun b hb => hb) (fun k b hk hb => ⟨k, hk, hb⟩) h' (fun k => nfind ns k 0) hinj hgg (fun k A hA => ?_)
    rcases cget_cputs rs R' R k 0 A hrl hA with ⟨j, _, h2⟩ | ⟨_, h2⟩
    · refine .inr ⟨⟨j, h2⟩, fun b hb _ => ?_⟩
      rcases hb with hb | ⟨i, A', k', hi, _, _, _, hno⟩
      · exact hb
      · obtain ⟨k'', hk''⟩ := hro i A' hi
        exact absurd hk'' (hno k'')
    · exact .inl h2

end Go.Proofs.Ytfdbkclbcajkiaa
