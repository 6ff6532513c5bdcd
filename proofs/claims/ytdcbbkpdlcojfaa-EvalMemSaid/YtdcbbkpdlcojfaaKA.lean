/-
  A logic of assertions over the heap for walks: what a call owns, by name, what it may read, and the rules of operations, calls and returns. No condition.
-/
import Derived.WalkKit
import Derived.WalkSpells
import Derived.WalkLawsBesides
import Derived.Lib.Hide
import Derived.Deep.Draws
import Derived.Deep.QuietTactic
import Derived.BigQuiet
import Derived.Deep.OwnRows
import Derived.Deep.WholeRow
import Derived.Deep.MidRow
import Derived.Laws.AppendOwnNone
namespace Go.Proofs.Ytdcbbkpdlcojfaa
set_option linter.unusedSimpArgs false
set_option linter.unusedVariables false
open Go.RowKit

/-- All blocks of the elder world but those of M are as they were. -/
structure Touch (M : Nat → Prop) (w w' : World) : Prop where
  os : w'.os = w.os
  tape : w'.tape = w.tape
  output : w'.output = w.output
  size : w.heap.size ≤ w'.heap.size
  block : ∀ k, k < w.heap.size → ¬ M k → w'.heap[k]? = w.heap[k]?

theorem Touch.refl (M : Nat → Prop) (w : World) : Touch M w w := ⟨rfl, rfl, rfl, Nat.le_refl _, fun _ _ _ => rfl⟩
theorem Touch.trans {M M' : Nat → Prop} {a b c : World} (h : Touch M a b) (k : Touch M' b c) (hM : ∀ x, x < a.heap.size → M' x → M x) : Touch M a c :=
  ⟨k.os.trans h.os, k.tape.trans h.tape, k.output.trans h.output, Nat.le_trans h.size k.size,
   fun i hi hm => (k.block i (Nat.lt_of_lt_of_le hi h.size) (fun e => hm (hM i hi e))).trans (h.block i hi hm)⟩
theorem Touch.below {w w' : World} (h : Touch (fun _ => False) w w') : Below w.heap.size w w' := ⟨h.os, h.tape, h.output, h.size, fun k hk => h.block k hk (fun e => e)⟩
theorem Touch.of_below {M : Nat → Prop} {w w' : World} (h : Below w.heap.size w w') : Touch M w w' := ⟨h.os, h.tape, h.output, h.size, fun k hk _ => h.block k hk⟩
theorem Touch.alloc (M : Nat → Prop) (w : World) (o : Obj) : Touch M w (w.alloc o) := ⟨rfl, rfl, rfl, by simp, fun k hk _ => Below.heap_alloc w o k hk⟩

/-- An assertion: what holds of a world, on some blocks; it stays while these blocks stay. -/
structure Asn where
  pred : World → (Nat → Prop) → Prop
  stable : ∀ {w w' : World} {F : Nat → Prop}, pred w F → (∀ b, F b → w'.heap[b]? = w.heap[b]?) → pred w' F

def emp : Asn := ⟨fun _ F => ∀ b, ¬ F b, fun h _ => h⟩

abbrev Ctx := List (Nat × Asn)
def cget : Ctx → Nat → Option Asn
  | [], _ => none
  | (j, A) :: r, k => bif Nat.beq j k then some A else cget r k

/-- What a call that began in w0 owns in w (by a name each) and may read; M: the elder blocks that it may write; H: the elder blocks that it may keep reading. -/
structure Own (w0 : World) (M H : Nat → Prop) (g r : Nat → Option Asn) (w : World) (F : Nat → Nat → Prop) : Prop where
  touch : Touch M w0 w
  has : ∀ k A, g k = some A → A.pred w (F k)
  lt : ∀ k b, F k b → b < w.heap.size
  mine : ∀ k b, F k b → b < w0.heap.size → M b
  apart : ∀ j k b, F j b → F k b → j = k
  ro : ∀ k A, r k = some A → ∃ G : Nat → Prop, A.pred w G ∧ ∀ b, G b → b < w.heap.size ∧ (∀ j, ¬ F j b) ∧ (b < w0.heap.size → M b ∨ H b)

/-- THE FRAME: a call that took the owned names ks, and gives new ones by ns. -/
theorem Own.call {w0 : World} {M H M' H' : Nat → Prop} {g r g' r' g'' r'' : Nat → Option Asn} {w w' : World} {F F' : Nat → Nat → Prop}
    (h : Own w0 M H g r w F) (ks : Nat → Prop) (hM' : ∀ b, M' b → ∃ k, ks k ∧ F k b) (hM'' : ∀ k b, ks k → F k b → M' b) (h' : Own w M' H' g' r' w' F')
    (ns : Nat → Option Nat) (hns : ∀ j k i, ns j = some i → ns k = some i → j = k)
    (hg : ∀ k A, g'' k = some A → (∃ i, ns k = some i ∧ g' i = some A) ∨ (ns k = none ∧ ¬ ks k ∧ g k = some A) ∨ (A = emp ∧ ns k = none ∧ ks k))
    (hr : ∀ k A, r'' k = some A → r k = some A ∨ ((∃ i, r' i = some A) ∧ ∀ b, H' b → b < w.heap.size → (∀ j, ¬ F j b) ∧ (b < w0.heap.size → M b ∨ H b))) :
    ∃ F'', Own w0 M H g'' r'' w' F'' := by
  classical
  let F'' : Nat → Nat → Prop := fun k => match ns k with
    | some i => F' i
    | none => if ks k then fun _ => False else F k
  have hnew : ∀ k i, ns k = some i → F'' k = F' i := fun k i e => by simp [F'', e]
  have hold : ∀ k, ns k = none → ¬ ks k → F'' k = F k := fun k e e' => by simp [F'', e, e']
  have hemp : ∀ k, ns k = none → ks k → F'' k = fun _ => False := fun k e e' => by simp [F'', e, e']
  have hcase : ∀ k b, F'' k b → (∃ i, ns k = some i ∧ F' i b) ∨ (ns k = none ∧ ¬ ks k ∧ F k b) := by
    intro k b hb
    cases e : ns k with
    | some i => rw [hnew k i e] at hb; exact .inl ⟨i, rfl, hb⟩
    | none =>
      by_cases e' : ks k
      · rw [hemp k e e'] at hb; exact hb.elim
      · rw [hold k e e'] at hb; exact .inr ⟨rfl, e', hb⟩
  have hfree : ∀ k b, ¬ ks k → F k b → ¬ M' b := by
    intro k b hk hb hm
    obtain ⟨j, hj, hjb⟩ := hM' b hm
    exact hk (h.apart j k b hjb hb ▸ hj)
  have hnewold : ∀ i k b, ¬ ks k → F k b → ¬ F' i b := by
    intro i k b hk hb hb'
    exact hfree k b hk hb (h'.mine i b hb' (h.lt k b hb))
  refine ⟨F'', ?_, ?_, ?_, ?_, ?_, ?_⟩
  · refine h.touch.trans h'.touch fun x hx hm => ?_
    obtain ⟨k, _, hk⟩ := hM' x hm
    exact h.mine k x hk hx
  · intro k A hk
    rcases hg k A hk with ⟨i, hi, hA⟩ | ⟨hn, hk', hA⟩ | ⟨rfl, hn, hk'⟩
    · rw [hnew k i hi]; exact h'.has i A hA
    · rw [hold k hn hk']
      exact A.stable (h.has k A hA) fun b hb => h'.touch.block b (h.lt k b hb) (hfree k b hk' hb)
    · rw [hemp k hn hk']; exact fun b hb => hb
  · intro k b hb
    rcases hcase k b hb with ⟨i, _, hi⟩ | ⟨_, _, hk⟩
    · exact h'.lt i b hi
    · exact Nat.lt_of_lt_of_le (h.lt k b hk) h'.touch.size
  · intro k b hb hlt
    rcases hcase k b hb with ⟨i, _, hi⟩ | ⟨_, _, hk⟩
    · obtain ⟨j, _, hj⟩ := hM' b (h'.mine i b hi (Nat.lt_of_lt_of_le hlt h.touch.size))
      exact h.mine j b hj hlt
    · exact h.mine k b hk hlt
  · intro j k b hj hk
    rcases hcase j b hj with ⟨i, hi, hib⟩ | ⟨_, hjk, hjb⟩ <;> rcases hcase k b hk with ⟨i', hi', hib'⟩ | ⟨_, hkk, hkb⟩
    · have := h'.apart i i' b hib hib'
      subst this
      exact hns j k i hi hi'
    · exact (hnewold i k b hkk hkb hib).elim
    · exact (hnewold i' j b hjk hjb hib').elim
    · exact h.apart j k b hjb hkb
  · intro k A hk
    rcases hr k A hk with hA | ⟨⟨i, hA⟩, hH⟩
    · obtain ⟨G, hp, hG⟩ := h.ro k A hA
      have hnm : ∀ b, G b → ¬ M' b := fun b hb hm => by
        obtain ⟨j, _, hj⟩ := hM' b hm
        exact (hG b hb).2.1 j hj
      refine ⟨G, A.stable hp fun b hb => h'.touch.block b (hG b hb).1 (hnm b hb), fun b hb => ⟨Nat.lt_of_lt_of_le (hG b hb).1 h'.touch.size, fun j hj => ?_, (hG b hb).2.2⟩⟩
      rcases hcase j b hj with ⟨i, _, hi⟩ | ⟨_, _, hjb⟩
      · exact hnm b hb (h'.mine i b hi (hG b hb).1)
      · exact (hG b hb).2.1 j hjb
    · obtain ⟨G, hp, hG⟩ := h'.ro i A hA
      refine ⟨G, hp, fun b hb => ⟨(hG b hb).1, fun j hj => ?_, fun hlt => ?_⟩⟩
      · rcases hcase j b hj with ⟨i', _, hi'⟩ | ⟨_, hjk, hjb⟩
        · exact (hG b hb).2.1 i' hi'
        · have hlt : b < w.heap.size := h.lt j b hjb
          rcases (hG b hb).2.2 hlt with hm | hh
          · exact hfree j b hjk hjb hm
          · exact (hH b hh hlt).1 j hjb
      · have hlt' : b < w.heap.size := Nat.lt_of_lt_of_le hlt h.touch.size
        rcases (hG b hb).2.2 hlt' with hm | hh
        · obtain ⟨j, _, hj⟩ := hM' b hm
          exact .inl (h.mine j b hj hlt)
        · exact (hH b hh hlt').2 hlt

def COk (w0 : World) (M H : Nat → Prop) (Γ R : Ctx) (w : World) : Prop := ∃ F, Own w0 M H (cget Γ) (cget R) w F
def LOk (w0 : World) (M H : Nat → Prop) (L R : List Asn) (w : World) : Prop := ∃ F, Own w0 M H (fun k => L[k]?) (fun k => R[k]?) w F

/-- What a call gives: a value and assertions on what is new, for some x. -/
def Ret (w0 : World) (M H : Nat → Prop) {X : Type} (φ : X → Prop) (v : X → Value) (L R : X → List Asn) : Ending → World → Prop :=
  fun e w' => ∃ x, φ x ∧ e = .returned (v x) ∧ LOk w0 M H (L x) (R x) w'

/-! ### Frames -/
abbrev Env := List (Nat × Value)
def eget : Env → Nat → Option Value
  | [], _ => none
  | (j, v) :: r, k => bif Nat.beq j k then some v else eget r k
def ev (E : Env) : Operand → Option Value
  | .tmp t => eget E t
  | .const v => some v
  | .global g => some (.pointer (some ⟨g, 0, none⟩))
  | .func f => some (.func (.func f) #[] #[])
structure EOk (N : Nat) (E : Env) (a : Act) : Prop where
  defers : a.defers = []
  size : N ≤ a.tmps.size
  slot : ∀ t v, eget E t = some v → a.tmps[t]? = some v

theorem EOk.ev {N : Nat} {E : Env} {a : Act} (h : EOk N E a) {x : Operand} {v : Value} (hv : ev E x = some v) : a.eval x = v := by
  cases x with
  | tmp t =>
    have := h.slot t v hv
    simp [Act.eval, this]
  | const u => simpa [Ytdcbbkpdlcojfaa.ev, Act.eval] using hv
  | global g => simpa [Ytdcbbkpdlcojfaa.ev, Act.eval] using hv
  | func f => simpa [Ytdcbbkpdlcojfaa.ev, Act.eval] using hv

theorem EOk.put {N : Nat} {E : Env} {a : Act} (h : EOk N E a) {d : Nat} (hd : Nat.blt d N = true) (v : Value) : EOk N ((d, v) :: E) (a.put (some d) v) := by
  have hd' : d < N := by simpa [Nat.blt_eq] using hd
  refine ⟨h.defers, by simpa [Act.put] using h.size, fun t u ht => ?_⟩
  simp only [eget] at ht
  simp only [Act.put, Array.getElem?_setIfInBounds]
  cases hb : Nat.beq d t with
  | true =>
    rw [hb] at ht
    have : d = t := Nat.eq_of_beq_eq_true hb
    subst this
    have := h.size
    simp only [cond_true, Option.some.injEq] at ht
    simp [ht]
    omega
  | false =>
    rw [hb] at ht
    have hne : d ≠ t := fun e => by subst e; simp at hb
    rw [if_neg hne]
    exact h.slot t u ht

theorem EOk.put0 {N : Nat} {E : Env} {a : Act} (h : EOk N E a) (v : Value) : EOk N E (a.put none v) := h

/-- In every frame and world that fit E, Γ and R. -/
def At (N : Nat) (w0 : World) (M H : Nat → Prop) (E : Env) (Γ R : Ctx) (Rel : Act → World → Prop) : Prop :=
  ∀ a w, EOk N E a → COk w0 M H Γ R w → Rel a w

/-! ### Contexts by names -/
def cputs : List Nat → List Asn → Ctx → Ctx
  | n :: ns, A :: L, Γ => (n, A) :: cputs ns L Γ
  | _, _, Γ => Γ
def ckill : List Nat → Ctx → Ctx
  | k :: ks, Γ => (k, emp) :: ckill ks Γ
  | [], Γ => Γ
def cgets (Γ : Ctx) : List Nat → List (Option Asn)
  | [] => []
  | k :: ks => cget Γ k :: cgets Γ ks
def somes : List Asn → List (Option Asn)
  | [] => []
  | A :: L => some A :: somes L

def nfind : List Nat → Nat → Nat → Option Nat
  | [], _, _ => none
  | n :: ns, k, i => bif Nat.beq n k then some i else nfind ns k (i + 1)

theorem nfind_ge : ∀ {ns : List Nat} {k i j : Nat}, nfind ns k i = some j → i ≤ j ∧ ns[j - i]? = some k
  | [], _, _, _, h => by cases h
  | n :: ns, k, i, j, h => by
    simp only [nfind] at h
    cases hb : Nat.beq n k with
    | true =>
      rw [hb] at h
      simp at h
      subst h
      simp [Nat.eq_of_beq_eq_true hb]
    | false =>
      rw [hb] at h
      obtain ⟨h1, h2⟩ := nfind_ge (ns := ns) h
      refine ⟨by omega, ?_⟩
      have : j - i = (j - (i + 1)) + 1 := by omega
      rw [this]
      simpa using h2

theorem cget_cputs : ∀ (ns : List Nat) (L : List Asn) (Γ : Ctx) (k i : Nat) (A : Asn), ns.length = L.length → cget (cputs ns L Γ) k = some A →
    (∃ j, nfind ns k i = some (i + j) ∧ L[j]? = some A) ∨ (nfind ns k i = none ∧ cget Γ k = some A)
  | [], [], Γ, k, i, A, _, h => .inr ⟨rfl, h⟩
  | n :: ns, B :: L, Γ, k, i, A, hl, h => by
    simp only [cputs, cget] at h
    simp only [nfind]
    cases hb : Nat.beq n k with
    | true =>
      rw [hb] at h
      simp at h
      exact .inl ⟨0, by simp, by simp [h]⟩
    | false =>
      rw [hb] at h
      rcases cget_cputs ns L Γ k (i + 1) A (by simpa using hl) h with ⟨j, h1, h2⟩ | ⟨h1, h2⟩
      · exact .inl ⟨j + 1, by simpa [Nat.add_assoc, Nat.add_comm 1 j] using h1, by simpa using h2⟩
      · exact .inr ⟨by simpa using h1, h2⟩
  | [], _ :: _, _, _, _, _, hl, _ => by simp at hl
  | _ :: _, [], _, _, _, _, hl, _ => by simp at hl

theorem cget_ckill : ∀ (ks : List Nat) (Γ : Ctx) (k : Nat) (A : Asn), cget (ckill ks Γ) k = some A → (A = emp ∧ k ∈ ks) ∨ (k ∉ ks ∧ cget Γ k = some A)
  | [], Γ, k, A, h => .inr ⟨by simp, h⟩
  | n :: ks, Γ, k, A, h => by
    simp only [ckill, cget] at h
    cases hb : Nat.beq n k with
    | true =>
      rw [hb] at h
      simp at h
      exact .inl ⟨h.symm, by simp [Nat.eq_of_beq_eq_true hb]⟩
    | false =>
      rw [hb] at h
      have hne : k ≠ n := fun e => by subst e; simp at hb
      rcases cget_ckill ks Γ k A h with ⟨h1, h2⟩ | ⟨h1, h2⟩
      · exact .inl ⟨h1, by simp [h2]⟩
      · exact .inr ⟨by simp [hne, h1], h2⟩

theorem somes_get : ∀ (Γ : Ctx) (ks : List Nat) (L : List Asn) (i : Nat) (A : Asn), cgets Γ ks = somes L → L[i]? = some A → ∃ k, ks[i]? = some k ∧ cget Γ k = some A
  | Γ, [], [], i, A, _, h => by simp at h
  | Γ, k :: ks, B :: L, i, A, h, hi => by
    simp only [cgets, somes, List.cons.injEq] at h
    cases i with
    | zero => simp at hi; subst hi; exact ⟨k, by simp, h.1⟩
    | succ i => simpa using somes_get Γ ks L i A h.2 (by simpa using hi)
  | Γ, [], _ :: _, _, _, h, _ => by simp [cgets, somes] at h
  | Γ, _ :: _, [], _, _, h, _ => by simp [cgets, somes] at h

theorem nd_inj {ks : List Nat} (h : ks.Nodup) {i j k : Nat} (hi : ks[i]? = some k) (hj : ks[j]? = some k) : i = j := by
  obtain ⟨hi1, hi2⟩ := List.getElem?_eq_some_iff.1 hi
  obtain ⟨hj1, hj2⟩ := List.getElem?_eq_some_iff.1 hj
  have hp := List.pairwise_iff_getElem.1 h
  rcases Nat.lt_trichotomy i j with hlt | he | hlt
  · exact absurd (hi2.trans hj2.symm) (hp i j hi1 hj1 hlt)
  · exact he
  · exact absurd (hj2.trans hi2.symm) (hp j i hj1 hi1 hlt)

/-- A callee's own and read assertions, out of a caller's: ks: the owned names that it takes; rs: read names; bs: owned names that are lent for reading. -/
theorem COk.enter {w0 : World} {M H : Nat → Prop} {Γ R : Ctx} {w : World} (F : Nat → Nat → Prop) (h : Own w0 M H (cget Γ) (cget R) w F) (ks : List Nat) (hnd : ks.Nodup) {L : List Asn} (hL : cgets Γ ks = somes L)
    {R0 : List Asn} (hR : ∀ (i : Nat) A, R0[i]? = some A → (∃ k, cget R k = some A) ∨ ∃ k, k ∉ ks ∧ cget Γ k = some A) (H' : Nat → Prop)
    (hH : ∀ b, b < w.heap.size → ((∀ j, ¬ F j b) ∧ (b < w0.heap.size → M b ∨ H b)) ∨ (∃ (i : Nat) (A : Asn) (k : Nat), R0[i]? = some A ∧ k ∉ ks ∧ cget Γ k = some A ∧ F k b ∧ ∀ k', cget R k' ≠ some A) → H' b) :
    LOk w (fun b => ∃ k, k ∈ ks ∧ F k b) H' L R0 w := by
  classical
  refine ⟨fun i b => ∃ k, ks[i]? = some k ∧ F k b, Touch.refl _ _, ?_, ?_, ?_, ?_, ?_⟩
  · intro i A hi
    obtain ⟨k, hk, hA⟩ := somes_get Γ ks L i A hL hi
    have : (fun b => ∃ k, ks[i]? = some k ∧ F k b) = F k := by
      funext b
      simp [hk]
    show A.pred w _
    rw [this]
    exact h.has k A hA
  · rintro i b ⟨k, _, hb⟩; exact h.lt k b hb
  · rintro i b ⟨k, hk, hb⟩ _; exact ⟨k, List.mem_of_getElem? hk, hb⟩
  · rintro i j b ⟨k, hk, hb⟩ ⟨k', hk', hb'⟩
    have := h.apart k k' b hb hb'
    subst this
    exact nd_inj hnd hk hk'
  · intro i A hi
    by_cases hro : ∃ k, cget R k = some A
    · obtain ⟨k, hA⟩ := hro
      obtain ⟨G, hp, hG⟩ := h.ro k A hA
      refine ⟨G, hp, fun b hb => ⟨(hG b hb).1, ?_, fun hlt => .inr (hH b hlt (.inl (hG b hb).2))⟩⟩
      rintro j ⟨k', _, hb'⟩
      exact (hG b hb).2.1 k' hb'
    · rcases hR i A hi with hx | ⟨k, hk, hA⟩
      · exact absurd hx hro
      · refine ⟨F k, h.has k A hA, fun b hb => ⟨h.lt k b hb, ?_, fun hlt => .inr (hH b hlt (.inr ⟨i, A, k, hi, hk, hA, hb, fun k' e => hro ⟨k', e⟩⟩))⟩⟩
        rintro j ⟨k', hk', hb'⟩
        have := h.apart k k' b hb hb'
        subst this
        exact hk (List.mem_of_getElem? hk')

/-- A step inside: what owns the names ks by itself, and reads R0, gives L' and (if nothing owned was lent) R'. -/
theorem COk.step {w0 : World} {M H : Nat → Prop} {Γ R : Ctx} {w : World} (h : COk w0 M H Γ R w) (ks : List Nat) (hnd : ks.Nodup) {L : List Asn} (hL : cgets Γ ks = somes L)
    {R0 : List Asn} (hR : ∀ (i : Nat) A, R0[i]? = some A → (∃ k, cget R k = some A) ∨ ∃ k, k ∉ ks ∧ cget Γ k = some A) :
    ∃ M' H' : Nat → Prop, LOk w M' H' L R0 w ∧ ∀ (L' R' : List Asn) (ns rs : List Nat) (w' : World), ns.Nodup → ns.length = L'.length → rs.length = R'.length →
      LOk w M' H' L' R' w' → COk w0 M H (cputs ns L' (ckill ks Γ)) R w' ∧ ((∀ (i : Nat) A, R0[i]? = some A → ∃ k, cget R k = some A) → COk w0 M H (cputs ns L' (ckill ks Γ)) (cputs rs R' R) w') := by
  classical
  obtain ⟨F, hF⟩ := h
  let H' : Nat → Prop := fun b => ((∀ j, ¬ F j b) ∧ (b < w0.heap.size → M b ∨ H b)) ∨ (∃ (i : Nat) (A : Asn) (k : Nat), R0[i]? = some A ∧ k ∉ ks ∧ cget Γ k = some A ∧ F k b ∧ ∀ k', cget R k' ≠ some A)
  refine ⟨fun b => ∃ k, k ∈ ks ∧ F k b, H', COk.enter F hF ks hnd hL hR H' (fun b _ hb => hb), ?_⟩
  rintro L' R' ns rs w' hns hnl hrl ⟨F', h'⟩
  have hgg : ∀ k A, cget (cputs ns L' (ckill ks Γ)) k = some A →
      (∃ i, nfind ns k 0 = some i ∧ L'[i]? = some A) ∨ (nfind ns k 0 = none ∧ ¬ k ∈ ks ∧ cget Γ k = some A) ∨ (A = emp ∧ nfind ns k 0 = none ∧ k ∈ ks) := by
    intro k A hA
    rcases cget_cputs ns L' _ k 0 A hnl hA with ⟨j, h1, h2⟩ | ⟨h1, h2⟩
    · exact .inl ⟨j, by simpa using h1, h2⟩
    · rcases cget_ckill ks Γ k A h2 with ⟨h3, h4⟩ | ⟨h3, h4⟩
      · exact .inr (.inr ⟨h3, h1, h4⟩)
      · exact .inr (.inl ⟨h1, h3, h4⟩)
  have hinj : ∀ j k i, nfind ns j 0 = some i → nfind ns k 0 = some i → j = k := by
    intro j k i h1 h2
    have e1 := (nfind_ge h1).2
    have e2 := (nfind_ge h2).2
    rw [e1] at e2
    injection e2
  constructor
  · exact hF.call (fun k => k ∈ ks) (fun b hb => hb) (fun k b hk hb => ⟨k, hk, hb⟩) h' (fun k => nfind ns k 0) hinj hgg (fun k A hA => .inl hA)
  · intro hro
    refine hF.call (fun k => k ∈ ks) (fun b hb => hb) (fun k b hk hb => ⟨k, hk, hb⟩) h' (fun k => nfind ns k 0) hinj hgg (fun k A hA => ?_)
    rcases cget_cputs rs R' R k 0 A hrl hA with ⟨j, _, h2⟩ | ⟨_, h2⟩
    · refine .inr ⟨⟨j, h2⟩, fun b hb _ => ?_⟩
      rcases hb with hb | ⟨i, A', k', hi, _, _, _, hno⟩
      · exact hb
      · obtain ⟨k'', hk''⟩ := hro i A' hi
        exact absurd hk'' (hno k'')
    · exact .inl h2

end Go.Proofs.Ytdcbbkpdlcojfaa
namespace Go.Proofs.Ytdcbbkpdlcojfaa
set_option linter.unusedSimpArgs false
set_option linter.unusedVariables false
open Go.RowKit

section
variable {P : Program} {N : Nat} {w0 : World} {M H : Nat → Prop} {E : Env} {Γ R : Ctx} {Q : Exit → Act → World → Prop}

/-! ### Code -/
def XT (next : Act → World → Prop) (Q : Exit → Act → World → Prop) : Exit → Act → World → Prop
  | .normal => next
  | .exit j => Q (.exit j)
  | .goto j => Q (.goto j)
  | .ret => Q .ret
  | .panic c => Q (.panic c)
  | .outgrown => Q .outgrown
def XB (id : Nat) (Q : Exit → Act → World → Prop) : Exit → Act → World → Prop
  | .normal => Q .normal
  | .exit j => bif Nat.beq j id then Q .normal else Q (.exit j)
  | .goto j => Q (.goto j)
  | .ret => Q .ret
  | .panic c => Q (.panic c)
  | .outgrown => Q .outgrown

theorem r_seq {x y : Code} (h : At N w0 M H E Γ R (x.wp P (XT (y.wp P Q) Q))) : At N w0 M H E Γ R ((Code.seq x y).wp P Q) := fun a w hE hC =>
  wp_seq (wp_mono (h a w hE hC) fun e a w q => by cases e <;> exact q)
theorem r_block {id : Nat} {c : Code} (h : At N w0 M H E Γ R (c.wp P (XB id Q))) : At N w0 M H E Γ R ((Code.block id c).wp P Q) := fun a w hE hC =>
  wp_block (wp_mono (h a w hE hC) fun e a w q => by
    cases e with
    | exit j =>
      simp only [XB] at q
      simp only [Exit.inBlock]
      cases hb : Nat.beq j id with
      | true => rw [hb] at q; rw [if_pos (Nat.eq_of_beq_eq_true hb)]; exact q
      | false => rw [hb] at q; rw [if_neg (fun e => by subst e; simp at hb)]; exact q
    | _ => exact q)
theorem r_skip (h : At N w0 M H E Γ R (Q .normal)) : At N w0 M H E Γ R (Code.skip.wp P Q) := fun a w hE hC => wp_skip (h a w hE hC)
theorem r_exit {id : Nat} (h : At N w0 M H E Γ R (Q (.exit id))) : At N w0 M H E Γ R ((Code.exit id).wp P Q) := fun a w hE hC => wp_exit (h a w hE hC)
theorem r_cret (h : At N w0 M H E Γ R (Q .ret)) : At N w0 M H E Γ R (Code.ret.wp P Q) := fun a w hE hC => wp_ret (h a w hE hC)
theorem r_cond {c : Operand} {x y : Code} {t : Bool} (hc : ev E c = some (.bool t)) (ht : t = true → At N w0 M H E Γ R (x.wp P Q)) (hf : t = false → At N w0 M H E Γ R (y.wp P Q)) :
    At N w0 M H E Γ R ((Code.cond c x y).wp P Q) := fun a w hE hC =>
  wp_cond_split (hE.ev hc) (fun h => ht h a w hE hC) (fun h => hf h a w hE hC)
theorem r_region {id : Nat} {l : List Oper} (h : At N w0 M H E Γ R (wpList P l.toArray Q l)) : At N w0 M H E Γ R ((Code.region id l.toArray false).wp P Q) := fun a w hE hC =>
  wp_region_lit (h a w hE hC)
theorem r_nil {ops : Array Oper} (h : At N w0 M H E Γ R (Q .normal)) : At N w0 M H E Γ R (wpList P ops Q []) := h

/-- What is known may be less. -/
theorem At.weak {E' : Env} {Γ' R' : Ctx} {Rel : Act → World → Prop} (h : At N w0 M H E' Γ' R' Rel) (hE : ∀ a, EOk N E a → EOk N E' a) (hC : ∀ w, COk w0 M H Γ R w → COk w0 M H Γ' R' w) :
    At N w0 M H E Γ R Rel := fun a w h1 h2 => h a w (hE a h1) (hC w h2)

def egets (E : Env) : Env → List (Option Value)
  | [] => []
  | (k, _) :: r => eget E k :: egets E r
def evals : Env → List (Option Value)
  | [] => []
  | (_, v) :: r => some v :: evals r
theorem EOk.sub {a : Act} (h : EOk N E a) : ∀ {E' : Env}, egets E E' = evals E' → EOk N E' a
  | [], _ => ⟨h.defers, h.size, fun t v hv => by cases hv⟩
  | (k, u) :: r, he => by
    simp only [egets, evals, List.cons.injEq] at he
    have ih := EOk.sub h (E' := r) he.2
    refine ⟨h.defers, h.size, fun t v hv => ?_⟩
    simp only [eget] at hv
    cases hb : Nat.beq k t with
    | true =>
      rw [hb] at hv
      simp at hv
      subst hv
      rw [← Nat.eq_of_beq_eq_true hb]
      exact h.slot k u he.1
    | false => rw [hb] at hv; exact ih.slot t v hv

theorem COk.congr {w : World} {Γ' R' : Ctx} (h : COk w0 M H Γ R w) (h1 : ∀ k A, cget Γ' k = some A → cget Γ k = some A) (h2 : ∀ k A, cget R' k = some A → cget R k = some A) : COk w0 M H Γ' R' w := by
  obtain ⟨F, hF⟩ := h
  exact ⟨F, hF.touch, fun k A hk => hF.has k A (h1 k A hk), hF.lt, hF.mine, hF.apart, fun k A hk => hF.ro k A (h2 k A hk)⟩

def csame (Γ : Ctx) : Ctx → List (Option Asn)
  | [] => []
  | (k, _) :: r => cget Γ k :: csame Γ r
def casns : Ctx → List (Option Asn)
  | [] => []
  | (_, A) :: r => some A :: casns r
theorem csub {Γ : Ctx} : ∀ {Γ' : Ctx}, csame Γ Γ' = casns Γ' → ∀ k A, cget Γ' k = some A → cget Γ k = some A
  | [], _, _, _, h => by cases h
  | (j, B) :: r, he, k, A, h => by
    simp only [csame, casns, List.cons.injEq] at he
    simp only [cget] at h
    cases hb : Nat.beq j k with
    | true =>
      rw [hb] at h
      simp at h
      subst h
      rw [← Nat.eq_of_beq_eq_true hb]
      exact he.1
    | false => rw [hb] at h; exact csub he.2 k A h

/-- A new account of what is known, by looking each part up. -/
theorem r_norm (E' : Env) (Γ' R' : Ctx) {Rel : Act → World → Prop} (hE : egets E E' = evals E') (hΓ : csame Γ Γ' = casns Γ') (hR : csame R R' = casns R') (h : At N w0 M H E' Γ' R' Rel) : At N w0 M H E Γ R Rel :=
  h.weak (fun _ h => h.sub hE) (fun _ h => h.congr (csub hΓ) (csub hR))

/-- Where ways meet, or a round ends: the account of some x. -/
def Here (N : Nat) (w0 : World) (M H : Nat → Prop) {X : Type} (I : X → Prop) (Ei : X → Env) (Γi Ri : X → Ctx) : Act → World → Prop :=
  fun a w => ∃ x, I x ∧ EOk N (Ei x) a ∧ COk w0 M H (Γi x) (Ri x) w
theorem r_here {X : Type} {I : X → Prop} {Ei : X → Env} {Γi Ri : X → Ctx} (x : X) (hI : I x) (hE : egets E (Ei x) = evals (Ei x)) (hΓ : csame Γ (Γi x) = casns (Γi x)) (hR : csame R (Ri x) = casns (Ri x)) :
    At N w0 M H E Γ R (Here N w0 M H I Ei Γi Ri) := fun a w h1 h2 => ⟨x, hI, h1.sub hE, h2.congr (csub hΓ) (csub hR)⟩
theorem r_cut {X : Type} (I : X → Prop) (Ei : X → Env) (Γi Ri : X → Ctx) {c : Code} {Q' : Exit → Act → World → Prop} {K : Act → World → Prop} (hQ : ∀ e, (e = .normal → False) → ∀ a w, Q' e a w → Q e a w) (hn : ∀ a w, K a w → Q .normal a w)
    (h : At N w0 M H E Γ R (c.wp P (XT (Here N w0 M H I Ei Γi Ri) Q'))) (k : ∀ x, I x → At N w0 M H (Ei x) (Γi x) (Ri x) K) : At N w0 M H E Γ R (c.wp P Q) := fun a w hE hC =>
  wp_mono (h a w hE hC) fun e a w q => by
    cases e with
    | normal => obtain ⟨x, h1, h2, h3⟩ := q; exact hn _ _ (k x h1 a w h2 h3)
    | _ => exact hQ _ (by simp) _ _ q
/-- A cut behind the first part of a sequence. -/
theorem r_seq_cut {X : Type} (I : X → Prop) (Ei : X → Env) (Γi Ri : X → Ctx) {x y : Code} (h : At N w0 M H E Γ R (x.wp P (XT (Here N w0 M H I Ei Γi Ri) Q))) (k : ∀ x, I x → At N w0 M H (Ei x) (Γi x) (Ri x) (y.wp P Q)) :
    At N w0 M H E Γ R ((Code.seq x y).wp P Q) := fun a w hE hC =>
  wp_seq (wp_mono (h a w hE hC) fun e a w q => by
    cases e with
    | normal => obtain ⟨z, h1, h2, h3⟩ := q; exact k z h1 a w h2 h3
    | _ => exact q)

/-- A LOOP: I, Ei, Γi, Ri tell of a round's head for some x; μ goes down. -/
theorem r_loop {X : Type} (I : X → Prop) (Ei : X → Env) (Γi Ri : X → Ctx) (μ : X → Nat) {c : Code} (x0 : X) (hI : I x0) (hE : egets E (Ei x0) = evals (Ei x0)) (hΓ : csame Γ (Γi x0) = casns (Γi x0)) (hR : csame R (Ri x0) = casns (Ri x0))
    (round : ∀ x, I x → At N w0 M H (Ei x) (Γi x) (Ri x) (c.wp P (XT (Here N w0 M H (fun y => I y ∧ μ y < μ x) Ei Γi Ri) Q))) : At N w0 M H E Γ R ((Code.loop c).wp P Q) := by
  classical
  intro a w h1 h2
  let I' : Act → World → Prop := fun a w => ∃ x, I x ∧ EOk N (Ei x) a ∧ COk w0 M H (Γi x) (Ri x) w
  let Y : Act → World → Nat → Prop := fun a w n => ∃ x, I x ∧ EOk N (Ei x) a ∧ COk w0 M H (Γi x) (Ri x) w ∧ μ x = n
  have least : ∀ n a w, Y a w n → ∃ m, Y a w m ∧ ∀ j, Y a w j → m ≤ j := by
    intro n
    induction n using Nat.strongRecOn with
    | _ n ih =>
      intro a w hn
      by_cases hx : ∃ j, j < n ∧ Y a w j
      · obtain ⟨j, hj, hy⟩ := hx
        exact ih j hj a w hy
      · exact ⟨n, hn, fun j hj => by
          rcases Nat.lt_or_ge j n with h | h
          · exact absurd ⟨j, h, hj⟩ hx
          · exact h⟩
  let ν : Act → World → Nat := fun a w => if h : ∃ m, Y a w m ∧ ∀ j, Y a w j → m ≤ j then Classical.choose h else 0
  have hν : ∀ a w n, Y a w n → Y a w (ν a w) ∧ ν a w ≤ n := by
    intro a w n hn
    have hex := least n a w hn
    have hs := Classical.choose_spec hex
    have e : ν a w = Classical.choose hex := by simp only [ν]; rw [dif_pos hex]
    rw [e]
    exact ⟨hs.1, hs.2 n hn⟩
  refine wp_loop I' ν ⟨x0, hI, h1.sub hE, h2.congr (csub hΓ) (csub hR)⟩ fun a w hx => ?_
  obtain ⟨x, e1, e2, e3⟩ := hx
  obtain ⟨⟨y, f1, f2, f3, f4⟩, _⟩ := hν a w (μ x) ⟨x, e1, e2, e3, rfl⟩
  refine wp_mono (round y f1 a w f2 f3) fun e a' w' q => ?_
  cases e with
  | normal =>
    obtain ⟨z, ⟨g1, g4⟩, g2, g3⟩ := q
    exact ⟨⟨z, g1, g2, g3⟩, Nat.lt_of_le_of_lt (hν a' w' (μ z) ⟨z, g1, g2, g3, rfl⟩).2 (f4 ▸ g4)⟩
  | _ => exact q

/-! ### Guards -/
def gslot (ops : List Oper) (i : Nat) : Option Nat := (ops[i]?).bind (·.dst)
theorem EOk.yield {a : Act} (h : EOk N E a) {l : List Oper} {i t : Nat} {b : Bool} (hi : gslot l i = some t) (ht : eget E t = some (.bool b)) : yielded l.toArray a.tmps i = some b := by
  unfold yielded
  have : (l.toArray[i]?).bind (·.dst) = some t := by simpa [gslot] using hi
  rw [this]
  simp [h.slot t _ ht]
theorem r_guard {l : List Oper} {rest : List Oper} {dst : Option Tmp} {op : Op} {T : TypeId} {ps : String} {af : Array Edge} {i t : Nat} {c b : Bool} (hi : gslot l i = some t) (ht : eget E t = some (.bool b))
    (hy : b = c → At N w0 M H E Γ R (wpList P l.toArray Q (⟨dst, op, T, ps, af, none⟩ :: rest)))
    (hn : b = !c → At N w0 M H (match dst with | some d => (d, undef) :: E | none => E) Γ R (wpList P l.toArray Q rest)) (hd : (match dst with | some d => Nat.blt d N | none => true) = true) :
    At N w0 M H E Γ R (wpList P l.toArray Q (⟨dst, op, T, ps, af, some (i, c)⟩ :: rest)) := by
  intro a w hE hC
  have hyd := hE.yield hi ht
  unfold wpList
  by_cases hbc : b = c
  · have := hy hbc a w hE hC
    unfold wpList at this
    rw [if_pos (by simp [Region.wanted])] at this
    rw [if_pos (by simp [Region.wanted, hyd, hbc])]
    exact this
  · rw [if_neg (by simp [Region.wanted, hyd, hbc])]
    have hb : b = !c := by cases b <;> cases c <;> simp_all
    cases dst with
    | none => exact hn hb _ _ hE hC
    | some d => exact hn hb _ _ (hE.put hd undef) hC

/-! ### Operations in general -/
variable {ops : Array Oper} {rest : List Oper} {T : TypeId} {ps : String} {af : Array Edge} {d : Nat} {op : Op}

theorem r_gen {X : Type} (φ : X → Prop) (v : X → Value) (Γ' R' : X → Ctx) (hd : Nat.blt d N = true)
    (hrun : ∀ a w, EOk N E a → COk w0 M H Γ R w → ∃ x w', φ x ∧ (execOp a.eval ⟨some d, op, T, ps, af, none⟩).run P w = .ok (.value (v x)) w' ∧ COk w0 M H (Γ' x) (R' x) w')
    (k : ∀ x, φ x → At N w0 M H ((d, v x) :: E) (Γ' x) (R' x) (wpList P ops Q rest)) : At N w0 M H E Γ R (wpList P ops Q (⟨some d, op, T, ps, af, none⟩ :: rest)) := by
  intro a w hE hC
  obtain ⟨x, w', h1, h2, h3⟩ := hrun a w hE hC
  unfold wpList
  rw [if_pos (by simp [Region.wanted])]
  left
  unfold Oper.wp
  rw [h2]
  exact k x h1 _ _ (hE.put hd _) h3

theorem r_pure {v : Value} (hd : Nat.blt d N = true) (hrun : ∀ a w, EOk N E a → (execOp a.eval ⟨some d, op, T, ps, af, none⟩).run P w = .ok (.value v) w)
    (k : At N w0 M H ((d, v) :: E) Γ R (wpList P ops Q rest)) : At N w0 M H E Γ R (wpList P ops Q (⟨some d, op, T, ps, af, none⟩ :: rest)) :=
  r_gen (X := Unit) (fun _ => True) (fun _ => v) (fun _ => Γ) (fun _ => R) hd (fun a w hE hC => ⟨(), w, trivial, hrun a w hE, hC⟩) fun _ _ => k

theorem r_move {x : Operand} {v : Value} (hx : ev E x = some v) (hd : Nat.blt d N = true) (k : At N w0 M H ((d, v) :: E) Γ R (wpList P ops Q rest)) :
    At N w0 M H E Γ R (wpList P ops Q (⟨some d, .move x, T, ps, af, none⟩ :: rest)) := r_pure hd (fun a w hE => by simp [execOp, hE.ev hx]) k
theorem r_assign {x : Operand} {v : Value} (hx : ev E x = some v) (hd : Nat.blt d N = true) (k : At N w0 M H ((d, v) :: E) Γ R (wpList P ops Q rest)) :
    At N w0 M H E Γ R (wpList P ops Q (⟨some d, .assign x, T, ps, af, none⟩ :: rest)) := r_pure hd (fun a w hE => by simp [execOp, hE.ev hx]) k
theorem r_pick {c x y : Operand} {b : Bool} {u v z : Value} (hc : ev E c = some (.bool b)) (hx : ev E x = some u) (hy : ev E y = some v) (hz : (bif b then u else v) = z) (hd : Nat.blt d N = true)
    (k : At N w0 M H ((d, z) :: E) Γ R (wpList P ops Q rest)) : At N w0 M H E Γ R (wpList P ops Q (⟨some d, .pick c x y, T, ps, af, none⟩ :: rest)) :=
  r_pure hd (fun a w hE => by
    subst hz
    simp only [execOp, hE.ev hc, hE.ev hx, hE.ev hy, asBool]
    cases b <;> rfl) k

def BinRun (P : Program) (op : BinOp) (T : TypeId) (u v z : Value) : Prop := ∀ (x y : Operand) (w : World), ((do eqGuard op T x y u v; binOp op T u v : Sem Value)).run P w = .ok z w
theorem r_bin {o : BinOp} {S S' : TypeId} {x y : Operand} {u v z : Value} (hx : ev E x = some u) (hy : ev E y = some v) (hb : BinRun P o S u v z) (hd : Nat.blt d N = true)
    (k : At N w0 M H ((d, z) :: E) Γ R (wpList P ops Q rest)) : At N w0 M H E Γ R (wpList P ops Q (⟨some d, .binOp o S x y S', T, ps, af, none⟩ :: rest)) :=
  r_pure hd (fun a w hE => by
    have := hb x y w
    simp only [execOp, hE.ev hx, hE.ev hy, Sem.run_bind] at this ⊢
    rw [this]; rfl) k

theorem eqg_int (o : BinOp) (S : TypeId) (x y : Operand) (k : IntKind) (n : Int) (v : Value) : eqGuard o S x y (.int k n) v = pure () := by cases o <;> rfl
theorem eqg_bool (o : BinOp) (S : TypeId) (x y : Operand) (b : Bool) (v : Value) : eqGuard o S x y (.bool b) v = pure () := by cases o <;> rfl
theorem eqg_string (o : BinOp) (S : TypeId) (x y : Operand) (b : ByteArray) (v : Value) : eqGuard o S x y (.string b) v = pure () := by cases o <;> rfl
theorem b_add {S : TypeId} {k : IntKind} {a b c : Int} (h : k.wrap (a + b) = c) : BinRun P .add S (.int k a) (.int k b) (.int k c) := fun x y w => by rw [eqg_int]; simp [binOp, Op.intArith, h]
theorem b_sub {S : TypeId} {k : IntKind} {a b c : Int} (h : k.wrap (a - b) = c) : BinRun P .sub S (.int k a) (.int k b) (.int k c) := fun x y w => by rw [eqg_int]; simp [binOp, Op.intArith, h]
theorem b_mul {S : TypeId} {k : IntKind} {a b c : Int} (h : k.wrap (a * b) = c) : BinRun P .mul S (.int k a) (.int k b) (.int k c) := fun x y w => by rw [eqg_int]; simp [binOp, Op.intArith, h]
theorem b_quo {S : TypeId} {k : IntKind} {a b c : Int} (h0 : b ≠ 0) (h : k.wrap (a.tdiv b) = c) : BinRun P .quo S (.int k a) (.int k b) (.int k c) := fun x y w => by rw [eqg_int]; simp [binOp, Op.intDiv, h0, h]
theorem b_rem {S : TypeId} {k : IntKind} {a b c : Int} (h0 : b ≠ 0) (h : a.tmod b = c) : BinRun P .rem S (.int k a) (.int k b) (.int k c) := fun x y w => by rw [eqg_int]; simp [binOp, Op.intDiv, h0, h]
theorem b_and {S : TypeId} {k : IntKind} {a b c : Int} (h : bits .and k a b = c) : BinRun P .and S (.int k a) (.int k b) (.int k c) := fun x y w => by rw [eqg_int]; simp [binOp, intBits_and, h]
theorem b_or {S : TypeId} {k : IntKind} {a b c : Int} (h : bits .or k a b = c) : BinRun P .or S (.int k a) (.int k b) (.int k c) := fun x y w => by rw [eqg_int]; simp [binOp, intBits_or, h]
theorem b_xor {S : TypeId} {k : IntKind} {a b c : Int} (h : bits .xor k a b = c) : BinRun P .xor S (.int k a) (.int k b) (.int k c) := fun x y w => by rw [eqg_int]; simp [binOp, intBits_xor, h]
theorem b_shr {S : TypeId} {k yk : IntKind} {a b c : Int} (h0 : 0 ≤ b) (h1 : b ≤ k.bits) (h : a / 2 ^ b.toNat = c) : BinRun P .shr S (.int k a) (.int yk b) (.int k c) := fun x y w => by
  rw [eqg_int]; simp [binOp, shift_shr k yk a b h0 h1, h]
theorem b_shl {S : TypeId} {k yk : IntKind} {a b c : Int} (h0 : 0 ≤ b) (h1 : b ≤ k.bits) (h : k.wrap (a * 2 ^ b.toNat) = c) : BinRun P .shl S (.int k a) (.int yk b) (.int k c) := fun x y w => by
  rw [eqg_int]; simp [binOp, shift_shl k yk a b h0 h1, h]
theorem b_lt {S : TypeId} {k : IntKind} {a b : Int} : BinRun P .lss S (.int k a) (.int k b) (.bool (decide (a < b))) := fun x y w => by rw [eqg_int]; simp [binOp, Op.intCmp]
theorem b_le {S : TypeId} {k : IntKind} {a b : Int} : BinRun P .leq S (.int k a) (.int k b) (.bool (decide (a ≤ b))) := fun x y w => by rw [eqg_int]; simp [binOp, Op.intCmp]
theorem b_gt {S : TypeId} {k : IntKind} {a b : Int} : BinRun P .gtr S (.int k a) (.int k b) (.bool (decide (a > b))) := fun x y w => by rw [eqg_int]; simp [binOp, Op.intCmp]
theorem b_ge {S : TypeId} {k : IntKind} {a b : Int} : BinRun P .geq S (.int k a) (.int k b) (.bool (decide (a ≥ b))) := fun x y w => by rw [eqg_int]; simp [binOp, Op.intCmp]
theorem b_eq {S : TypeId} {k : IntKind} {a b : Int} : BinRun P .eql S (.int k a) (.int k b) (.bool (decide (a = b))) := fun x y w => by
  rw [eqg_int]; simp [binOp, Op.intCmp]; exact (Bool.beq_eq_decide_eq a b)
theorem b_ne {S : TypeId} {k : IntKind} {a b : Int} : BinRun P .neq S (.int k a) (.int k b) (.bool (!decide (a = b))) := fun x y w => by
  rw [eqg_int]; simp [binOp, Op.intCmp]; simp [bne, Bool.beq_eq_decide_eq a b]

theorem r_not {S : TypeId} {x : Operand} {b : Bool} (hx : ev E x = some (.bool b)) (hd : Nat.blt d N = true) (k : At N w0 M H ((d, .bool (!b)) :: E) Γ R (wpList P ops Q rest)) :
    At N w0 M H E Γ R (wpList P ops Q (⟨some d, .unOp .not S x, T, ps, af, none⟩ :: rest)) := r_pure hd (fun a w hE => by simp [execOp, hE.ev hx, Op.unary]) k
theorem r_neg {S : TypeId} {x : Operand} {k : IntKind} {n c : Int} (hx : ev E x = some (.int k n)) (hc : k.wrap (-n) = c) (hd : Nat.blt d N = true) (kk : At N w0 M H ((d, .int k c) :: E) Γ R (wpList P ops Q rest)) :
    At N w0 M H E Γ R (wpList P ops Q (⟨some d, .unOp .neg S x, T, ps, af, none⟩ :: rest)) := r_pure hd (fun a w hE => by simp [execOp, hE.ev hx, Op.unary, Op.intArith, hc]) kk
theorem r_conv {S D : TypeId} {x : Operand} {k k' : IntKind} {n c : Int} {D' : TypeDesc} (hS : P.underlying S = some D') (hD : P.underlying D = some (.int k')) (hx : ev E x = some (.int k n)) (hc : k'.wrap n = c) (hd : Nat.blt d N = true)
    (kk : At N w0 M H ((d, .int k' c) :: E) Γ R (wpList P ops Q rest)) : At N w0 M H E Γ R (wpList P ops Q (⟨some d, .convert S D x, T, ps, af, none⟩ :: rest)) :=
  r_pure hd (fun a w hE => by simp [execOp, hE.ev hx, convert, run_underlying hS, run_underlying hD, Conv.intToInt, hc]) kk
def evs (E : Env) : List Operand → Option (List Value)
  | [] => some []
  | x :: r => match ev E x, evs E r with
    | some v, some vs => some (v :: vs)
    | _, _ => none
theorem EOk.evs {a : Act} (h : EOk N E a) : ∀ {xs : List Operand} {vs : List Value}, Ytdcbbkpdlcojfaa.evs E xs = some vs → xs.map a.eval = vs
  | [], vs, e => by simp [Ytdcbbkpdlcojfaa.evs] at e; simp [e]
  | x :: r, vs, e => by
    simp only [Ytdcbbkpdlcojfaa.evs] at e
    cases hx : Ytdcbbkpdlcojfaa.ev E x with
    | none => simp [hx] at e
    | some v =>
      cases hr : Ytdcbbkpdlcojfaa.evs E r with
      | none => simp [hx, hr] at e
      | some us =>
        simp [hx, hr] at e
        subst e
        simp [h.ev hx, EOk.evs h hr]
theorem r_makeFunc {fn : Fn} {first cap : List Operand} {fs cs : List Value} (hf : evs E first = some fs) (hc : evs E cap = some cs) (hd : Nat.blt d N = true)
    (k : At N w0 M H ((d, .func fn fs.toArray cs.toArray) :: E) Γ R (wpList P ops Q rest)) : At N w0 M H E Γ R (wpList P ops Q (⟨some d, .makeFunc fn first.toArray cap.toArray, T, ps, af, none⟩ :: rest)) :=
  r_pure hd (fun a w hE => by simp [execOp, Instr.makeFunc, hE.evs hf, hE.evs hc]) k
theorem r_extract {x : Operand} {i : Nat} {vs : List Value} {v : Value} (hx : ev E x = some (.tuple vs.toArray)) (hv : vs[i]? = some v) (hd : Nat.blt d N = true) (k : At N w0 M H ((d, v) :: E) Γ R (wpList P ops Q rest)) :
    At N w0 M H E Γ R (wpList P ops Q (⟨some d, .extract x i, T, ps, af, none⟩ :: rest)) := r_pure hd (fun a w hE => by simp [execOp, hE.ev hx, Instr.extract, hv]) k
theorem r_nilCheck {x : Operand} {A : Addr} (hx : ev E x = some (.pointer (some A))) (hd : Nat.blt d N = true) (k : At N w0 M H ((d, .pointer (some A)) :: E) Γ R (wpList P ops Q rest)) :
    At N w0 M H E Γ R (wpList P ops Q (⟨some d, .nilCheck x, T, ps, af, none⟩ :: rest)) := r_pure hd (fun a w hE => by simp [execOp, hE.ev hx]) k

end
end Go.Proofs.Ytdcbbkpdlcojfaa
namespace Go.Proofs.Ytdcbbkpdlcojfaa
set_option linter.unusedSimpArgs false
set_option linter.unusedVariables false
open Go.RowKit

/-! ### Types -/
def aggD : TypeDesc → Bool
  | .struct _ | .array _ _ => true
  | _ => false
/-- Facts of a type: its form, its zero value, its number of cells and of bytes. -/
structure TI (P : Program) (T : TypeId) (D : TypeDesc) (z : Value) (s b : Nat) : Prop where
  und : P.underlying T = some D
  inf : (P.info? T).map (fun i => (i.zero, i.size, i.bytes)) = some (some z, s, b)

section
variable {P : Program} {T : TypeId} {D : TypeDesc} {z : Value} {s b : Nat}
theorem TI.info (h : TI P T D z s b) : ∃ i, P.info? T = some i ∧ i.zero = some z ∧ i.size = s ∧ i.bytes = b := by
  have hi := h.inf
  cases hx : P.info? T with
  | none => rw [hx] at hi; simp at hi
  | some i =>
    rw [hx] at hi
    simp at hi
    exact ⟨i, rfl, hi.1, hi.2.1, hi.2.2⟩
theorem TI.isAgg (h : TI P T D z s b) (w : World) : (isAgg T).run P w = .ok (aggD D) w := by
  unfold Go.isAgg
  rw [Sem.run_bind, run_underlying h.und]
  cases D <;> simp [aggD]
theorem TI.sizeOf (h : TI P T D z s b) (w : World) : (sizeOf T).run P w = .ok s w := by
  obtain ⟨i, h1, h2, h3, h4⟩ := h.info
  simp [Go.sizeOf, typeInfo, h1, h3]
theorem TI.zero (h : TI P T D z s b) (w : World) : (zeroValue T).run P w = .ok z w := by
  obtain ⟨i, h1, h2, h3, h4⟩ := h.info
  simp [zeroValue, typeInfo, h1, h2]
end

/-! ### Assertions -/
/-- Block b is a row of the cells c. -/
def row (b : Nat) (T : TypeId) (c : List Value) : Asn := ⟨fun w F => (∀ x, F x ↔ x = b) ∧ w.heap[b]? = some (.cells c.toArray T (0, 0)), fun ⟨h1, h2⟩ hs => ⟨h1, (hs b ((h1 b).2 rfl)).trans h2⟩⟩
/-- Block b is a row of n cells; f tells them. -/
def arr (b : Nat) (T : TypeId) (n : Nat) (f : Nat → Value) : Asn := ⟨fun w F => (∀ x, F x ↔ x = b) ∧ w.rowIs b T n f, fun ⟨h1, h2⟩ hs => ⟨h1, h2.of_block (hs b ((h1 b).2 rfl))⟩⟩
theorem ownsRow_block {w w' : World} {base : Nat} {e : TypeId} {size : Nat} {v : Value} {n : Nat} {xs : List Value} (h : w.ownsRow base e size v n xs) (hb : ∀ b, v.ownBlock = some b → w'.heap[b]? = w.heap[b]?) : w'.ownsRow base e size v n xs := by
  refine ⟨h.1, ?_⟩
  rcases h.2 with hn | ⟨g, cap, cur, rfl, hbg, hg, rest⟩
  · exact .inl hn
  · exact .inr ⟨g, cap, cur, rfl, hbg, (hb g rfl).trans hg, rest⟩
/-- The slice v, of the call's own (it may be nil if it is empty), holds the list l; each element is s cells. -/
def own {α : Type} (T : TypeId) (s : Nat) (enc : α → List Value) (v : Value) (l : List α) : Asn :=
  ⟨fun w F => (∀ x, F x ↔ v.ownBlock = some x) ∧ w.ownsRow 0 T s v l.length (l.flatMap enc), fun ⟨h1, h2⟩ hs => ⟨h1, ownsRow_block h2 fun b hb => hs b ((h1 b).2 hb)⟩⟩
/-- The slice v, for reading, holds the list l. -/
def SlOk {α : Type} (w : World) (F : Nat → Prop) (s : Nat) (enc : α → List Value) (v : Value) (l : List α) : Prop :=
  ∃ c, l.length ≤ c ∧ c ≤ maxLen ∧ ((l = [] ∧ (∀ x, ¬ F x) ∧ v = .slice none 0 0) ∨
    ∃ b o, v = .slice (some ⟨b, o, none⟩) l.length c ∧ F b ∧ ∀ j u, (l.flatMap enc)[j]? = some u → w.cell? ⟨b, o + j, none⟩ = some u)
def sl {α : Type} (s : Nat) (enc : α → List Value) (v : Value) (l : List α) : Asn :=
  ⟨fun w F => SlOk w F s enc v l, fun ⟨c, h1, h2, h3⟩ hs => ⟨c, h1, h2, by
    rcases h3 with h | ⟨b, o, hv, hb, hc⟩
    · exact .inl h
    · exact .inr ⟨b, o, hv, hb, fun j u hj => (World.cell?_of_block (hs b hb)).trans (hc j u hj)⟩⟩⟩

/-- A slice value. -/
structure SV where
  a : Option Addr
  n : Nat
  c : Nat
def sv (x : SV) : Value := .slice x.a x.n x.c
def nilS : SV := ⟨none, 0, 0⟩
theorem ownsRow_sv {w : World} {base : Nat} {e : TypeId} {size : Nat} {v : Value} {n : Nat} {xs : List Value} (h : w.ownsRow base e size v n xs) : ∃ x, v = sv x := by
  rcases h.2 with ⟨rfl, _⟩ | ⟨g, cap, cur, rfl, _⟩
  · exact ⟨nilS, rfl⟩
  · exact ⟨⟨_, _, _⟩, rfl⟩

def sblk : Value → Nat
  | .slice (some a) _ _ => a.block
  | _ => 0
def soff : Value → Nat
  | .slice (some a) _ _ => a.off
  | _ => 0

theorem own_sl {α : Type} {T : TypeId} {s : Nat} {enc : α → List Value} {v : Value} {l : List α} {w : World} {F : Nat → Prop} (h : (own T s enc v l).pred w F) : SlOk w F s enc v l := by
  obtain ⟨h1, h2⟩ := h
  rcases h2.2 with ⟨rfl, hn⟩ | ⟨g, cap, cur, rfl, _, hg, hnc, hcm, hcs, htake⟩
  · have : l = [] := List.eq_nil_of_length_eq_zero hn
    subst this
    exact ⟨0, by simp, by simp, .inl ⟨rfl, fun x hx => by simpa [Value.ownBlock] using (h1 x).1 hx, rfl⟩⟩
  · refine ⟨cap, hnc, hcm, .inr ⟨g, 0, rfl, (h1 g).2 rfl, fun j u hj => ?_⟩⟩
    have := h2.cells (g := g) rfl j u hj
    have hadd : (⟨g, 0, none⟩ : Addr).add j = ⟨g, 0 + j, none⟩ := by unfold Addr.add; split <;> simp_all
    rwa [hadd] at this

/-! ### Changing what is owned -/
section
variable {w0 : World} {M H : Nat → Prop} {Γ R : Ctx} {w w' : World}

theorem cget_swap {k : Nat} {A' : Asn} (Γ : Ctx) : ∀ j A, cget ((k, A') :: Γ) j = some A → cget (cputs [k] [A'] (ckill [k] Γ)) j = some A := by
  intro j A h
  simp only [cputs, ckill, cget] at h ⊢
  cases hb : Nat.beq k j with
  | true => rw [hb] at h; simpa using h
  | false => rw [hb] at h; simpa using h

theorem COk.upd {k : Nat} {A A' : Asn} (h : COk w0 M H Γ R w) (hk : cget Γ k = some A)
    (hs : ∀ G, A.pred w G → (∀ b, G b → b < w.heap.size) → ∃ G', A'.pred w' G' ∧ (∀ b, G' b → b < w'.heap.size ∧ (b < w.heap.size → G b)) ∧ Touch G w w') : COk w0 M H ((k, A') :: Γ) R w' := by
  obtain ⟨M', H', hL, hstep⟩ := h.step [k] (by simp) (L := [A]) (by simp [cgets, somes, hk]) (R0 := []) (by intro i A h; simp at h)
  obtain ⟨F0, hF⟩ := hL
  obtain ⟨G', h1, h2, h3⟩ := hs (F0 0) (hF.has 0 A rfl) (hF.lt 0)
  have hnew : LOk w M' H' [A'] [] w' := by
    refine ⟨fun i b => i = 0 ∧ G' b, ?_, ?_, ?_, ?_, ?_, ?_⟩
    · exact (hF.touch).trans h3 (fun x hx hg => hF.mine 0 x hg hx)
    · intro i B hi
      cases i with
      | zero =>
        simp at hi
        subst hi
        have : (fun b => (0 : Nat) = 0 ∧ G' b) = G' := by funext b; simp
        show A'.pred w' _
        rw [this]
        exact h1
      | succ i => simp at hi
    · rintro i b ⟨_, hb⟩; exact (h2 b hb).1
    · rintro i b ⟨_, hb⟩ hlt; exact hF.mine 0 b ((h2 b hb).2 hlt) hlt
    · rintro i j b ⟨rfl, _⟩ ⟨rfl, _⟩; rfl
    · intro i B hi; simp at hi
  exact (hstep [A'] [] [k] [] w' (by simp) rfl rfl hnew).1.congr (cget_swap Γ) (fun _ _ h => h)

theorem COk.new {k : Nat} {A' : Asn} (h : COk w0 M H Γ R w) (ht : Touch (fun _ => False) w w') (hs : ∃ G', A'.pred w' G' ∧ ∀ b, G' b → b < w'.heap.size ∧ w.heap.size ≤ b) : COk w0 M H ((k, A') :: Γ) R w' := by
  obtain ⟨M', H', hL, hstep⟩ := h.step [] (by simp) (L := []) rfl (R0 := []) (by intro i A h; simp at h)
  obtain ⟨F0, hF⟩ := hL
  obtain ⟨G', h1, h2⟩ := hs
  have hnew : LOk w M' H' [A'] [] w' := by
    refine ⟨fun i b => i = 0 ∧ G' b, ?_, ?_, ?_, ?_, ?_, ?_⟩
    · exact (hF.touch).trans ht (fun x hx hg => hg.elim)
    · intro i B hi
      cases i with
      | zero =>
        simp at hi
        subst hi
        have : (fun b => (0 : Nat) = 0 ∧ G' b) = G' := by funext b; simp
        show A'.pred w' _
        rw [this]
        exact h1
      | succ i => simp at hi
    · rintro i b ⟨_, hb⟩; exact (h2 b hb).1
    · rintro i b ⟨_, hb⟩ hlt; have := (h2 b hb).2; omega
    · rintro i j b ⟨rfl, _⟩ ⟨rfl, _⟩; rfl
    · intro i B hi; simp at hi
  exact (hstep [A'] [] [k] [] w' (by simp) rfl rfl hnew).1

theorem COk.stay (h : COk w0 M H Γ R w) (ht : Touch (fun _ => False) w w') : COk w0 M H Γ R w' := by
  obtain ⟨M', H', hL, hstep⟩ := h.step [] (by simp) (L := []) rfl (R0 := []) (by intro i A h; simp at h)
  obtain ⟨F0, hF⟩ := hL
  have hnew : LOk w M' H' [] [] w' := ⟨fun _ _ => False, (hF.touch).trans ht (fun x hx hg => hg.elim), fun i B hi => by simp at hi, fun _ _ h => h.elim, fun _ _ h => h.elim, fun _ _ _ h => h.elim, fun i B hi => by simp at hi⟩
  exact (hstep [] [] [] [] w' (by simp) rfl rfl hnew).1

theorem COk.reads {k : Nat} {A : Asn} (h : COk w0 M H Γ R w) (hk : cget Γ k = some A ∨ cget R k = some A) : ∃ G, A.pred w G ∧ ∀ b, G b → b < w.heap.size := by
  obtain ⟨F, hF⟩ := h
  rcases hk with hk | hk
  · exact ⟨F k, hF.has k A hk, hF.lt k⟩
  · obtain ⟨G, h1, h2⟩ := hF.ro k A hk
    exact ⟨G, h1, fun b hb => (h2 b hb).1⟩

/-- What is owned becomes what is read. -/
theorem COk.freeze {k r : Nat} {A A' : Asn} (h : COk w0 M H Γ R w) (hk : cget Γ k = some A) (hA : ∀ w G, A.pred w G → A'.pred w G) : COk w0 M H ((k, emp) :: Γ) ((r, A') :: R) w := by
  classical
  obtain ⟨F, hF⟩ := h
  refine ⟨fun j b => j ≠ k ∧ F j b, hF.touch, ?_, ?_, ?_, ?_, ?_⟩
  · intro j B hj
    simp only [cget] at hj
    cases hb : Nat.beq k j with
    | true =>
      rw [hb] at hj
      simp at hj
      subst hj
      have := Nat.eq_of_beq_eq_true hb
      subst this
      rintro b ⟨hne, _⟩
      exact hne rfl
    | false =>
      rw [hb] at hj
      have hne : j ≠ k := fun e => by subst e; simp at hb
      have : (fun b => j ≠ k ∧ F j b) = F j := by funext b; simp [hne]
      show B.pred w _
      rw [this]
      exact hF.has j B hj
  · rintro j b ⟨_, hb⟩; exact hF.lt j b hb
  · rintro j b ⟨_, hb⟩ hlt; exact hF.mine j b hb hlt
  · rintro i j b ⟨_, hi⟩ ⟨_, hj⟩; exact hF.apart i j b hi hj
  · intro j B hj
    simp only [cget] at hj
    cases hb : Nat.beq r j with
    | true =>
      rw [hb] at hj
      simp at hj
      subst hj
      refine ⟨F k, hA _ _ (hF.has k A hk), fun b hb => ⟨hF.lt k b hb, ?_, fun hlt => .inl (hF.mine k b hb hlt)⟩⟩
      rintro j ⟨hne, hj⟩
      exact hne (hF.apart j k b hj hb)
    | false =>
      rw [hb] at hj
      obtain ⟨G, h1, h2⟩ := hF.ro j B hj
      refine ⟨G, h1, fun b hb => ⟨(h2 b hb).1, ?_, (h2 b hb).2.2⟩⟩
      rintro i ⟨_, hi⟩
      exact (h2 b hb).2.1 i hi

/-- More that is read, out of what is read. -/
theorem COk.more {k r : Nat} {A A' : Asn} (h : COk w0 M H Γ R w) (hk : cget R k = some A) (hA : ∀ G, A.pred w G → (∀ b, G b → b < w.heap.size) → ∃ G', A'.pred w G' ∧ ∀ b, G' b → G b) : COk w0 M H Γ ((r, A') :: R) w := by
  obtain ⟨F, hF⟩ := h
  refine ⟨F, hF.touch, hF.has, hF.lt, hF.mine, hF.apart, fun j B hj => ?_⟩
  simp only [cget] at hj
  cases hb : Nat.beq r j with
  | true =>
    rw [hb] at hj
    simp at hj
    subst hj
    obtain ⟨G, h1, h2⟩ := hF.ro k A hk
    obtain ⟨G', h3, h4⟩ := hA G h1 (fun b hb => (h2 b hb).1)
    exact ⟨G', h3, fun b hb => h2 b (h4 b hb)⟩
  | false => rw [hb] at hj; exact hF.ro j B hj
/-- The nil slice can always be read. -/
theorem COk.nil {r : Nat} {α : Type} {s : Nat} {enc : α → List Value} (h : COk w0 M H Γ R w) : COk w0 M H Γ ((r, sl s enc (.slice none 0 0) []) :: R) w := by
  obtain ⟨F, hF⟩ := h
  refine ⟨F, hF.touch, hF.has, hF.lt, hF.mine, hF.apart, fun j B hj => ?_⟩
  simp only [cget] at hj
  cases hb : Nat.beq r j with
  | true =>
    rw [hb] at hj
    simp at hj
    subst hj
    exact ⟨fun _ => False, ⟨0, by simp, by simp, .inl ⟨rfl, fun x h => h, rfl⟩⟩, fun b hb => hb.elim⟩
  | false => rw [hb] at hj; exact hF.ro j B hj
end

/-! ### Reading cells -/
section
variable {P : Program} {N : Nat} {w0 : World} {M H : Nat → Prop} {E : Env} {Γ R : Ctx} {Q : Exit → Act → World → Prop}
variable {ops : Array Oper} {rest : List Oper} {T : TypeId} {ps : String} {af : Array Edge} {d : Nat} {op : Op}

/-- At A there are the cells us. -/
def Gives (w0 : World) (M H : Nat → Prop) (Γ R : Ctx) (b o : Nat) (us : List Value) : Prop := ∀ w, COk w0 M H Γ R w → ∀ (j : Nat) u, us[j]? = some u → w.cell? ⟨b, o + j, none⟩ = some u

theorem add_lit' (b o j : Nat) : (⟨b, o, none⟩ : Addr).add j = ⟨b, o + j, none⟩ := by unfold Addr.add; split <;> simp_all

theorem g_row {k b o : Nat} {S : TypeId} {c us : List Value} (hk : cget Γ k = some (row b S c)) (hu : (c.drop o).take us.length = us) : Gives w0 M H Γ R b o us := by
  intro w hC j u hj
  obtain ⟨G, ⟨_, h2⟩, _⟩ := hC.reads (.inl hk)
  rw [cell_of_row w b (o + j) _ S (0, 0) h2]
  rw [← hu, List.getElem?_take] at hj
  split at hj
  · simpa using hj
  · cases hj
theorem g_row1 {k b o : Nat} {S : TypeId} {c : List Value} {u : Value} (hk : cget Γ k = some (row b S c)) (hu : c[o]? = some u) : Gives w0 M H Γ R b o [u] := by
  intro w hC j u' hj
  obtain ⟨G, ⟨_, h2⟩, _⟩ := hC.reads (.inl hk)
  cases j with
  | zero => simp at hj; subst hj; rw [cell_of_row w b (o + 0) _ S (0, 0) h2]; simpa using hu
  | succ j => simp at hj
theorem g_arr1 {k b o n : Nat} {S : TypeId} {f : Nat → Value} (hk : cget Γ k = some (arr b S n f)) (ho : o < n) : Gives w0 M H Γ R b o [f o] := by
  intro w hC j u hj
  obtain ⟨G, ⟨_, h2⟩, _⟩ := hC.reads (.inl hk)
  cases j with
  | zero => simp at hj; subst hj; exact h2.cell ho
  | succ j => simp at hj
theorem g_arr {k b n : Nat} {S : TypeId} {f : Nat → Value} (hk : cget Γ k = some (arr b S n f)) : Gives w0 M H Γ R b 0 ((List.range n).map f) := by
  intro w hC j u hj
  obtain ⟨G, ⟨_, h2⟩, _⟩ := hC.reads (.inl hk)
  rw [List.getElem?_map] at hj
  have hjn : j < n := by
    rcases Nat.lt_or_ge j n with h | h
    · exact h
    · rw [List.getElem?_eq_none (by simpa using h)] at hj; cases hj
  rw [List.getElem?_range hjn] at hj
  simp at hj
  subst hj
  simpa using h2.cell hjn

theorem flatMap_at {α : Type} {s : Nat} {enc : α → List Value} (he : ∀ x, (enc x).length = s) : ∀ (l : List α) (i o : Nat) (x : α) (u : Value), l[i]? = some x → (enc x)[o]? = some u → (l.flatMap enc)[i * s + o]? = some u
  | [], i, o, x, u, hi, _ => by simp at hi
  | y :: l, 0, o, x, u, hi, hu => by
    simp at hi
    subst hi
    rw [List.flatMap_cons, List.getElem?_append_left (by have := (List.getElem?_eq_some_iff.1 hu).1; omega)]
    simpa using hu
  | y :: l, i + 1, o, x, u, hi, hu => by
    rw [List.flatMap_cons, List.getElem?_append_right (by rw [he]; rw [Nat.add_mul]; omega), he]
    have := flatMap_at he l i o x u (by simpa using hi) hu
    rw [show (i + 1) * s + o - s = i * s + o by rw [Nat.add_mul]; omega]
    exact this

/-- A slice that is owned or read. -/
def HasSl {α : Type} (Γ R : Ctx) (s : Nat) (enc : α → List Value) (v : Value) (l : List α) : Prop :=
  (∃ k T, cget Γ k = some (own T s enc v l)) ∨ ∃ k, cget R k = some (sl s enc v l)
theorem hs_own {α : Type} {k : Nat} {T : TypeId} {s : Nat} {enc : α → List Value} {v : Value} {l : List α} (h : cget Γ k = some (own T s enc v l)) : HasSl Γ R s enc v l := .inl ⟨k, T, h⟩
theorem hs_sl {α : Type} {k : Nat} {s : Nat} {enc : α → List Value} {v : Value} {l : List α} (h : cget R k = some (sl s enc v l)) : HasSl Γ R s enc v l := .inr ⟨k, h⟩
theorem HasSl.ok {α : Type} {s : Nat} {enc : α → List Value} {v : Value} {l : List α} (h : HasSl Γ R s enc v l) {w : World} (hC : COk w0 M H Γ R w) : ∃ G, SlOk w G s enc v l := by
  rcases h with ⟨k, T, hk⟩ | ⟨k, hk⟩
  · obtain ⟨G, h1, _⟩ := hC.reads (.inl hk)
    exact ⟨G, own_sl h1⟩
  · obtain ⟨G, h1, _⟩ := hC.reads (.inr hk)
    exact ⟨G, h1⟩
theorem HasSl.len {α : Type} {s : Nat} {enc : α → List Value} {v : Value} {l : List α} (h : HasSl Γ R s enc v l) {w : World} (hC : COk w0 M H Γ R w) : l.length ≤ maxLen := by
  obtain ⟨G, c, h1, h2, _⟩ := h.ok hC
  omega

/-- The element i, and a part of it. -/
theorem g_elp {α : Type} {s : Nat} {enc : α → List Value} {v : Value} {l : List α} (h : HasSl Γ R s enc v l) (he : ∀ x, (enc x).length = s) {i o : Nat} {x : α} (hx : l[i]? = some x) {us : List Value} (hu : ((enc x).drop o).take us.length = us) :
    Gives w0 M H Γ R (sblk v) (soff v + i * s + o) us := by
  intro w hC j u hj
  obtain ⟨G, c, h1, h2, h3⟩ := h.ok hC
  rcases h3 with ⟨rfl, _⟩ | ⟨b, o', rfl, _, hc⟩
  · simp at hx
  · simp only [sblk, soff]
    have hxu : (enc x)[o + j]? = some u := by
      rw [← hu, List.getElem?_take] at hj
      split at hj
      · simpa using hj
      · cases hj
    have := hc _ u (flatMap_at he l i (o + j) x u hx hxu)
    rwa [show o' + (i * s + (o + j)) = o' + i * s + o + j by omega] at this
theorem g_el {α : Type} {s : Nat} {enc : α → List Value} {v : Value} {l : List α} (h : HasSl Γ R s enc v l) (he : ∀ x, (enc x).length = s) {i : Nat} {x : α} (hx : l[i]? = some x) :
    Gives w0 M H Γ R (sblk v) (soff v + i * s) (enc x) := by
  have := g_elp (w0 := w0) (M := M) (H := H) h he (o := 0) hx (us := enc x) (by simp)
  simpa using this

theorem Gives.cells {b o : Nat} {us : List Value} (h : Gives w0 M H Γ R b o us) {w : World} (hC : COk w0 M H Γ R w) : (loadCells ⟨b, o, none⟩ us.length).run P w = .ok us.toArray w :=
  run_loadCells_list w _ us fun j v hj => by rw [add_lit']; exact h w hC j v hj

theorem r_load1 {S : TypeId} {D : TypeDesc} {z : Value} {s bb : Nat} {x : Operand} {b o : Nat} {u : Value} (ht : TI P S D z s bb) (hag : aggD D = false) (hx : ev E x = some (.pointer (some ⟨b, o, none⟩))) (hg : Gives w0 M H Γ R b o [u])
    (hd : Nat.blt d N = true) (k : At N w0 M H ((d, u) :: E) Γ R (wpList P ops Q rest)) : At N w0 M H E Γ R (wpList P ops Q (⟨some d, .load S x, T, ps, af, none⟩ :: rest)) :=
  r_gen (X := Unit) (fun _ => True) (fun _ => u) (fun _ => Γ) (fun _ => R) hd (fun a w hE hC => ⟨(), w, trivial, by
    have := hg w hC 0 u rfl
    simp only [Nat.add_zero] at this
    simp [execOp, hE.ev hx, Instr.loadAt, Instr.sureAddr, loadVar, ht.isAgg, hag, this], hC⟩) fun _ _ => k
theorem r_loadA {S : TypeId} {D : TypeDesc} {z : Value} {s bb : Nat} {x : Operand} {b o : Nat} {us : List Value} (ht : TI P S D z s bb) (hag : aggD D = true) (hx : ev E x = some (.pointer (some ⟨b, o, none⟩))) (hn : us.length = s) (hg : Gives w0 M H Γ R b o us)
    (hd : Nat.blt d N = true) (k : At N w0 M H ((d, .agg us.toArray) :: E) Γ R (wpList P ops Q rest)) : At N w0 M H E Γ R (wpList P ops Q (⟨some d, .load S x, T, ps, af, none⟩ :: rest)) :=
  r_gen (X := Unit) (fun _ => True) (fun _ => .agg us.toArray) (fun _ => Γ) (fun _ => R) hd (fun a w hE hC => ⟨(), w, trivial, by
    have := hg.cells (P := P) hC
    rw [hn] at this
    simp [execOp, hE.ev hx, Instr.loadAt, Instr.sureAddr, loadVar, ht.isAgg, hag, ht.sizeOf, this], hC⟩) fun _ _ => k

/-! ### New blocks -/
theorem row_alloc (w : World) (S : TypeId) (c : List Value) : (row w.heap.size S c).pred (w.alloc (.cells c.toArray S)) (· = w.heap.size) := ⟨fun x => Iff.rfl, heap_alloc_new w _⟩
theorem COk.alloc {k : Nat} {S : TypeId} {c : List Value} {w : World} (h : COk w0 M H Γ R w) : COk w0 M H ((k, row w.heap.size S c) :: Γ) R (w.alloc (.cells c.toArray S)) :=
  h.new (Touch.alloc _ _ _) ⟨_, row_alloc w S c, fun b hb => by subst hb; simp⟩
theorem r_alloc {S : TypeId} {D : TypeDesc} {z : Value} {s bb : Nat} {c : List Value} (ht : TI P S D z s bb) (hc : z.cells.toList = c) (hd : Nat.blt d N = true)
    (k : ∀ b, At N w0 M H ((d, .pointer (some ⟨b, 0, none⟩)) :: E) ((d, row b S c) :: Γ) R (wpList P ops Q rest)) : At N w0 M H E Γ R (wpList P ops Q (⟨some d, .alloc S, T, ps, af, none⟩ :: rest)) :=
  r_gen (X := Nat) (fun _ => True) (fun b => .pointer (some ⟨b, 0, none⟩)) (fun b => (d, row b S c) :: Γ) (fun _ => R) hd (fun a w hE hC => ⟨w.heap.size, w.alloc (.cells c.toArray S), trivial, by
    subst hc
    simp [execOp, Instr.alloc, ht.zero, newVar, newRow], hC.alloc⟩) fun b _ => k b
theorem r_box {S : TypeId} {x : Operand} {v : Value} {c : List Value} (hx : ev E x = some v) (hc : v.cells.toList = c) (hd : Nat.blt d N = true)
    (k : ∀ b, At N w0 M H ((d, .pointer (some ⟨b, 0, none⟩)) :: E) ((d, row b S c) :: Γ) R (wpList P ops Q rest)) : At N w0 M H E Γ R (wpList P ops Q (⟨some d, .box S x, T, ps, af, none⟩ :: rest)) :=
  r_gen (X := Nat) (fun _ => True) (fun b => .pointer (some ⟨b, 0, none⟩)) (fun b => (d, row b S c) :: Γ) (fun _ => R) hd (fun a w hE hC => ⟨w.heap.size, w.alloc (.cells c.toArray S), trivial, by
    subst hc
    simp [execOp, hE.ev hx, Instr.box, newVar, newRow], hC.alloc⟩) fun b _ => k b
theorem row_arr {b n : Nat} {S : TypeId} {c : List Value} {f : Nat → Value} (hn : c.length = n) (hf : ∀ i, i < n → c[i]? = some (f i)) {w : World} {F : Nat → Prop} (h : (row b S c).pred w F) : (arr b S n f).pred w F :=
  ⟨h.1, c.toArray, h.2, by simpa using hn, fun i hi => by simpa using hf i hi⟩
/-- An owned assertion is said otherwise. -/
theorem r_conva {k : Nat} {A A' : Asn} {Rel : Act → World → Prop} (hk : cget Γ k = some A) (hA : ∀ w G, A.pred w G → A'.pred w G) (h : At N w0 M H E ((k, A') :: Γ) R Rel) : At N w0 M H E Γ R Rel :=
  h.weak (fun _ h => h) fun w hC => hC.upd hk fun G hG hlt => ⟨G, hA w G hG, fun b hb => ⟨hlt b hb, fun _ => hb⟩, Touch.refl _ _⟩
theorem r_freeze (k r : Nat) {A A' : Asn} {Rel : Act → World → Prop} (hk : cget Γ k = some A) (hA : ∀ w G, A.pred w G → A'.pred w G) (h : At N w0 M H E ((k, emp) :: Γ) ((r, A') :: R) Rel) : At N w0 M H E Γ R Rel :=
  h.weak (fun _ h => h) fun w hC => hC.freeze hk hA
theorem r_nilsl (r : Nat) {α : Type} {s : Nat} {enc : α → List Value} {Rel : Act → World → Prop} (h : At N w0 M H E Γ ((r, sl s enc (.slice none 0 0) []) :: R) Rel) : At N w0 M H E Γ R Rel :=
  h.weak (fun _ h => h) fun w hC => hC.nil
theorem r_nilown (k : Nat) {α : Type} {S : TypeId} {s : Nat} {enc : α → List Value} {Rel : Act → World → Prop} (h : At N w0 M H E ((k, own S s enc (.slice none 0 0) []) :: Γ) R Rel) : At N w0 M H E Γ R Rel :=
  h.weak (fun _ h => h) fun w hC => hC.new (Touch.refl _ _) ⟨fun _ => False, ⟨fun x => by simp [Value.ownBlock], World.ownsRow_nil _ _ _ _⟩, fun b hb => hb.elim⟩
theorem r_more (k r : Nat) {A A' : Asn} {Rel : Act → World → Prop} (hk : cget R k = some A) (hA : ∀ w G, A.pred w G → (∀ b, G b → b < w.heap.size) → ∃ G', A'.pred w G' ∧ ∀ b, G' b → G b) (h : At N w0 M H E Γ ((r, A') :: R) Rel) : At N w0 M H E Γ R Rel :=
  h.weak (fun _ h => h) fun w hC => hC.more hk (hA w)

/-! ### Stores -/
theorem setRow_touch (w : World) (g : Nat) (cs : Array Value) : Touch (· = g) w (w.setRow g cs) := ⟨rfl, rfl, rfl, by simp, fun k _ hk => setRow_other w g k cs hk⟩
theorem r_store_gen {S : TypeId} {D : TypeDesc} {z : Value} {s bb : Nat} {x y : Operand} {b o : Nat} {v : Value} {A A' : Asn} {k : Nat} {us : List Value} (ht : TI P S D z s bb) (hx : ev E x = some (.pointer (some ⟨b, o, none⟩))) (hy : ev E y = some v)
    (hus : v.cells.toList = us) (hs : us.length = s) (h1 : us.all (·.oneCell') = true) (hk : cget Γ k = some A)
    (hA : ∀ w G, A.pred w G → ∃ cur S', w.heap[b]? = some (.cells cur S' (0, 0)) ∧ G b ∧ o + us.length ≤ cur.size ∧ A'.pred (w.setRow b (cur.toList.take o ++ us ++ cur.toList.drop (o + us.length)).toArray) G)
    (kk : At N w0 M H E ((k, A') :: Γ) R (wpList P ops Q rest)) : At N w0 M H E Γ R (wpList P ops Q (⟨none, .store S x y, T, ps, af, none⟩ :: rest)) := by
  intro a w hE hC
  obtain ⟨G0, hp, hlt⟩ := hC.reads (.inl hk)
  obtain ⟨cur, S', hb, _, hfit, _⟩ := hA w G0 hp
  have hst := run_storeCells_at P b o S' us 0 cur w hb (by simpa using hfit) (fun v hv => by simpa using List.all_eq_true.1 h1 v hv)
  simp only [Nat.add_zero] at hst
  have hC' : COk w0 M H ((k, A') :: Γ) R (w.setRow b (cur.toList.take o ++ us ++ cur.toList.drop (o + us.length)).toArray) :=
    hC.upd hk fun G hG hGlt => by
      obtain ⟨cur', S'', hb', hGb, hfit', hA'⟩ := hA w G hG
      rw [hb] at hb'
      injection hb' with hb'
      injection hb' with e1 e2
      subst e1
      exact ⟨G, hA', fun x hx => ⟨by simpa using hGlt x hx, fun _ => hx⟩, ⟨rfl, rfl, rfl, by simp, fun i _ hi => setRow_other w b i _ (fun e => hi (e ▸ hGb))⟩⟩
  unfold wpList
  rw [if_pos (by simp [Region.wanted])]
  left
  unfold Oper.wp
  have hrun : (execOp a.eval ⟨none, .store S x y, T, ps, af, none⟩).run P w = .ok .skip (w.setRow b (cur.toList.take o ++ us ++ cur.toList.drop (o + us.length)).toArray) := by
    have hsz : v.cells.size = s := by rw [← hs, ← hus]; simp
    simp [execOp, hE.ev hx, hE.ev hy, Instr.storeAt, Instr.sureAddr, storeVar, ht.sizeOf, hsz, hus, hst]
  rw [hrun]
  exact kk _ _ hE hC'
theorem row_put {b o : Nat} {S : TypeId} {c c' us : List Value} (hc : c.take o ++ us ++ c.drop (o + us.length) = c') (hfit : o + us.length ≤ c.length) : ∀ (w : World) (G : Nat → Prop), (row b S c).pred w G →
    ∃ cur S', w.heap[b]? = some (.cells cur S' (0, 0)) ∧ G b ∧ o + us.length ≤ cur.size ∧ (row b S c').pred (w.setRow b (cur.toList.take o ++ us ++ cur.toList.drop (o + us.length)).toArray) G := by
  rintro w G ⟨h1, h2⟩
  refine ⟨_, S, h2, (h1 b).2 rfl, by simpa using hfit, h1, ?_⟩
  rw [setRow_heap w b _ _ S (0, 0) h2, ← hc]
theorem r_store_row {S S' : TypeId} {D : TypeDesc} {z : Value} {s bb : Nat} {x y : Operand} {b o : Nat} {v : Value} {k : Nat} {c c' us : List Value} (ht : TI P S D z s bb) (hx : ev E x = some (.pointer (some ⟨b, o, none⟩))) (hy : ev E y = some v)
    (hus : v.cells.toList = us) (hs : us.length = s) (h1 : us.all (·.oneCell') = true) (hk : cget Γ k = some (row b S' c)) (hfit : Nat.ble (o + us.length) c.length = true) (hc : c.take o ++ us ++ c.drop (o + us.length) = c')
    (kk : At N w0 M H E ((k, row b S' c') :: Γ) R (wpList P ops Q rest)) : At N w0 M H E Γ R (wpList P ops Q (⟨none, .store S x y, T, ps, af, none⟩ :: rest)) :=
  r_store_gen ht hx hy hus hs h1 hk (row_put hc (by simpa using hfit)) kk
def fset (f : Nat → Value) (o : Nat) (u : Value) : Nat → Value := fun j => if j = o then u else f j
theorem arr_put {b o n : Nat} {S : TypeId} {f : Nat → Value} {u : Value} (ho : o < n) : ∀ (w : World) (G : Nat → Prop), (arr b S n f).pred w G →
    ∃ cur S', w.heap[b]? = some (.cells cur S' (0, 0)) ∧ G b ∧ o + [u].length ≤ cur.size ∧ (arr b S n (fset f o u)).pred (w.setRow b (cur.toList.take o ++ [u] ++ cur.toList.drop (o + [u].length)).toArray) G := by
  rintro w G ⟨h1, c, h2, h3, h4⟩
  refine ⟨c, S, h2, (h1 b).2 rfl, by simp; omega, h1, _, setRow_heap w b _ _ S (0, 0) h2, by simp; omega, fun i hi => ?_⟩
  have hci := h4 i hi
  have hco : o < c.toList.length := by simp; omega
  have e : (c.toList.take o ++ [u] ++ c.toList.drop (o + [u].length)) = c.toList.set o u := by
    rw [List.set_eq_take_append_cons_drop, if_pos hco]; simp
  rw [e]
  simp only [fset, List.getElem?_toArray, List.getElem?_set]
  by_cases hio : i = o
  · subst hio; simp; omega
  · rw [if_neg (fun h => hio h.symm), if_neg hio]; simpa using hci
theorem r_store_arr {S S' : TypeId} {D : TypeDesc} {z : Value} {s bb : Nat} {x y : Operand} {b o n : Nat} {v : Value} {k : Nat} {f : Nat → Value} (ht : TI P S D z s bb) (hx : ev E x = some (.pointer (some ⟨b, o, none⟩))) (hy : ev E y = some v)
    (h1 : v.oneCell' = true) (hs : s = 1) (hk : cget Γ k = some (arr b S' n f)) (ho : o < n)
    (kk : At N w0 M H E ((k, arr b S' n (fset f o v)) :: Γ) R (wpList P ops Q rest)) : At N w0 M H E Γ R (wpList P ops Q (⟨none, .store S x y, T, ps, af, none⟩ :: rest)) :=
  r_store_gen (us := [v]) ht hx hy (by cases v <;> first | rfl | simp [Value.oneCell'] at h1) (by simp [hs]) (by simp [h1]) hk (arr_put ho) kk

theorem flatMap_len {α : Type} {s : Nat} {enc : α → List Value} (he : ∀ x, (enc x).length = s) : ∀ (l : List α), (l.flatMap enc).length = l.length * s
  | [] => by simp
  | x :: l => by rw [List.flatMap_cons, List.length_append, he, flatMap_len he l, List.length_cons, Nat.add_mul]; omega
theorem flatMap_put {α : Type} {s : Nat} {enc : α → List Value} (he : ∀ x, (enc x).length = s) : ∀ (l : List α) (i o : Nat) (x x' : α) (us : List Value), l[i]? = some x → o + us.length ≤ s → (enc x).take o ++ us ++ (enc x).drop (o + us.length) = enc x' →
    (l.flatMap enc).take (i * s + o) ++ us ++ (l.flatMap enc).drop (i * s + o + us.length) = (l.set i x').flatMap enc
  | [], i, o, x, x', us, hi, _, _ => by simp at hi
  | y :: l, 0, o, x, x', us, hi, ho, hx => by
    simp at hi
    subst hi
    simp only [List.set_cons_zero, List.flatMap_cons, Nat.zero_mul, Nat.zero_add]
    rw [List.take_append_of_le_length (by rw [he]; omega), List.drop_append_of_le_length (by rw [he]; omega), ← hx]
    simp
  | y :: l, i + 1, o, x, x', us, hi, ho, hx => by
    simp only [List.set_cons_succ, List.flatMap_cons]
    rw [← flatMap_put he l i o x x' us (by simpa using hi) ho hx]
    have e1 : (i + 1) * s + o = (enc y).length + (i * s + o) := by rw [he, Nat.add_mul]; omega
    rw [e1, List.take_length_add_append, Nat.add_assoc, List.drop_length_add_append]
    simp [List.append_assoc]
theorem own_put {α : Type} {S : TypeId} {s : Nat} {enc : α → List Value} {v : Value} {l : List α} (he : ∀ x, (enc x).length = s) {i o : Nat} {x x' : α} {us : List Value} (hi : l[i]? = some x) (ho : o + us.length ≤ s) (hx : (enc x).take o ++ us ++ (enc x).drop (o + us.length) = enc x') :
    ∀ (w : World) (G : Nat → Prop), (own S s enc v l).pred w G → ∃ cur S', w.heap[sblk v]? = some (.cells cur S' (0, 0)) ∧ G (sblk v) ∧ soff v + i * s + o + us.length ≤ cur.size ∧
      (own S s enc v (l.set i x')).pred (w.setRow (sblk v) (cur.toList.take (soff v + i * s + o) ++ us ++ cur.toList.drop (soff v + i * s + o + us.length)).toArray) G := by
  rintro w G ⟨h1, h2⟩
  rcases h2.2 with ⟨rfl, hn⟩ | ⟨g, cap, cur, rfl, hbg, hg, hnc, hcm, hcs, htake⟩
  · have : l = [] := List.eq_nil_of_length_eq_zero hn
    subst this
    simp at hi
  · simp only [sblk, soff, Nat.zero_add]
    have hil : i < l.length := (List.getElem?_eq_some_iff.1 hi).1
    have hb1 : i * s + o + us.length ≤ l.length * s := by
      have : (i + 1) * s ≤ l.length * s := Nat.mul_le_mul_right s hil
      rw [Nat.add_mul] at this
      omega
    have hb2 : l.length * s ≤ cur.size := by rw [hcs]; exact Nat.mul_le_mul_right s hnc
    refine ⟨cur, S, hg, (h1 g).2 rfl, by omega, h1, ?_, .inr ⟨g, cap, _, by simp, hbg, setRow_heap w g _ _ S (0, 0) hg, by simpa using hnc, hcm, ?_, ?_⟩⟩
    · rw [flatMap_len he]
    · simp only [List.size_toArray, List.length_append, List.length_take, List.length_drop, Array.length_toList]
      omega
    · rw [← flatMap_put he l i o x x' us hi ho hx, ← htake]
      have hl : (cur.toList.take (l.length * s)).length = l.length * s := by rw [List.length_take]; simp; omega
      simp only [List.length_set]
      apply List.ext_getElem?
      intro j
      simp only [List.getElem?_append, List.getElem?_take, List.getElem?_drop, List.length_append, List.length_take, Array.length_toList]
      repeat' split
      all_goals (first | rfl | omega | (congr 1; omega) | skip)
theorem r_store_own {α : Type} {S S' : TypeId} {D : TypeDesc} {z : Value} {s n bb : Nat} {x y : Operand} {u v : Value} {k i o : Nat} {enc : α → List Value} {l : List α} {e e' : α} {us : List Value} (ht : TI P S D z n bb) (hx : ev E x = some (.pointer (some ⟨sblk v, soff v + i * s + o, none⟩))) (hy : ev E y = some u)
    (hus : u.cells.toList = us) (hs : us.length = n) (h1 : us.all (·.oneCell') = true) (hk : cget Γ k = some (own S' s enc v l)) (he : ∀ x, (enc x).length = s) (hi : l[i]? = some e) (ho : o + us.length ≤ s) (hx' : (enc e).take o ++ us ++ (enc e).drop (o + us.length) = enc e')
    (kk : At N w0 M H E ((k, own S' s enc v (l.set i e')) :: Γ) R (wpList P ops Q rest)) : At N w0 M H E Γ R (wpList P ops Q (⟨none, .store S x y, T, ps, af, none⟩ :: rest)) :=
  r_store_gen ht hx hy hus hs h1 hk (own_put he hi ho hx') kk

end
end Go.Proofs.Ytdcbbkpdlcojfaa
namespace Go.Proofs.Ytdcbbkpdlcojfaa
set_option linter.unusedSimpArgs false
set_option linter.unusedVariables false
open Go.RowKit

/-- Field i of the struct S begins at cell off. -/
structure FO (P : Program) (S : TypeId) (i off : Nat) : Prop where
  ex : ∃ fields f n, P.underlying S = some (.struct fields) ∧ fields[i]? = some f ∧ f.offset = off ∧ (P.info? f.type).map (·.size) = some (n + 1)

section
variable {P : Program} {N : Nat} {w0 : World} {M H : Nat → Prop} {E : Env} {Γ R : Ctx} {Q : Exit → Act → World → Prop}
variable {ops : Array Oper} {rest : List Oper} {T : TypeId} {ps : String} {af : Array Edge} {d : Nat} {op : Op}

theorem FO.run {S : TypeId} {i off : Nat} (h : FO P S i off) (b o : Nat) (w : World) : (Instr.fieldAt S (.pointer (some ⟨b, o, none⟩)) i).run P w = .ok (.pointer (some ⟨b, o + off, none⟩)) w := by
  obtain ⟨fields, f, n, h1, h2, h3, h4⟩ := h.ex
  have hs : (sizeOf f.type).run P w = .ok (n + 1) w := by
    cases hi : P.info? f.type with
    | none => rw [hi] at h4; simp at h4
    | some t => rw [hi] at h4; simp at h4; simp [sizeOf, typeInfo, hi, h4]
  simp [Instr.fieldAt, run_underlying h1, h2, Instr.sureAddr, fieldPlace, hs, add_lit', h3]
theorem r_field0 {S : TypeId} {i off : Nat} {x : Operand} {b : Nat} (hf : FO P S i off) (hx : ev E x = some (.pointer (some ⟨b, 0, none⟩))) (hd : Nat.blt d N = true) (k : At N w0 M H ((d, .pointer (some ⟨b, off, none⟩)) :: E) Γ R (wpList P ops Q rest)) :
    At N w0 M H E Γ R (wpList P ops Q (⟨some d, .fieldAddr S x i, T, ps, af, none⟩ :: rest)) := r_pure hd (fun a w hE => by simp [execOp, hE.ev hx, hf.run]) k
theorem r_field {S : TypeId} {i off : Nat} {x : Operand} {b o : Nat} (hf : FO P S i off) (hx : ev E x = some (.pointer (some ⟨b, o, none⟩))) (hd : Nat.blt d N = true) (k : At N w0 M H ((d, .pointer (some ⟨b, o + off, none⟩)) :: E) Γ R (wpList P ops Q rest)) :
    At N w0 M H E Γ R (wpList P ops Q (⟨some d, .fieldAddr S x i, T, ps, af, none⟩ :: rest)) := r_pure hd (fun a w hE => by simp [execOp, hE.ev hx, hf.run]) k

theorem r_idx_arr {S U : TypeId} {D : TypeDesc} {z : Value} {s bb n b o j : Nat} {x y : Operand} {k : IntKind} {i : Int} (hS : P.underlying S = some (.array n U)) (hU : TI P U D z s bb) (hx : ev E x = some (.pointer (some ⟨b, o, none⟩))) (hy : ev E y = some (.int k i)) (hi : i = (j : Int)) (hj : j < n)
    (hd : Nat.blt d N = true) (kk : At N w0 M H ((d, .pointer (some ⟨b, o + j * s, none⟩)) :: E) Γ R (wpList P ops Q rest)) : At N w0 M H E Γ R (wpList P ops Q (⟨some d, .indexAddr S x y, T, ps, af, none⟩ :: rest)) :=
  r_pure hd (fun a w hE => by subst hi; simp [execOp, hE.ev hx, hE.ev hy, Instr.indexAt, asIntOf, run_underlying hS, Instr.sureAddr, hU.sizeOf, add_lit', hj]) kk
theorem r_idx_arr1 {S U : TypeId} {D : TypeDesc} {z : Value} {bb n b j : Nat} {x y : Operand} {k : IntKind} {i : Int} (hS : P.underlying S = some (.array n U)) (hU : TI P U D z 1 bb) (hx : ev E x = some (.pointer (some ⟨b, 0, none⟩))) (hy : ev E y = some (.int k i)) (hi : i = (j : Int)) (hj : j < n)
    (hd : Nat.blt d N = true) (kk : At N w0 M H ((d, .pointer (some ⟨b, j, none⟩)) :: E) Γ R (wpList P ops Q rest)) : At N w0 M H E Γ R (wpList P ops Q (⟨some d, .indexAddr S x y, T, ps, af, none⟩ :: rest)) :=
  r_pure hd (fun a w hE => by subst hi; simp [execOp, hE.ev hx, hE.ev hy, Instr.indexAt, asIntOf, run_underlying hS, Instr.sureAddr, hU.sizeOf, add_lit', hj]) kk
theorem r_idx_sl {α : Type} {S U : TypeId} {D : TypeDesc} {z : Value} {s bb j : Nat} {x y : Operand} {k : IntKind} {i : Int} {enc : α → List Value} {v : Value} {l : List α} (hS : P.underlying S = some (.slice U)) (hU : TI P U D z s bb) (hx : ev E x = some v) (hy : ev E y = some (.int k i)) (hs : HasSl Γ R s enc v l) (hi : i = (j : Int)) (hj : j < l.length)
    (hd : Nat.blt d N = true) (kk : At N w0 M H ((d, .pointer (some ⟨sblk v, soff v + j * s, none⟩)) :: E) Γ R (wpList P ops Q rest)) : At N w0 M H E Γ R (wpList P ops Q (⟨some d, .indexAddr S x y, T, ps, af, none⟩ :: rest)) :=
  r_gen (X := Unit) (fun _ => True) (fun _ => .pointer (some ⟨sblk v, soff v + j * s, none⟩)) (fun _ => Γ) (fun _ => R) hd (fun a w hE hC => ⟨(), w, trivial, by
    obtain ⟨G, c, h1, h2, h3⟩ := hs.ok hC
    rcases h3 with ⟨rfl, _⟩ | ⟨b, o, rfl, _, _⟩
    · simp at hj
    · subst hi
      simp [execOp, hE.ev hx, hE.ev hy, Instr.indexAt, asIntOf, run_underlying hS, hU.sizeOf, add_lit', hj, sblk, soff], hC⟩) fun _ _ => kk
theorem r_len_sl {α : Type} {S U : TypeId} {s : Nat} {x : Operand} {enc : α → List Value} {v : Value} {l : List α} (hS : P.underlying S = some (.slice U)) (hx : ev E x = some v) (hs : HasSl Γ R s enc v l)
    (hd : Nat.blt d N = true) (kk : At N w0 M H ((d, .int .i64 (l.length : Int)) :: E) Γ R (wpList P ops Q rest)) : At N w0 M H E Γ R (wpList P ops Q (⟨some d, .call { callee := .builtin .len, args := #[x], argTypes := #[S] }, T, ps, af, none⟩ :: rest)) :=
  r_gen (X := Unit) (fun _ => True) (fun _ => .int .i64 (l.length : Int)) (fun _ => Γ) (fun _ => R) hd (fun a w hE hC => ⟨(), w, trivial, by
    obtain ⟨G, c, h1, h2, h3⟩ := hs.ok hC
    rcases h3 with ⟨rfl, _, rfl⟩ | ⟨b, o, rfl, _, _⟩
    · simp [execOp, resolve, invoke, builtin, hE.ev hx, Builtin.len_, run_underlying hS, goInt]
    · simp [execOp, resolve, invoke, builtin, hE.ev hx, Builtin.len_, run_underlying hS, goInt], hC⟩) fun _ _ => kk
theorem r_len_str {S : TypeId} {x : Operand} {s : ByteArray} (hS : P.underlying S = some .string) (hx : ev E x = some (.string s))
    (hd : Nat.blt d N = true) (kk : At N w0 M H ((d, .int .i64 (s.size : Int)) :: E) Γ R (wpList P ops Q rest)) : At N w0 M H E Γ R (wpList P ops Q (⟨some d, .call { callee := .builtin .len, args := #[x], argTypes := #[S] }, T, ps, af, none⟩ :: rest)) :=
  r_pure hd (fun a w hE => by simp [execOp, resolve, invoke, builtin, hE.ev hx, Builtin.len_, run_underlying hS, goInt]) kk
theorem r_min {x y : Operand} {k : IntKind} {m n c : Int} {at_ : Array TypeId} (hx : ev E x = some (.int k m)) (hy : ev E y = some (.int k n)) (hc : min m n = c) (hd : Nat.blt d N = true) (kk : At N w0 M H ((d, .int k c) :: E) Γ R (wpList P ops Q rest)) :
    At N w0 M H E Γ R (wpList P ops Q (⟨some d, .call { callee := .builtin .min, args := #[x, y], argTypes := at_ }, T, ps, af, none⟩ :: rest)) :=
  r_pure hd (fun a w hE => by
    have : (if n < m then n else m) = c := by rw [← hc]; split <;> omega
    simp [execOp, resolve, invoke, builtin, hE.ev hx, hE.ev hy, Builtin.min_, Builtin.min2, this]) kk
theorem r_max {x y : Operand} {k : IntKind} {m n c : Int} {at_ : Array TypeId} (hx : ev E x = some (.int k m)) (hy : ev E y = some (.int k n)) (hc : max m n = c) (hd : Nat.blt d N = true) (kk : At N w0 M H ((d, .int k c) :: E) Γ R (wpList P ops Q rest)) :
    At N w0 M H E Γ R (wpList P ops Q (⟨some d, .call { callee := .builtin .max, args := #[x, y], argTypes := at_ }, T, ps, af, none⟩ :: rest)) :=
  r_pure hd (fun a w hE => by
    have : (if n > m then n else m) = c := by rw [← hc]; split <;> omega
    simp [execOp, resolve, invoke, builtin, hE.ev hx, hE.ev hy, Builtin.max_, Builtin.max2, this]) kk

/-! ### Values that are aggregates -/
theorem run_part1 {S : TypeId} {D : TypeDesc} {z : Value} {s bb o : Nat} {cs : Array Value} {u : Value} (ht : TI P S D z s bb) (hag : aggD D = false) (hu : cs[o]? = some u) (w : World) : (part S cs o).run P w = .ok u w := by
  simp [part, ht.isAgg, hag, hu]
theorem run_partA {S : TypeId} {D : TypeDesc} {z : Value} {s bb o : Nat} {cs us : Array Value} (ht : TI P S D z s bb) (hag : aggD D = true) (hu : cs.extract o (o + s) = us) (w : World) : (part S cs o).run P w = .ok (.agg us) w := by
  simp [part, ht.isAgg, hag, ht.sizeOf, hu]
/-- Field i of the struct S, of type U, begins at cell off. -/
def FT (P : Program) (S : TypeId) (i off : Nat) (U : TypeId) : Prop := ∃ fields f, P.underlying S = some (.struct fields) ∧ fields[i]? = some f ∧ f.offset = off ∧ f.type = U
theorem r_vfield {S U : TypeId} {D : TypeDesc} {z : Value} {i off s bb : Nat} {x : Operand} {cs : Array Value} {u : Value} (hf : FT P S i off U) (ht : TI P U D z s bb) (hx : ev E x = some (.agg cs)) (hu : (bif aggD D then some (.agg (cs.extract off (off + s))) else cs[off]?) = some u)
    (hd : Nat.blt d N = true) (kk : At N w0 M H ((d, u) :: E) Γ R (wpList P ops Q rest)) : At N w0 M H E Γ R (wpList P ops Q (⟨some d, .field S x i, T, ps, af, none⟩ :: rest)) :=
  r_pure hd (fun a w hE => by
    obtain ⟨fields, f, h1, h2, h3, h4⟩ := hf
    subst h4
    cases hag : aggD D with
    | true => rw [hag] at hu; simp at hu; simp [execOp, hE.ev hx, Instr.field, run_underlying h1, h2, asAgg, h3, run_partA ht hag rfl, hu]
    | false => rw [hag] at hu; simp at hu; simp [execOp, hE.ev hx, Instr.field, run_underlying h1, h2, asAgg, h3, run_part1 ht hag hu]) kk
theorem r_vindex {S U : TypeId} {D : TypeDesc} {z : Value} {n s bb j : Nat} {x y : Operand} {k : IntKind} {i : Int} {cs : Array Value} {u : Value} (hS : P.underlying S = some (.array n U)) (ht : TI P U D z s bb) (hx : ev E x = some (.agg cs)) (hy : ev E y = some (.int k i)) (hi : i = (j : Int)) (hj : j < n)
    (hu : (bif aggD D then some (.agg (cs.extract (j * s) (j * s + s))) else cs[j * s]?) = some u)
    (hd : Nat.blt d N = true) (kk : At N w0 M H ((d, u) :: E) Γ R (wpList P ops Q rest)) : At N w0 M H E Γ R (wpList P ops Q (⟨some d, .index S x y, T, ps, af, none⟩ :: rest)) :=
  r_pure hd (fun a w hE => by
    subst hi
    cases hag : aggD D with
    | true => rw [hag] at hu; simp at hu; simp [execOp, hE.ev hx, hE.ev hy, Instr.index, asIntOf, run_underlying hS, hj, ht.sizeOf, run_partA ht hag rfl, hu]
    | false => rw [hag] at hu; simp at hu; simp [execOp, hE.ev hx, hE.ev hy, Instr.index, asIntOf, run_underlying hS, hj, ht.sizeOf, run_part1 ht hag hu]) kk
/-- The places of the fields of a struct. -/
def PL (P : Program) (S : TypeId) (places : List (Nat × Nat)) : Prop := ∃ fields, P.underlying S = some (.struct fields) ∧ fields.toList.mapM (fun f => (P.info? f.type).map fun i => (f.offset, i.size)) = some places
def evps (E : Env) : List (Nat × Operand) → Option (List (Nat × Value))
  | [] => some []
  | (i, x) :: r => match ev E x, evps E r with
    | some v, some vs => some ((i, v) :: vs)
    | _, _ => none
theorem EOk.evps {a : Act} (h : EOk N E a) : ∀ {xs : List (Nat × Operand)} {vs : List (Nat × Value)}, Ytdcbbkpdlcojfaa.evps E xs = some vs → xs.map (fun p => (p.1, a.eval p.2)) = vs
  | [], vs, e => by simp [Ytdcbbkpdlcojfaa.evps] at e; simp [e]
  | (i, x) :: r, vs, e => by
    simp only [Ytdcbbkpdlcojfaa.evps] at e
    cases hx : Ytdcbbkpdlcojfaa.ev E x with
    | none => simp [hx] at e
    | some v =>
      cases hr : Ytdcbbkpdlcojfaa.evps E r with
      | none => simp [hx, hr] at e
      | some us =>
        simp [hx, hr] at e
        subst e
        simp [h.ev hx, EOk.evps h hr]
theorem r_build {S : TypeId} {D : TypeDesc} {z : Value} {s bb : Nat} {places : List (Nat × Nat)} {parts : List (Nat × Operand)} {vs : List (Nat × Value)} {cs : Array Value} (ht : TI P S D z s bb) (hp : PL P S places) (hv : evps E parts = some vs) (hf : Instr.fill (fun i => places[i]?) z.cells vs = some cs)
    (hd : Nat.blt d N = true) (kk : At N w0 M H ((d, .agg cs) :: E) Γ R (wpList P ops Q rest)) : At N w0 M H E Γ R (wpList P ops Q (⟨some d, .build S parts.toArray, T, ps, af, none⟩ :: rest)) :=
  r_pure hd (fun a w hE => by
    obtain ⟨fields, h1, h2⟩ := hp
    obtain ⟨i, h3, h4, _, _⟩ := ht.info
    have hb : P.built S vs = some cs := by
      simp only [Program.built, h3, h1, h4, h2]
      simpa using hf
    have := run_build (P := P) w S vs.toArray cs (by simpa using hb)
    have hev := hE.evps hv
    simp [execOp, hev, this]) kk
theorem r_buildA {S U : TypeId} {D DU : TypeDesc} {z zu : Value} {n s bb su bu : Nat} {parts : List (Nat × Operand)} {vs : List (Nat × Value)} {cs : Array Value} (ht : TI P S (.array n U) z s bb) (hU : TI P U DU zu su bu) (hv : evps E parts = some vs) (hf : Instr.fill (fun i => some (i * su, su)) z.cells vs = some cs)
    (hd : Nat.blt d N = true) (kk : At N w0 M H ((d, .agg cs) :: E) Γ R (wpList P ops Q rest)) : At N w0 M H E Γ R (wpList P ops Q (⟨some d, .build S parts.toArray, T, ps, af, none⟩ :: rest)) :=
  r_pure hd (fun a w hE => by
    obtain ⟨i, h3, h4, _, _⟩ := ht.info
    obtain ⟨iu, h5, h6, h7, _⟩ := hU.info
    have hb : P.built S vs = some cs := by
      simp only [Program.built, h3, ht.und, h4, h5, h7]
      exact hf
    have := run_build (P := P) w S vs.toArray cs (by simpa using hb)
    have hev := hE.evps hv
    simp [execOp, hev, this]) kk

/-! ### Slices of the call's own -/
theorem own_new {α : Type} {S : TypeId} {s : Nat} {enc : α → List Value} {l : List α} {w : World} {cap : Nat} {cur : Array Value} (he : (l.flatMap enc).length = l.length * s) (hc : cur.size = cap * s) (hlc : l.length ≤ cap) (hm : cap ≤ maxLen) (ht : cur.toList.take (l.length * s) = l.flatMap enc) :
    (own S s enc (.slice (some ⟨w.heap.size, 0, none⟩) l.length cap) l).pred (w.alloc (.cells cur S)) (· = w.heap.size) :=
  ⟨fun x => by simp [Value.ownBlock, eq_comm], he, .inr ⟨w.heap.size, cap, cur, rfl, Nat.zero_le _, heap_alloc_new w _, hlc, hm, hc, ht⟩⟩
theorem fill_one {s : Nat} {v : Value} {zs : Array Value} (hv : v.cells.size = s) (hz : zs.size = s) : Instr.fill (fun i => some (i * s, s)) zs [(0, v)] = some v.cells := by
  have h : ∀ (l : List Value) (k : Nat) (cs : Array Value), k + l.length = cs.size → (l.zipIdx k).foldl (fun cs (p : Value × Nat) => cs.setIfInBounds (0 + p.2) p.1) cs = (cs.toList.take k ++ l).toArray := by
    intro l
    induction l with
    | nil => intro k cs hk; simp at hk; subst hk; simp only [List.zipIdx_nil, List.foldl_nil, List.append_nil]; rw [List.take_of_length_le (by simp)]
    | cons u l ih =>
      intro k cs hk
      simp only [List.zipIdx_cons, List.foldl_cons, Nat.zero_add]
      have h2 := ih (k + 1) (cs.setIfInBounds k u) (by simp at hk ⊢; omega)
      simp only [Nat.zero_add] at h2
      rw [h2]
      congr 1
      have hlt : k < cs.toList.length := by rw [Array.length_toList]; simp at hk; omega
      simp [List.take_set, List.take_succ_eq_append_getElem hlt]
      rw [List.set_append_right _ _ (by simp; omega)]
      have hmin : k - (List.take k cs.toList).length = 0 := by rw [List.length_take]; omega
      rw [hmin]
      simp
  simp only [Instr.fill]
  rw [if_neg (by simp [hv, hz])]
  have h2 := h v.cells.toList 0 zs (by simp [hv, hz])
  simp only [List.take_zero, List.nil_append, Array.toArray_toList] at h2
  congr 1
  rw [← Array.foldl_toList, Array.toList_zipIdx, Nat.zero_mul]
  exact h2
theorem r_bslice1 {α : Type} {S U : TypeId} {D : TypeDesc} {z : Value} {s bb : Nat} (enc : α → List Value) (e : α) {x : Operand} {v : Value} (hS : P.underlying S = some (.slice U)) (hU : TI P U D z s bb) (hs : z.cells.size = s) (hs0 : 0 < s) (hsb : s ≤ 1000000) (hx : ev E x = some v) (hv : v.cells.toList = enc e) (he : (enc e).length = s)
    (hd : Nat.blt d N = true) (k : ∀ v' : SV, At N w0 M H ((d, sv v') :: E) ((d, own U s enc (sv v') [e]) :: Γ) R (wpList P ops Q rest)) : At N w0 M H E Γ R (wpList P ops Q (⟨some d, .buildSlice S 1 #[(0, x)], T, ps, af, none⟩ :: rest)) :=
  r_gen (X := SV) (fun _ => True) (fun v' => sv v') (fun v' => (d, own U s enc (sv v') [e]) :: Γ) (fun _ => R) hd (fun a w hE hC => ⟨⟨some ⟨w.heap.size, 0, none⟩, 1, 1⟩, w.alloc (.cells v.cells U), trivial, by
    have hvs : v.cells.size = s := by rw [← he, ← hv]; simp
    have h0 : ¬ s = 0 := by omega
    have hzz : ((Array.range (1 * s)).map (z.cells[· % z.cells.size]!)).size = s := by simp
    have hf := fill_one (s := s) (v := v) hvs hzz
    simp only [Nat.one_mul] at hf
    have hb : ¬ 16777216 < s := by omega
    simp [execOp, hE.ev hx, Instr.buildSlice, run_underlying hS, hU.sizeOf, hU.zero, newRow, h0, hb, hf, sv], by
    have hvs : v.cells.size = s := by rw [← he, ← hv]; simp
    refine hC.new (Touch.alloc _ _ _) ⟨_, own_new (S := U) (s := s) (enc := enc) (l := [e]) (cap := 1) (by simpa using he) (by simpa using hvs) (by simp) (by simp [maxLen]) (by simp [hv]; rw [← he]; exact List.take_of_length_le (Nat.le_refl _)), fun b hb => by subst hb; simp⟩⟩) fun v' _ => k v'
theorem r_bslice0 {α : Type} {S U : TypeId} {D : TypeDesc} {z : Value} {s bb : Nat} (enc : α → List Value) (hS : P.underlying S = some (.slice U)) (hU : TI P U D z s bb)
    (hd : Nat.blt d N = true) (k : ∀ v' : SV, At N w0 M H ((d, sv v') :: E) ((d, own U s enc (sv v') []) :: Γ) R (wpList P ops Q rest)) : At N w0 M H E Γ R (wpList P ops Q (⟨some d, .buildSlice S 0 #[], T, ps, af, none⟩ :: rest)) :=
  r_gen (X := SV) (fun _ => True) (fun v' => sv v') (fun v' => (d, own U s enc (sv v') []) :: Γ) (fun _ => R) hd (fun a w hE hC => ⟨⟨some ⟨w.heap.size, 0, none⟩, 0, 0⟩, w.alloc (.cells #[] U), trivial, by
    simp [execOp, Instr.buildSlice, run_underlying hS, hU.sizeOf, newRow, Instr.fill, Array.range_zero', sv],
    hC.new (Touch.alloc _ _ _) ⟨_, own_new (S := U) (s := s) (enc := enc) (l := []) (cap := 0) (by simp) (by simp) (by simp) (by simp) (by simp), fun b hb => by subst hb; simp⟩⟩) fun v' _ => k v'

theorem r_append {α : Type} {S U : TypeId} {D : TypeDesc} {z : Value} {s bb : Nat} {enc : α → List Value} {x y : Operand} {v v2 : Value} {l l2 : List α} (k : Nat) (hS : P.underlying S = some (.slice U)) (hU : TI P U D z s bb) (hzs : z.cells.size = s) (hs0 : 0 < s) (he : ∀ x, (enc x).length = s) (h1 : ∀ x, (enc x).all (·.oneCell') = true)
    (hx : ev E x = some v) (hy : ev E y = some v2) (hk : cget Γ k = some (own U s enc v l)) (h2 : HasSl Γ R s enc v2 l2) (hm : (l.length + l2.length) * bb ≤ 140737488355328) (hm' : l.length + l2.length ≤ maxLen)
    (hd : Nat.blt d N = true) (kk : ∀ v' : SV, At N w0 M H ((d, sv v') :: E) ((k, own U s enc (sv v') (l ++ l2)) :: Γ) R (wpList P ops Q rest)) : At N w0 M H E Γ R (wpList P ops Q (⟨some d, .call { callee := .builtin .append, args := #[x, y], argTypes := #[S, S] }, T, ps, af, none⟩ :: rest)) := by
  refine r_gen (X := SV) (fun _ => True) (fun v' => sv v') (fun v' => (k, own U s enc (sv v') (l ++ l2)) :: Γ) (fun _ => R) hd (fun a w hE hC => ?_) fun v' _ => kk v'
  obtain ⟨G0, hp0, hlt0⟩ := hC.reads (.inl hk)
  obtain ⟨G2, c, h3, h4, h5⟩ := h2.ok hC
  obtain ⟨i, i1, i2, i3, i4⟩ := hU.info
  have hfl : ∀ l' : List α, (l'.flatMap enc).length = l'.length * s := flatMap_len he
  rcases h5 with ⟨rfl, _, rfl⟩ | ⟨b2, o2, rfl, _, hc2⟩
  · obtain ⟨xv, rfl⟩ := ownsRow_sv hp0.2
    refine ⟨xv, w, trivial, ?_, ?_⟩
    · have hr := run_append_owned_none (P := P) w 0 S T U i s hS i1 (sv xv) l.length _ hp0.2
      simp [execOp, resolve, invoke, builtin, hE.ev hx, hE.ev hy, hr]
    · simp only [List.append_nil]
      exact hC.upd hk fun G hG hGlt => ⟨G, hG, fun b hb => ⟨hGlt b hb, fun _ => hb⟩, Touch.refl _ _⟩
  · obtain ⟨v', w', hr, ho, hg, hn⟩ := run_append_own (P := P) w 0 S T U i z s bb hS i1 i2 i3 i4 hzs hs0 v l.length _ hp0.2 ⟨b2, o2, none⟩ l2.length c (l2.flatMap enc) (hfl l2)
      (fun j u hj => by rw [add_lit']; exact hc2 j u hj) (fun u hu => by obtain ⟨x, _, hxu⟩ := List.mem_flatMap.1 hu; simpa using List.all_eq_true.1 (h1 x) u hxu) hm' hm (Nat.zero_le _)
    obtain ⟨xv, rfl⟩ := ownsRow_sv ho
    refine ⟨xv, w', trivial, ?_, ?_⟩
    · simp [execOp, resolve, invoke, builtin, hE.ev hx, hE.ev hy, hr]
    · refine hC.upd hk fun G hG hGlt => ⟨fun b => (sv xv).ownBlock = some b, ⟨fun x => Iff.rfl, ?_⟩, fun b hb => ⟨(ho.lt b hb).2, fun hlt => ?_⟩, ⟨hg.os, hg.tape, hg.output, hg.size, fun i hi hne => hg.block i hi (fun e => hne ((hG.1 i).2 e.symm))⟩⟩
      · rw [List.length_append, List.flatMap_append]; exact ho
      · rcases hp0.2.2 with ⟨rfl, hl0⟩ | ⟨g, cap, cur, rfl, hbg, hgg, hnc, hcm, hcs, htake⟩
        · exfalso
          have hl : l = [] := List.eq_nil_of_length_eq_zero hl0
          subst hl
          by_cases hz : l2.length = 0
          · have hl2 : l2 = [] := List.eq_nil_of_length_eq_zero hz
            subst hl2
            have := (hn.2 ⟨rfl, rfl⟩)
            rw [this] at hb
            simp [Value.ownBlock] at hb
          · have hr2 := run_append_nil (P := P) w S T U i z hS i1 i2 ⟨b2, o2, none⟩ l2.length c (l2.flatMap enc) (by rw [hfl, i3]) (fun j u hj => by rw [add_lit']; exact hc2 j u hj) (by simpa using Nat.pos_of_ne_zero hz) (by simp only [maxLen] at hm'; simp at hm'; omega) (by rw [i4]; simp at hm; omega)
            rw [hr2] at hr
            injection hr with hr3 hr4
            replace hb : (sv xv).ownBlock = some b := hb
            rw [← hr3] at hb
            simp [Value.ownBlock] at hb
            omega
        · by_cases hroom : l.length + l2.length ≤ cap
          · have hfit : l.length * i.size + (l2.flatMap enc).length ≤ cur.size := by rw [hfl, hcs, i3, ← Nat.add_mul]; exact Nat.mul_le_mul_right _ hroom
            have hr2 := run_append_room (P := P) w S T U i hS i1 g l.length cap cur hgg ⟨b2, o2, none⟩ l2.length c (l2.flatMap enc) (by rw [hfl, i3]) (fun j u hj => by rw [add_lit']; exact hc2 j u hj) (fun u hu => by obtain ⟨x, _, hxu⟩ := List.mem_flatMap.1 hu; simpa using List.all_eq_true.1 (h1 x) u hxu) hroom hfit
            rw [hr2] at hr
            injection hr with hr3 hr4
            replace hb : (sv xv).ownBlock = some b := hb
            rw [← hr3] at hb
            simp [Value.ownBlock] at hb
            subst hb
            exact (hG.1 g).2 rfl
          · exfalso
            have holds := hp0.2.cells (g := g) rfl
            have hr2 := run_append_grow (P := P) w S T U i z hS i1 i2 ⟨g, 0, none⟩ l.length cap (l.flatMap enc) (by rw [hfl, i3]) holds ⟨b2, o2, none⟩ l2.length c (l2.flatMap enc) (by rw [hfl, i3]) (fun j u hj => by rw [add_lit']; exact hc2 j u hj) (by omega) (by simp only [maxLen] at hm'; omega) (growslice_fits (by omega) (by rw [i4]; exact hm))
            rw [hr2] at hr
            injection hr with hr3 hr4
            replace hb : (sv xv).ownBlock = some b := hb
            rw [← hr3] at hb
            simp [Value.ownBlock] at hb
            omega

end
end Go.Proofs.Ytdcbbkpdlcojfaa
namespace Go.Proofs.Ytdcbbkpdlcojfaa
set_option linter.unusedSimpArgs false
set_option linter.unusedVariables false
open Go.RowKit

/-- Function n can be called. -/
def Cb (P : Program) (n : Nat) : Prop := ∃ fn, P.funcs[n]? = some fn ∧ (fn.name == "runtime.NumGoroutine") = false ∧ fn.body.isNone = false
/-- A contract: what function n gives, when it owns L and reads R0. -/
def Spec (P : Program) (n : Nat) (vs : List Value) (L R0 : List Asn) {X : Type} (φ : X → Prop) (v : X → Value) (L' R' : X → List Asn) : Prop :=
  ∀ w M H, LOk w M H L R0 w → Calls P n vs.toArray w (Ret w M H φ v L' R')

def lgets (Γ R : Ctx) : List (Bool × Nat) → List (Option Asn)
  | [] => []
  | (true, k) :: r => cget Γ k :: lgets Γ R r
  | (false, k) :: r => cget R k :: lgets Γ R r
theorem lgets_get : ∀ (Γ R : Ctx) (ks : List (Bool × Nat)) (L : List Asn) (i : Nat) (A : Asn), lgets Γ R ks = somes L → L[i]? = some A → ∃ p, p ∈ ks ∧ (match p with | (true, k) => cget Γ k = some A | (false, k) => cget R k = some A)
  | Γ, R, [], [], i, A, _, h => by simp at h
  | Γ, R, (true, k) :: ks, B :: L, i, A, h, hi => by
    simp only [lgets, somes, List.cons.injEq] at h
    cases i with
    | zero => simp at hi; subst hi; exact ⟨(true, k), by simp, h.1⟩
    | succ i => obtain ⟨p, hp, hq⟩ := lgets_get Γ R ks L i A h.2 (by simpa using hi); exact ⟨p, by simp [hp], hq⟩
  | Γ, R, (false, k) :: ks, B :: L, i, A, h, hi => by
    simp only [lgets, somes, List.cons.injEq] at h
    cases i with
    | zero => simp at hi; subst hi; exact ⟨(false, k), by simp, h.1⟩
    | succ i => obtain ⟨p, hp, hq⟩ := lgets_get Γ R ks L i A h.2 (by simpa using hi); exact ⟨p, by simp [hp], hq⟩
  | Γ, R, [], _ :: _, _, _, h, _ => by simp [lgets, somes] at h
  | Γ, R, (true, _) :: _, [], _, _, h, _ => by simp [lgets, somes] at h
  | Γ, R, (false, _) :: _, [], _, _, h, _ => by simp [lgets, somes] at h
/-- The lent names are not among the taken ones. -/
def lentOk (ks : List Nat) : List (Bool × Nat) → Bool
  | [] => true
  | (true, k) :: r => !(ks.any (Nat.beq k)) && lentOk ks r
  | (false, _) :: r => lentOk ks r
def noneLent : List (Bool × Nat) → Bool
  | [] => true
  | (true, _) :: _ => false
  | (false, _) :: r => noneLent r
theorem lentOk_mem {ks : List Nat} : ∀ {rs : List (Bool × Nat)}, lentOk ks rs = true → ∀ k, (true, k) ∈ rs → k ∉ ks
  | [], _, k, h => by simp at h
  | (true, j) :: rs, h, k, hk => by
    simp only [lentOk, Bool.and_eq_true] at h
    rcases List.mem_cons.1 hk with e | e
    · injection e with _ e
      subst e
      intro hm
      have : ks.any (Nat.beq k) = true := List.any_eq_true.2 ⟨k, hm, by simp⟩
      simp [this] at h
    · exact lentOk_mem h.2 k e
  | (false, j) :: rs, h, k, hk => by
    simp only [lentOk] at h
    rcases List.mem_cons.1 hk with e | e
    · injection e with e _; cases e
    · exact lentOk_mem h k e
theorem noneLent_mem : ∀ {rs : List (Bool × Nat)}, noneLent rs = true → ∀ k, (true, k) ∉ rs
  | [], _, k => by simp
  | (true, j) :: rs, h, k => by simp [noneLent] at h
  | (false, j) :: rs, h, k => by
    simp only [noneLent] at h
    simp [noneLent_mem h k]
def ndB : List Nat → Bool
  | [] => true
  | k :: ks => !(ks.any (Nat.beq k)) && ndB ks
theorem ndB_nd : ∀ {ks : List Nat}, ndB ks = true → ks.Nodup
  | [], _ => by simp
  | k :: ks, h => by
    simp only [ndB, Bool.and_eq_true] at h
    refine List.nodup_cons.2 ⟨fun hm => ?_, ndB_nd h.2⟩
    have : ks.any (Nat.beq k) = true := List.any_eq_true.2 ⟨k, hm, by simp⟩
    simp [this] at h
theorem nd_ndB : ∀ {ks : List Nat}, ks.Nodup → ndB ks = true
  | [], _ => rfl
  | k :: ks, h => by
    have h' := List.nodup_cons.1 h
    have hx : ks.any (Nat.beq k) = false := by
      cases hb : ks.any (Nat.beq k) with
      | false => rfl
      | true =>
        obtain ⟨x, hx, he⟩ := List.any_eq_true.1 hb
        exact absurd (Nat.eq_of_beq_eq_true he ▸ hx) h'.1
    rw [ndB, nd_ndB h'.2, hx]
    rfl

section
variable {P : Program} {N : Nat} {w0 : World} {M H : Nat → Prop} {E : Env} {Γ R : Ctx} {Q : Exit → Act → World → Prop}
variable {ops : Array Oper} {rest : List Oper} {T : TypeId} {ps : String} {af : Array Edge} {d : Nat} {op : Op}

theorem calls_use {n : Nat} {vs : List Value} {L R0 : List Asn} {X : Type} {φ : X → Prop} {v : X → Value} {L' R' : X → List Asn} (hs : Spec P n vs L R0 φ v L' R') {w : World} (hC : COk w0 M H Γ R w)
    (ks : List Nat) (hnd : ndB ks = true) (hL : cgets Γ ks = somes L) (rs : List (Bool × Nat)) (hR : lgets Γ R rs = somes R0) (hl : lentOk ks rs = true) (ns : List Nat) (hns : ndB ns = true) (hnl : ∀ x, φ x → ns.length = (L' x).length) (rns : List Nat) (hrl : ∀ x, φ x → noneLent rs = true → rns.length = (R' x).length) :
    Calls P n vs.toArray w fun e w' => ∃ x, φ x ∧ e = .returned (v x) ∧ COk w0 M H (cputs ns (L' x) (ckill ks Γ)) (bif noneLent rs then cputs rns (R' x) R else R) w' := by
  have hR0 : ∀ (i : Nat) A, R0[i]? = some A → (∃ k, cget R k = some A) ∨ ∃ k, k ∉ ks ∧ cget Γ k = some A := by
    intro i A hi
    obtain ⟨⟨b, k⟩, hp, hq⟩ := lgets_get Γ R rs R0 i A hR hi
    cases b with
    | true => exact .inr ⟨k, lentOk_mem hl k hp, hq⟩
    | false => exact .inl ⟨k, hq⟩
  obtain ⟨M', H', hin, hout⟩ := hC.step ks (ndB_nd hnd) hL hR0
  refine (hs w M' H' hin).mono ?_
  rintro e w' ⟨x, h1, rfl, h2⟩
  refine ⟨x, h1, rfl, ?_⟩
  cases hno : noneLent rs with
  | false =>
    have hdrop : LOk w M' H' (L' x) [] w' := by
      obtain ⟨F, hF⟩ := h2
      exact ⟨F, hF.touch, hF.has, hF.lt, hF.mine, hF.apart, fun i A hi => by simp at hi⟩
    exact (hout (L' x) [] ns [] w' (ndB_nd hns) (hnl x h1) rfl hdrop).1
  | true =>
    refine (hout (L' x) (R' x) ns rns w' (ndB_nd hns) (hnl x h1) (hrl x h1 hno) h2).2 fun i A hi => ?_
    obtain ⟨⟨b, k⟩, hp, hq⟩ := lgets_get Γ R rs R0 i A hR hi
    cases b with
    | true => exact absurd hp (noneLent_mem hno k)
    | false => exact ⟨k, hq⟩

theorem run_callFunc {n : Nat} (h : Cb P n) (args : Array Value) (w : World) : (callFunc n args).run P w = .ok (.enter n args) w := by
  obtain ⟨fn, h1, h2, h3⟩ := h
  have h3' : ¬ fn.body = none := by intro e; rw [e] at h3; simp at h3
  simp at h2
  simp [callFunc, h1, h2, h3']

/-- A CALL of function n (by its name, or by a function value with what it captured). -/
theorem r_call {n : Nat} {f : Operand} {xs : List Operand} {cap us vs : List Value} {at_ : Array TypeId} {L R0 : List Asn} {X : Type} {φ : X → Prop} {v : X → Value} {L' R' : X → List Asn} (hs : Spec P n vs L R0 φ v L' R') (hcb : Cb P n)
    (ks : List Nat) (rs : List (Bool × Nat)) (ns rns : List Nat) (hf : ev E f = some (.func (.func n) #[] cap.toArray)) (hx : evs E xs = some us) (hu : us ++ cap = vs)
    (hnd : ndB ks = true) (hL : cgets Γ ks = somes L) (hR : lgets Γ R rs = somes R0) (hl : lentOk ks rs = true) (hns : ndB ns = true) (hnl : ∀ x, φ x → ns.length = (L' x).length) (hrl : ∀ x, φ x → noneLent rs = true → rns.length = (R' x).length)
    (hd : Nat.blt d N = true) (k : ∀ x, φ x → At N w0 M H ((d, v x) :: E) (cputs ns (L' x) (ckill ks Γ)) (bif noneLent rs then cputs rns (R' x) R else R) (wpList P ops Q rest)) :
    At N w0 M H E Γ R (wpList P ops Q (⟨some d, .call { callee := .value f, args := xs.toArray, argTypes := at_ }, T, ps, af, none⟩ :: rest)) := by
  intro a w hE hC
  unfold wpList
  rw [if_pos (by simp [Region.wanted])]
  left
  unfold Oper.wp
  have hev := hE.evs hx
  have hrun : (execOp a.eval ⟨some d, .call { callee := .value f, args := xs.toArray, argTypes := at_ }, T, ps, af, none⟩).run P w = .ok (.enter n vs.toArray) w := by
    subst hu
    simp [execOp, resolve, hE.ev hf, Deferred.ofValue, invoke, hev, run_callFunc hcb]
  rw [hrun]
  refine (calls_use hs hC ks hnd hL rs hR hl ns hns hnl rns hrl).mono ?_
  rintro e w' ⟨x, h1, rfl, h2⟩
  exact k x h1 _ _ (hE.put hd _) h2
theorem r_call0 {n : Nat} {f : Operand} {xs : List Operand} {cap us vs : List Value} {at_ : Array TypeId} {L R0 : List Asn} {X : Type} {φ : X → Prop} {v : X → Value} {L' R' : X → List Asn} (hs : Spec P n vs L R0 φ v L' R') (hcb : Cb P n)
    (ks : List Nat) (rs : List (Bool × Nat)) (ns rns : List Nat) (hf : ev E f = some (.func (.func n) #[] cap.toArray)) (hx : evs E xs = some us) (hu : us ++ cap = vs)
    (hnd : ndB ks = true) (hL : cgets Γ ks = somes L) (hR : lgets Γ R rs = somes R0) (hl : lentOk ks rs = true) (hns : ndB ns = true) (hnl : ∀ x, φ x → ns.length = (L' x).length) (hrl : ∀ x, φ x → noneLent rs = true → rns.length = (R' x).length)
    (k : ∀ x, φ x → At N w0 M H E (cputs ns (L' x) (ckill ks Γ)) (bif noneLent rs then cputs rns (R' x) R else R) (wpList P ops Q rest)) :
    At N w0 M H E Γ R (wpList P ops Q (⟨none, .call { callee := .value f, args := xs.toArray, argTypes := at_ }, T, ps, af, none⟩ :: rest)) := by
  intro a w hE hC
  unfold wpList
  rw [if_pos (by simp [Region.wanted])]
  left
  unfold Oper.wp
  have hev := hE.evs hx
  have hrun : (execOp a.eval ⟨none, .call { callee := .value f, args := xs.toArray, argTypes := at_ }, T, ps, af, none⟩).run P w = .ok (.enter n vs.toArray) w := by
    subst hu
    simp [execOp, resolve, hE.ev hf, Deferred.ofValue, invoke, hev, run_callFunc hcb]
  rw [hrun]
  refine (calls_use hs hC ks hnd hL rs hR hl ns hns hnl rns hrl).mono ?_
  rintro e w' ⟨x, h1, rfl, h2⟩
  exact k x h1 _ _ hE h2

/-! ### Entering a function -/
def aenv : Nat → List Value → Env
  | _, [] => []
  | i, v :: vs => (i, v) :: aenv (i + 1) vs
def cenv : Nat → List Asn → Ctx
  | _, [] => []
  | i, A :: L => (i, A) :: cenv (i + 1) L
theorem aenv_get : ∀ {vs : List Value} {i t : Nat} {v : Value}, eget (aenv i vs) t = some v → i ≤ t ∧ vs[t - i]? = some v
  | [], _, _, _, h => by cases h
  | u :: vs, i, t, v, h => by
    simp only [aenv, eget] at h
    cases hb : Nat.beq i t with
    | true =>
      rw [hb] at h
      have := Nat.eq_of_beq_eq_true hb
      subst this
      simp at h
      simp [h]
    | false =>
      rw [hb] at h
      obtain ⟨h1, h2⟩ := aenv_get (vs := vs) h
      refine ⟨by omega, ?_⟩
      rw [show t - i = (t - (i + 1)) + 1 by omega]
      simpa using h2
theorem cenv_get : ∀ {L : List Asn} {i t : Nat} {A : Asn}, cget (cenv i L) t = some A → i ≤ t ∧ L[t - i]? = some A
  | [], _, _, _, h => by cases h
  | u :: vs, i, t, v, h => by
    simp only [cenv, cget] at h
    cases hb : Nat.beq i t with
    | true =>
      rw [hb] at h
      have := Nat.eq_of_beq_eq_true hb
      subst this
      simp at h
      simp [h]
    | false =>
      rw [hb] at h
      obtain ⟨h1, h2⟩ := cenv_get (L := vs) h
      refine ⟨by omega, ?_⟩
      rw [show t - i = (t - (i + 1)) + 1 by omega]
      simpa using h2
theorem r_enter {n : Nat} {fn : Func} {c : Code} {vs : List Value} {L R0 : List Asn} {X : Type} {φ : X → Prop} {v : X → Value} {L' R' : X → List Asn} (hf : P.funcs[n]? = some fn) (hb : fn.body = some c) (hN : fn.ntmps = N) (hv : Nat.ble vs.length N = true)
    (h : ∀ w0 M H, At N w0 M H (aenv 0 vs) (cenv 0 L) (cenv 0 R0) (c.wp P (bodyPost P fn (Ret w0 M H φ v L' R')))) : Spec P n vs L R0 φ v L' R' := by
  intro w M H hL
  refine calls_of_wp hf hb (h w M H _ _ ⟨rfl, ?_, fun t u ht => ?_⟩ ?_)
  · simp only [Array.size_append, Array.size_replicate]
    omega
  · obtain ⟨h1, h2⟩ := aenv_get ht
    simp only [Nat.sub_zero] at h2
    rw [Array.getElem?_append_left (by have := (List.getElem?_eq_some_iff.1 h2).1; simpa using this)]
    simpa using h2
  · obtain ⟨F, hF⟩ := hL
    refine ⟨F, hF.touch, fun k A hk => hF.has k A ?_, hF.lt, hF.mine, hF.apart, fun k A hk => hF.ro k A ?_⟩
    · simpa using (cenv_get hk).2
    · simpa using (cenv_get hk).2

/-! ### Returning -/
def rvSem (tmps : Array Value) : ResultVar → Sem Value
  | .tmp t => pure (tmps.getD t undef)
  | .cell x t => do loadVar t (← asAddr (tmps.getD x undef))
theorem results_rv (fn : Func) (tmps : Array Value) : results fn tmps = (do
    let vs ← fn.results.mapM (rvSem tmps)
    pure (if h : vs.size = 1 then vs[0] else .tuple vs)) := by
  have : (fun r => match r with
    | ResultVar.tmp t => (pure (tmps.getD t undef) : Sem Value)
    | ResultVar.cell x t => do loadVar t (← asAddr (tmps.getD x undef))) = rvSem tmps := by
    funext r
    cases r <;> rfl
  rw [← this]
  rfl
def RV (P : Program) (N : Nat) (w0 : World) (M H : Nat → Prop) (E : Env) (Γ R : Ctx) (r : ResultVar) (u : Value) : Prop :=
  ∀ a w, EOk N E a → COk w0 M H Γ R w → (rvSem a.tmps r).run P w = .ok u w
theorem rv_tmp {t : Nat} {u : Value} (h : eget E t = some u) : RV P N w0 M H E Γ R (.tmp t) u := fun a w hE hC => by simp [rvSem, hE.slot t u h]
theorem rv_cell1 {x : Nat} {S : TypeId} {D : TypeDesc} {z : Value} {s bb b o : Nat} {u : Value} (ht : TI P S D z s bb) (hag : aggD D = false) (hx : eget E x = some (.pointer (some ⟨b, o, none⟩))) (hg : Gives w0 M H Γ R b o [u]) : RV P N w0 M H E Γ R (.cell x S) u := fun a w hE hC => by
  have := hg w hC 0 u rfl
  simp only [Nat.add_zero] at this
  simp [rvSem, hE.slot x _ hx, asAddr, loadVar, ht.isAgg, hag, this]
theorem rv_cellA {x : Nat} {S : TypeId} {D : TypeDesc} {z : Value} {s bb b o : Nat} {us : List Value} (ht : TI P S D z s bb) (hag : aggD D = true) (hx : eget E x = some (.pointer (some ⟨b, o, none⟩))) (hn : us.length = s) (hg : Gives w0 M H Γ R b o us) :
    RV P N w0 M H E Γ R (.cell x S) (.agg us.toArray) := fun a w hE hC => by
  have := hg.cells (P := P) hC
  rw [hn] at this
  simp [rvSem, hE.slot x _ hx, asAddr, loadVar, ht.isAgg, hag, ht.sizeOf, this]
def RS (P : Program) (N : Nat) (w0 : World) (M H : Nat → Prop) (E : Env) (Γ R : Ctx) (rs : Array ResultVar) (u : Value) : Prop :=
  ∀ (fn : Func) a w, fn.results = rs → EOk N E a → COk w0 M H Γ R w → (results fn a.tmps).run P w = .ok u w
theorem rs0 : RS P N w0 M H E Γ R #[] (.tuple #[]) := fun fn a w hr _ _ => results_none hr _ _ _
theorem rs1 {r1 : ResultVar} {u1 : Value} (h1 : RV P N w0 M H E Γ R r1 u1) : RS P N w0 M H E Γ R #[r1] u1 := fun fn a w hr hE hC => by
  have e1 := h1 a w hE hC
  simp [results_rv, hr, e1]
theorem rs2 {r1 r2 : ResultVar} {u1 u2 : Value} (h1 : RV P N w0 M H E Γ R r1 u1) (h2 : RV P N w0 M H E Γ R r2 u2) : RS P N w0 M H E Γ R #[r1, r2] (.tuple #[u1, u2]) := fun fn a w hr hE hC => by
  have e1 := h1 a w hE hC
  have e2 := h2 a w hE hC
  simp [results_rv, hr, e1, e2]
theorem rs3 {r1 r2 r3 : ResultVar} {u1 u2 u3 : Value} (h1 : RV P N w0 M H E Γ R r1 u1) (h2 : RV P N w0 M H E Γ R r2 u2) (h3 : RV P N w0 M H E Γ R r3 u3) : RS P N w0 M H E Γ R #[r1, r2, r3] (.tuple #[u1, u2, u3]) := fun fn a w hr hE hC => by
  have e1 := h1 a w hE hC
  have e2 := h2 a w hE hC
  have e3 := h3 a w hE hC
  simp [results_rv, hr, e1, e2, e3]
theorem rs4 {r1 r2 r3 r4 : ResultVar} {u1 u2 u3 u4 : Value} (h1 : RV P N w0 M H E Γ R r1 u1) (h2 : RV P N w0 M H E Γ R r2 u2) (h3 : RV P N w0 M H E Γ R r3 u3) (h4 : RV P N w0 M H E Γ R r4 u4) : RS P N w0 M H E Γ R #[r1, r2, r3, r4] (.tuple #[u1, u2, u3, u4]) := fun fn a w hr hE hC => by
  have e1 := h1 a w hE hC
  have e2 := h2 a w hE hC
  have e3 := h3 a w hE hC
  have e4 := h4 a w hE hC
  simp [results_rv, hr, e1, e2, e3, e4]

theorem COk.toL {w : World} (h : COk w0 M H Γ R w) (ks : List Nat) (hnd : ndB ks = true) {L : List Asn} (hL : cgets Γ ks = somes L) (rs : List Nat) {R' : List Asn} (hR : cgets R rs = somes R') : LOk w0 M H L R' w := by
  obtain ⟨F, hF⟩ := h
  refine ⟨fun i b => ∃ k, ks[i]? = some k ∧ F k b, hF.touch, ?_, ?_, ?_, ?_, ?_⟩
  · intro i A hi
    obtain ⟨k, hk, hA⟩ := somes_get Γ ks L i A hL hi
    have : (fun b => ∃ k, ks[i]? = some k ∧ F k b) = F k := by
      funext b
      simp [hk]
    show A.pred w _
    rw [this]
    exact hF.has k A hA
  · rintro i b ⟨k, _, hb⟩; exact hF.lt k b hb
  · rintro i b ⟨k, hk, hb⟩ hlt; exact hF.mine k b hb hlt
  · rintro i j b ⟨k, hk, hb⟩ ⟨k', hk', hb'⟩
    have := hF.apart k k' b hb hb'
    subst this
    exact nd_inj (ndB_nd hnd) hk hk'
  · intro i A hi
    obtain ⟨k, hk, hA⟩ := somes_get R rs R' i A hR hi
    obtain ⟨G, h1, h2⟩ := hF.ro k A hA
    refine ⟨G, h1, fun b hb => ⟨(h2 b hb).1, ?_, (h2 b hb).2.2⟩⟩
    rintro j ⟨k', _, hb'⟩
    exact (h2 b hb).2.1 k' hb'

/-- THE END: for some x, the results and what is handed over. -/
theorem r_ret {fn : Func} {rv : Array ResultVar} {u : Value} {X : Type} {φ : X → Prop} {v : X → Value} {L' R' : X → List Asn} (x : X) (hφ : φ x) (hr : fn.results = rv) (hrs : RS P N w0 M H E Γ R rv u) (hu : u = v x)
    (ks : List Nat) (rs : List Nat) (hnd : ndB ks = true) (hL : cgets Γ ks = somes (L' x)) (hR : cgets R rs = somes (R' x)) : At N w0 M H E Γ R (bodyPost P fn (Ret w0 M H φ v L' R') .ret) := fun a w hE hC =>
  ⟨hE.defers, u, hrs fn a w hr hE hC, x, hφ, by rw [hu], hC.toL ks hnd hL rs hR⟩
theorem r_end {fn : Func} {rv : Array ResultVar} {u : Value} {X : Type} {φ : X → Prop} {v : X → Value} {L' R' : X → List Asn} (x : X) (hφ : φ x) (hr : fn.results = rv) (hrs : RS P N w0 M H E Γ R rv u) (hu : u = v x)
    (ks : List Nat) (rs : List Nat) (hnd : ndB ks = true) (hL : cgets Γ ks = somes (L' x)) (hR : cgets R rs = somes (R' x)) : At N w0 M H E Γ R (bodyPost P fn (Ret w0 M H φ v L' R') .normal) := fun a w hE hC =>
  ⟨hE.defers, u, hrs fn a w hr hE hC, x, hφ, by rw [hu], hC.toL ks hnd hL rs hR⟩

/-! ### Contracts, between one another -/
theorem Spec.to_calls {n : Nat} {vs : List Value} {X : Type} {φ : X → Prop} {v : X → Value} {L' R' : X → List Asn} (h : Spec P n vs [] [] φ v L' R') (w : World) : Calls P n vs.toArray w fun e w' => ∃ x, φ x ∧ e = .returned (v x) ∧ Below w.heap.size w w' := by
  refine (h w (fun _ => False) (fun _ => False) ⟨fun _ _ => False, Touch.refl _ _, fun i A hi => by simp at hi, fun _ _ h => h.elim, fun _ _ h => h.elim, fun _ _ _ h => h.elim, fun i A hi => by simp at hi⟩).mono ?_
  rintro e w' ⟨x, h1, h2, F, hF⟩
  exact ⟨x, h1, h2, hF.touch.below⟩
theorem Spec.mono {n : Nat} {vs : List Value} {L R0 : List Asn} {X Y : Type} {φ : X → Prop} {v : X → Value} {L' R' : X → List Asn} {ψ : Y → Prop} {u : Y → Value} {K' S' : Y → List Asn} (h : Spec P n vs L R0 φ v L' R')
    (hy : ∀ x, φ x → ∃ y, ψ y ∧ v x = u y ∧ L' x = K' y ∧ R' x = S' y) : Spec P n vs L R0 ψ u K' S' := fun w M H hL => (h w M H hL).mono (by
  rintro e w' ⟨x, h1, h2, h3⟩
  obtain ⟨y, g1, g2, g3, g4⟩ := hy x h1
  exact ⟨y, g1, by rw [h2, g2], by rw [← g3, ← g4]; exact h3⟩)

end
end Go.Proofs.Ytdcbbkpdlcojfaa
namespace Go.Proofs.Ytdcbbkpdlcojfaa
set_option linter.unusedSimpArgs false
set_option linter.unusedVariables false
open Go.RowKit

section
variable {P : Program} {N : Nat} {w0 : World} {M H : Nat → Prop} {E : Env} {Γ R : Ctx} {Q : Exit → Act → World → Prop}
variable {ops : Array Oper} {rest : List Oper} {T : TypeId} {ps : String} {af : Array Edge} {d : Nat} {op : Op}

/-- The operation gives v and changes nothing. -/
def PR (P : Program) (N : Nat) (w0 : World) (M H : Nat → Prop) (E : Env) (Γ R : Ctx) (op : Op) (v : Value) : Prop :=
  ∀ T ps af a w, EOk N E a → COk w0 M H Γ R w → ∀ d g, (execOp a.eval ⟨d, op, T, ps, af, g⟩).run P w = .ok (.value v) w
theorem r_p {v : Value} (h : PR P N w0 M H E Γ R op v) (hd : Nat.blt d N = true) (k : At N w0 M H ((d, v) :: E) Γ R (wpList P ops Q rest)) : At N w0 M H E Γ R (wpList P ops Q (⟨some d, op, T, ps, af, none⟩ :: rest)) :=
  r_gen (X := Unit) (fun _ => True) (fun _ => v) (fun _ => Γ) (fun _ => R) hd (fun a w hE hC => ⟨(), w, trivial, h _ _ _ a w hE hC _ _, hC⟩) fun _ _ => k

def gb : Bool → Bool → Bool
  | true, b => b
  | false, b => !b
def gv (g : Bool) (v : Value) : Value := bif g then v else undef
def GS (E : Env) (g : Bool) : Env → Prop
  | [] => True
  | (t, u) :: r => eget E t = some (gv g u) ∧ GS E g r
theorem EOk.gs {a : Act} {g : Bool} (h : EOk N E a) (hg : g = true) : ∀ {Eg : Env}, GS E g Eg → EOk N (Eg ++ E) a
  | [], _ => h
  | (t, u) :: r, hs => by
    have ih := EOk.gs h hg hs.2
    refine ⟨h.defers, h.size, fun s v hv => ?_⟩
    simp only [List.cons_append, eget] at hv
    cases hb : Nat.beq t s with
    | true =>
      rw [hb] at hv
      simp at hv
      subst hv
      rw [← Nat.eq_of_beq_eq_true hb]
      have := h.slot t _ hs.1
      rw [hg] at this
      exact this
    | false => rw [hb] at hv; exact ih.slot s v hv
/-- An operation under a guard that may or may not hold: the slot holds its value, or nothing. -/
theorem r_gp {l : List Oper} {rest : List Oper} {i t : Nat} {c b : Bool} {v : Value} (Eg : Env) (hi : gslot l i = some t) (ht : eget E t = some (.bool b)) (hgs : GS E (gb c b) Eg) (h : gb c b = true → PR P N w0 M H (Eg ++ E) Γ R op v) (hd : Nat.blt d N = true)
    (k : At N w0 M H ((d, gv (gb c b) v) :: E) Γ R (wpList P l.toArray Q rest)) : At N w0 M H E Γ R (wpList P l.toArray Q (⟨some d, op, T, ps, af, some (i, c)⟩ :: rest)) := by
  intro a w hE hC
  have hyd := hE.yield hi ht
  unfold wpList
  cases hg : gb c b with
  | true =>
    have hbc : b = c := by cases b <;> cases c <;> simp_all [gb]
    rw [if_pos (by simp [Region.wanted, hyd, hbc])]
    left
    unfold Oper.wp
    rw [h hg _ _ _ a w (hE.gs hg hgs) hC _ _]
    rw [hg] at k
    exact k _ _ (hE.put hd v) hC
  | false =>
    have hbc : b ≠ c := by cases b <;> cases c <;> simp_all [gb]
    rw [if_neg (by simp [Region.wanted, hyd, hbc])]
    rw [hg] at k
    exact k _ _ (hE.put hd undef) hC
theorem pick_and {b c : Bool} : (bif b then gv (gb true b) (.bool c) else .bool false) = .bool (b && c) := by cases b <;> rfl
theorem pick_or {b c : Bool} : (bif b then .bool true else gv (gb false b) (.bool c)) = .bool (b || c) := by cases b <;> rfl

theorem p_move {x : Operand} {v : Value} (hx : ev E x = some v) : PR P N w0 M H E Γ R (.move x) v := fun _ _ _ a w hE _ _ _ => by simp [execOp, hE.ev hx]
theorem p_assign {x : Operand} {v : Value} (hx : ev E x = some v) : PR P N w0 M H E Γ R (.assign x) v := fun _ _ _ a w hE _ _ _ => by simp [execOp, hE.ev hx]
theorem p_pick {c x y : Operand} {b : Bool} {u v z : Value} (hc : ev E c = some (.bool b)) (hx : ev E x = some u) (hy : ev E y = some v) (hz : (bif b then u else v) = z) : PR P N w0 M H E Γ R (.pick c x y) z := fun _ _ _ a w hE _ _ _ => by
  subst hz
  simp only [execOp, hE.ev hc, hE.ev hx, hE.ev hy, asBool]
  cases b <;> rfl
theorem p_bin {o : BinOp} {S S' : TypeId} {x y : Operand} {u v z : Value} (hx : ev E x = some u) (hy : ev E y = some v) (hb : BinRun P o S u v z) : PR P N w0 M H E Γ R (.binOp o S x y S') z := fun _ _ _ a w hE _ _ _ => by
  have := hb x y w
  simp only [execOp, hE.ev hx, hE.ev hy, Sem.run_bind] at this ⊢
  rw [this]; rfl
theorem p_not {S : TypeId} {x : Operand} {b : Bool} (hx : ev E x = some (.bool b)) : PR P N w0 M H E Γ R (.unOp .not S x) (.bool (!b)) := fun _ _ _ a w hE _ _ _ => by simp [execOp, hE.ev hx, Op.unary]
theorem p_neg {S : TypeId} {x : Operand} {k : IntKind} {n c : Int} (hx : ev E x = some (.int k n)) (hc : k.wrap (-n) = c) : PR P N w0 M H E Γ R (.unOp .neg S x) (.int k c) := fun _ _ _ a w hE _ _ _ => by simp [execOp, hE.ev hx, Op.unary, Op.intArith, hc]
theorem p_conv {S D : TypeId} {x : Operand} {k k' : IntKind} {n c : Int} {D' : TypeDesc} (hS : P.underlying S = some D') (hD : P.underlying D = some (.int k')) (hx : ev E x = some (.int k n)) (hc : k'.wrap n = c) : PR P N w0 M H E Γ R (.convert S D x) (.int k' c) :=
  fun _ _ _ a w hE _ _ _ => by simp [execOp, hE.ev hx, convert, run_underlying hS, run_underlying hD, Conv.intToInt, hc]
theorem p_field0 {S : TypeId} {i off : Nat} {x : Operand} {b : Nat} (hf : FO P S i off) (hx : ev E x = some (.pointer (some ⟨b, 0, none⟩))) : PR P N w0 M H E Γ R (.fieldAddr S x i) (.pointer (some ⟨b, off, none⟩)) := fun _ _ _ a w hE _ _ _ => by simp [execOp, hE.ev hx, hf.run]
theorem p_field {S : TypeId} {i off : Nat} {x : Operand} {b o : Nat} (hf : FO P S i off) (hx : ev E x = some (.pointer (some ⟨b, o, none⟩))) : PR P N w0 M H E Γ R (.fieldAddr S x i) (.pointer (some ⟨b, o + off, none⟩)) := fun _ _ _ a w hE _ _ _ => by simp [execOp, hE.ev hx, hf.run]
theorem p_idx_arr {S U : TypeId} {D : TypeDesc} {z : Value} {s bb n b o j : Nat} {x y : Operand} {k : IntKind} {i : Int} (hS : P.underlying S = some (.array n U)) (hU : TI P U D z s bb) (hx : ev E x = some (.pointer (some ⟨b, o, none⟩))) (hy : ev E y = some (.int k i)) (hi : i = (j : Int)) (hj : j < n) :
    PR P N w0 M H E Γ R (.indexAddr S x y) (.pointer (some ⟨b, o + j * s, none⟩)) :=
  fun _ _ _ a w hE _ _ _ => by subst hi; simp [execOp, hE.ev hx, hE.ev hy, Instr.indexAt, asIntOf, run_underlying hS, Instr.sureAddr, hU.sizeOf, add_lit', hj]
theorem p_idx_arr1 {S U : TypeId} {D : TypeDesc} {z : Value} {bb n b j : Nat} {x y : Operand} {k : IntKind} {i : Int} (hS : P.underlying S = some (.array n U)) (hU : TI P U D z 1 bb) (hx : ev E x = some (.pointer (some ⟨b, 0, none⟩))) (hy : ev E y = some (.int k i)) (hi : i = (j : Int)) (hj : j < n) :
    PR P N w0 M H E Γ R (.indexAddr S x y) (.pointer (some ⟨b, j, none⟩)) :=
  fun _ _ _ a w hE _ _ _ => by subst hi; simp [execOp, hE.ev hx, hE.ev hy, Instr.indexAt, asIntOf, run_underlying hS, Instr.sureAddr, hU.sizeOf, add_lit', hj]
theorem p_idx_sl {α : Type} {S U : TypeId} {D : TypeDesc} {z : Value} {s bb j : Nat} {x y : Operand} {k : IntKind} {i : Int} {enc : α → List Value} {v : Value} {l : List α} (hS : P.underlying S = some (.slice U)) (hU : TI P U D z s bb) (hx : ev E x = some v) (hy : ev E y = some (.int k i)) (hs : HasSl Γ R s enc v l) (hi : i = (j : Int)) (hj : j < l.length) :
    PR P N w0 M H E Γ R (.indexAddr S x y) (.pointer (some ⟨sblk v, soff v + j * s, none⟩)) := fun _ _ _ a w hE hC _ _ => by
  obtain ⟨G, c, h1, h2, h3⟩ := hs.ok hC
  rcases h3 with ⟨rfl, _⟩ | ⟨b, o, rfl, _, _⟩
  · simp at hj
  · subst hi
    simp [execOp, hE.ev hx, hE.ev hy, Instr.indexAt, asIntOf, run_underlying hS, hU.sizeOf, add_lit', hj, sblk, soff]
theorem p_load1 {S : TypeId} {D : TypeDesc} {z : Value} {s bb : Nat} {x : Operand} {b o : Nat} {u : Value} (ht : TI P S D z s bb) (hag : aggD D = false) (hx : ev E x = some (.pointer (some ⟨b, o, none⟩))) (hg : Gives w0 M H Γ R b o [u]) : PR P N w0 M H E Γ R (.load S x) u :=
  fun _ _ _ a w hE hC _ _ => by
    have := hg w hC 0 u rfl
    simp only [Nat.add_zero] at this
    simp [execOp, hE.ev hx, Instr.loadAt, Instr.sureAddr, loadVar, ht.isAgg, hag, this]
theorem p_loadA {S : TypeId} {D : TypeDesc} {z : Value} {s bb : Nat} {x : Operand} {b o : Nat} {us : List Value} (ht : TI P S D z s bb) (hag : aggD D = true) (hx : ev E x = some (.pointer (some ⟨b, o, none⟩))) (hn : us.length = s) (hg : Gives w0 M H Γ R b o us) : PR P N w0 M H E Γ R (.load S x) (.agg us.toArray) :=
  fun _ _ _ a w hE hC _ _ => by
    have := hg.cells (P := P) hC
    rw [hn] at this
    simp [execOp, hE.ev hx, Instr.loadAt, Instr.sureAddr, loadVar, ht.isAgg, hag, ht.sizeOf, this]
theorem p_len_sl {α : Type} {S U : TypeId} {s : Nat} {x : Operand} {enc : α → List Value} {v : Value} {l : List α} (hS : P.underlying S = some (.slice U)) (hx : ev E x = some v) (hs : HasSl Γ R s enc v l) : PR P N w0 M H E Γ R (.call { callee := .builtin .len, args := #[x], argTypes := #[S] }) (.int .i64 (l.length : Int)) :=
  fun _ _ _ a w hE hC _ _ => by
    obtain ⟨G, c, h1, h2, h3⟩ := hs.ok hC
    rcases h3 with ⟨rfl, _, rfl⟩ | ⟨b, o, rfl, _, _⟩
    · simp [execOp, resolve, invoke, builtin, hE.ev hx, Builtin.len_, run_underlying hS, goInt]
    · simp [execOp, resolve, invoke, builtin, hE.ev hx, Builtin.len_, run_underlying hS, goInt]
theorem p_len_str {S : TypeId} {x : Operand} {s : ByteArray} (hS : P.underlying S = some .string) (hx : ev E x = some (.string s)) : PR P N w0 M H E Γ R (.call { callee := .builtin .len, args := #[x], argTypes := #[S] }) (.int .i64 (s.size : Int)) :=
  fun _ _ _ a w hE _ _ _ => by simp [execOp, resolve, invoke, builtin, hE.ev hx, Builtin.len_, run_underlying hS, goInt]
theorem p_min {x y : Operand} {k : IntKind} {m n c : Int} {at_ : Array TypeId} (hx : ev E x = some (.int k m)) (hy : ev E y = some (.int k n)) (hc : min m n = c) : PR P N w0 M H E Γ R (.call { callee := .builtin .min, args := #[x, y], argTypes := at_ }) (.int k c) :=
  fun _ _ _ a w hE _ _ _ => by
    have : (if n < m then n else m) = c := by rw [← hc]; split <;> omega
    simp [execOp, resolve, invoke, builtin, hE.ev hx, hE.ev hy, Builtin.min_, Builtin.min2, this]
theorem p_max {x y : Operand} {k : IntKind} {m n c : Int} {at_ : Array TypeId} (hx : ev E x = some (.int k m)) (hy : ev E y = some (.int k n)) (hc : max m n = c) : PR P N w0 M H E Γ R (.call { callee := .builtin .max, args := #[x, y], argTypes := at_ }) (.int k c) :=
  fun _ _ _ a w hE _ _ _ => by
    have : (if n > m then n else m) = c := by rw [← hc]; split <;> omega
    simp [execOp, resolve, invoke, builtin, hE.ev hx, hE.ev hy, Builtin.max_, Builtin.max2, this]
theorem p_vfield {S U : TypeId} {D : TypeDesc} {z : Value} {i off s bb : Nat} {x : Operand} {cs : Array Value} {u : Value} (hf : FT P S i off U) (ht : TI P U D z s bb) (hx : ev E x = some (.agg cs)) (hu : (bif aggD D then some (.agg (cs.extract off (off + s))) else cs[off]?) = some u) : PR P N w0 M H E Γ R (.field S x i) u :=
  fun _ _ _ a w hE _ _ _ => by
    obtain ⟨fields, f, h1, h2, h3, h4⟩ := hf
    subst h4
    cases hag : aggD D with
    | true => rw [hag] at hu; simp at hu; simp [execOp, hE.ev hx, Instr.field, run_underlying h1, h2, asAgg, h3, run_partA ht hag rfl, hu]
    | false => rw [hag] at hu; simp at hu; simp [execOp, hE.ev hx, Instr.field, run_underlying h1, h2, asAgg, h3, run_part1 ht hag hu]
theorem p_vindex {S U : TypeId} {D : TypeDesc} {z : Value} {n s bb j : Nat} {x y : Operand} {k : IntKind} {i : Int} {cs : Array Value} {u : Value} (hS : P.underlying S = some (.array n U)) (ht : TI P U D z s bb) (hx : ev E x = some (.agg cs)) (hy : ev E y = some (.int k i)) (hi : i = (j : Int)) (hj : j < n)
    (hu : (bif aggD D then some (.agg (cs.extract (j * s) (j * s + s))) else cs[j * s]?) = some u) : PR P N w0 M H E Γ R (.index S x y) u :=
  fun _ _ _ a w hE _ _ _ => by
    subst hi
    cases hag : aggD D with
    | true => rw [hag] at hu; simp at hu; simp [execOp, hE.ev hx, hE.ev hy, Instr.index, asIntOf, run_underlying hS, hj, ht.sizeOf, run_partA ht hag rfl, hu]
    | false => rw [hag] at hu; simp at hu; simp [execOp, hE.ev hx, hE.ev hy, Instr.index, asIntOf, run_underlying hS, hj, ht.sizeOf, run_part1 ht hag hu]
theorem p_makeFunc {fn : Fn} {first cap : List Operand} {fs cs : List Value} (hf : evs E first = some fs) (hc : evs E cap = some cs) : PR P N w0 M H E Γ R (.makeFunc fn first.toArray cap.toArray) (.func fn fs.toArray cs.toArray) :=
  fun _ _ _ a w hE _ _ _ => by simp [execOp, Instr.makeFunc, hE.evs hf, hE.evs hc]
theorem p_extract {x : Operand} {i : Nat} {vs : List Value} {v : Value} (hx : ev E x = some (.tuple vs.toArray)) (hv : vs[i]? = some v) : PR P N w0 M H E Γ R (.extract x i) v := fun _ _ _ a w hE _ _ _ => by simp [execOp, hE.ev hx, Instr.extract, hv]
theorem p_nilCheck {x : Operand} {A : Addr} (hx : ev E x = some (.pointer (some A))) : PR P N w0 M H E Γ R (.nilCheck x) (.pointer (some A)) := fun _ _ _ a w hE _ _ _ => by simp [execOp, hE.ev hx]
theorem p_build {S : TypeId} {D : TypeDesc} {z : Value} {s bb : Nat} {places : List (Nat × Nat)} {parts : List (Nat × Operand)} {vs : List (Nat × Value)} {cs : Array Value} (ht : TI P S D z s bb) (hp : PL P S places) (hv : evps E parts = some vs) (hf : Instr.fill (fun i => places[i]?) z.cells vs = some cs) :
    PR P N w0 M H E Γ R (.build S parts.toArray) (.agg cs) := fun _ _ _ a w hE _ _ _ => by
  obtain ⟨fields, h1, h2⟩ := hp
  obtain ⟨i, h3, h4, _, _⟩ := ht.info
  have hb : P.built S vs = some cs := by
    simp only [Program.built, h3, h1, h4, h2]
    simpa using hf
  have := run_build (P := P) w S vs.toArray cs (by simpa using hb)
  have hev := hE.evps hv
  simp [execOp, hev, this]
theorem p_buildA {S U : TypeId} {D DU : TypeDesc} {z zu : Value} {n s bb su bu : Nat} {parts : List (Nat × Operand)} {vs : List (Nat × Value)} {cs : Array Value} (ht : TI P S (.array n U) z s bb) (hU : TI P U DU zu su bu) (hv : evps E parts = some vs) (hf : Instr.fill (fun i => some (i * su, su)) z.cells vs = some cs) :
    PR P N w0 M H E Γ R (.build S parts.toArray) (.agg cs) := fun _ _ _ a w hE _ _ _ => by
  obtain ⟨i, h3, h4, _, _⟩ := ht.info
  obtain ⟨iu, h5, h6, h7, _⟩ := hU.info
  have hb : P.built S vs = some cs := by
    simp only [Program.built, h3, ht.und, h4, h5, h7]
    exact hf
  have := run_build (P := P) w S vs.toArray cs (by simpa using hb)
  have hev := hE.evps hv
  simp [execOp, hev, this]
end
end Go.Proofs.Ytdcbbkpdlcojfaa
namespace Go.Proofs.Ytdcbbkpdlcojfaa
set_option linter.unusedSimpArgs false
set_option linter.unusedVariables false
open Go.RowKit

theorem w_i64 {n : Int} (h1 : -9223372036854775808 ≤ n) (h2 : n ≤ 9223372036854775807) : IntKind.i64.wrap n = n := by rw [IntKind.wrap_i64]; omega
theorem w_u32 {n : Int} (h1 : 0 ≤ n) (h2 : n < 4294967296) : IntKind.u32.wrap n = n := by simp [IntKind.wrap, IntKind.signed, IntKind.bits]; omega
theorem w_u8 {n : Int} (h1 : 0 ≤ n) (h2 : n < 256) : IntKind.u8.wrap n = n := by simp [IntKind.wrap, IntKind.signed, IntKind.bits]; omega
theorem w_u16 {n : Int} (h1 : 0 ≤ n) (h2 : n < 65536) : IntKind.u16.wrap n = n := by simp [IntKind.wrap, IntKind.signed, IntKind.bits]; omega
theorem w_u64 {n : Int} (h1 : 0 ≤ n) (h2 : n < 18446744073709551616) : IntKind.u64.wrap n = n := by simp [IntKind.wrap, IntKind.signed, IntKind.bits]; omega
theorem w_i32 {n : Int} (h1 : -2147483648 ≤ n) (h2 : n < 2147483648) : IntKind.i32.wrap n = n := by simp [IntKind.wrap, IntKind.signed, IntKind.bits]; omega
theorem tmod_pos {a b : Int} (h : 0 ≤ a) : a.tmod b = a % b := Int.tmod_eq_emod_of_nonneg h
def eI : Int → List Value := fun n => [.int .i64 n]
def eW : Int → List Value := fun n => [.int .u32 n]
def eS : ByteArray → List Value := fun s => [.string s]
def eB : Bool → List Value := fun s => [.bool s]

section
variable {P : Program} {N : Nat} {w0 : World} {M H : Nat → Prop} {E : Env} {Γ R : Ctx} {Q : Exit → Act → World → Prop}
variable {ops : Array Oper} {rest : List Oper} {T : TypeId} {ps : String} {af : Array Edge} {d : Nat} {op : Op}

theorem g_all {k b : Nat} {S : TypeId} {c : List Value} (hk : cget Γ k = some (row b S c)) : Gives w0 M H Γ R b 0 c := g_row hk (by simp)
theorem r_boxA {S : TypeId} {x : Operand} {c : List Value} (hx : ev E x = some (.agg c.toArray)) (hd : Nat.blt d N = true)
    (k : ∀ b, At N w0 M H ((d, .pointer (some ⟨b, 0, none⟩)) :: E) ((d, row b S c) :: Γ) R (wpList P ops Q rest)) : At N w0 M H E Γ R (wpList P ops Q (⟨some d, .box S x, T, ps, af, none⟩ :: rest)) :=
  r_box hx (by simp [Value.cells]) hd k
theorem r_box1 {S : TypeId} {x : Operand} {u : Value} (hx : ev E x = some u) (h1 : u.oneCell' = true) (hd : Nat.blt d N = true)
    (k : ∀ b, At N w0 M H ((d, .pointer (some ⟨b, 0, none⟩)) :: E) ((d, row b S [u]) :: Γ) R (wpList P ops Q rest)) : At N w0 M H E Γ R (wpList P ops Q (⟨some d, .box S x, T, ps, af, none⟩ :: rest)) :=
  r_box hx (by cases u <;> first | rfl | simp [Value.oneCell'] at h1) hd k
theorem r_alloc_arr {S : TypeId} {D : TypeDesc} {z u : Value} {s bb n : Nat} (ht : TI P S D z s bb) (hc : z.cells.toList = List.replicate n u) (hd : Nat.blt d N = true)
    (k : ∀ b, At N w0 M H ((d, .pointer (some ⟨b, 0, none⟩)) :: E) ((d, arr b S n (fun _ => u)) :: Γ) R (wpList P ops Q rest)) : At N w0 M H E Γ R (wpList P ops Q (⟨some d, .alloc S, T, ps, af, none⟩ :: rest)) :=
  r_alloc ht hc hd fun b => by
    have hn : (List.replicate n u).length = n := by simp
    exact (k b).weak (fun _ h => h) fun w hC => (hC.upd (A := row b S (List.replicate n u)) (A' := arr b S n (fun _ => u)) (k := d) (by simp [cget]) fun G hG hlt =>
      ⟨G, row_arr hn (fun i hi => by simp [hi]) hG, fun b hb => ⟨hlt b hb, fun _ => hb⟩, Touch.refl _ _⟩).congr (fun j A h => by
        simp only [cget] at h ⊢
        cases hb : Nat.beq d j with
        | true => rw [hb] at h; simpa using h
        | false => rw [hb] at h; simpa using h) (fun _ _ h => h)
theorem r_box_arr {S : TypeId} {x : Operand} {n : Nat} {f : Nat → Value} (hx : ev E x = some (.agg ((List.range n).map f).toArray)) (hd : Nat.blt d N = true)
    (k : ∀ b, At N w0 M H ((d, .pointer (some ⟨b, 0, none⟩)) :: E) ((d, arr b S n f) :: Γ) R (wpList P ops Q rest)) : At N w0 M H E Γ R (wpList P ops Q (⟨some d, .box S x, T, ps, af, none⟩ :: rest)) :=
  r_boxA hx hd fun b => by
    have hn : ((List.range n).map f).length = n := by simp
    exact (k b).weak (fun _ h => h) fun w hC => (hC.upd (A := row b S ((List.range n).map f)) (A' := arr b S n f) (k := d) (by simp [cget]) fun G hG hlt =>
      ⟨G, row_arr hn (fun i hi => by simp [hi]) hG, fun b hb => ⟨hlt b hb, fun _ => hb⟩, Touch.refl _ _⟩).congr (fun j A h => by
        simp only [cget] at h ⊢
        cases hb : Nat.beq d j with
        | true => rw [hb] at h; simpa using h
        | false => rw [hb] at h; simpa using h) (fun _ _ h => h)
/-- A whole block of aggregate type is written. -/
theorem r_store_all {S S' : TypeId} {D : TypeDesc} {z : Value} {s bb : Nat} {x y : Operand} {b : Nat} {k : Nat} {c us : List Value} (ht : TI P S D z s bb) (hx : ev E x = some (.pointer (some ⟨b, 0, none⟩))) (hy : ev E y = some (.agg us.toArray))
    (hs : us.length = s) (h1 : us.all (·.oneCell') = true) (hk : cget Γ k = some (row b S' c)) (hc : c.length = s)
    (kk : At N w0 M H E ((k, row b S' us) :: Γ) R (wpList P ops Q rest)) : At N w0 M H E Γ R (wpList P ops Q (⟨none, .store S x y, T, ps, af, none⟩ :: rest)) :=
  r_store_row (us := us) ht hx hy (by simp [Value.cells]) hs h1 hk (by rw [hs, hc]; simp) (by rw [hs, ← hc]; simp) kk
theorem arr_putAll {b n : Nat} {S : TypeId} {f g : Nat → Value} : ∀ (w : World) (G : Nat → Prop), (arr b S n f).pred w G →
    ∃ cur S', w.heap[b]? = some (.cells cur S' (0, 0)) ∧ G b ∧ 0 + ((List.range n).map g).length ≤ cur.size ∧ (arr b S n g).pred (w.setRow b (cur.toList.take 0 ++ (List.range n).map g ++ cur.toList.drop (0 + ((List.range n).map g).length)).toArray) G := by
  rintro w G ⟨h1, c, h2, h3, h4⟩
  refine ⟨c, S, h2, (h1 b).2 rfl, by simp; omega, h1, _, setRow_heap w b _ _ S (0, 0) h2, by simp; omega, fun i hi => ?_⟩
  simp [List.getElem?_append, hi]
theorem r_store_arrAll {S S' : TypeId} {D : TypeDesc} {z : Value} {s bb n : Nat} {x y : Operand} {b : Nat} {k : Nat} {f g : Nat → Value} (ht : TI P S D z s bb) (hx : ev E x = some (.pointer (some ⟨b, 0, none⟩))) (hy : ev E y = some (.agg ((List.range n).map g).toArray))
    (hs : n = s) (h1 : ((List.range n).map g).all (·.oneCell') = true) (hk : cget Γ k = some (arr b S' n f))
    (kk : At N w0 M H E ((k, arr b S' n g) :: Γ) R (wpList P ops Q rest)) : At N w0 M H E Γ R (wpList P ops Q (⟨none, .store S x y, T, ps, af, none⟩ :: rest)) :=
  r_store_gen (us := (List.range n).map g) ht hx hy (by simp [Value.cells]) (by simpa using hs) h1 hk arr_putAll kk

/-- A guard within a guard. -/
theorem r_gp2 {l : List Oper} {rest : List Oper} {i t : Nat} {c b g : Bool} {v : Value} (Eg E2 : Env) (hi : gslot l i = some t) (ht : eget E t = some (gv g (.bool b))) (hgs : GS E (g && gb c b) Eg) (hgs2 : GS E g E2) (h : g = true → gb c b = true → PR P N w0 M H (E2 ++ (Eg ++ E)) Γ R op v) (hd : Nat.blt d N = true)
    (k : At N w0 M H ((d, gv (g && gb c b) v) :: E) Γ R (wpList P l.toArray Q rest)) : At N w0 M H E Γ R (wpList P l.toArray Q (⟨some d, op, T, ps, af, some (i, c)⟩ :: rest)) := by
  intro a w hE hC
  have hyd : yielded l.toArray a.tmps i = bif g then some b else none := by
    unfold yielded
    have : (l.toArray[i]?).bind (·.dst) = some t := by simpa [gslot] using hi
    rw [this]
    cases g <;> simp [hE.slot t _ ht, gv, undef]
  unfold wpList
  cases hg : (g && gb c b) with
  | true =>
    have hg1 : g = true ∧ gb c b = true := by simpa using hg
    obtain ⟨hg1, hg2⟩ := hg1
    have hbc : b = c := by cases b <;> cases c <;> simp_all [gb]
    rw [if_pos (by simp [Region.wanted, hyd, hg1, hbc])]
    left
    unfold Oper.wp
    have hE' := hE.gs hg hgs
    have hgs2' : GS (Eg ++ E) g E2 → EOk N (E2 ++ (Eg ++ E)) a := fun h2 => hE'.gs hg1 h2
    have : EOk N (E2 ++ (Eg ++ E)) a := by
      have h2 := hE.gs hg1 hgs2
      refine ⟨hE.defers, hE.size, fun s v hv => ?_⟩
      have key : ∀ (A B : Env) (s : Nat) (v : Value), eget (A ++ B) s = some v → eget A s = some v ∨ eget B s = some v := by
        intro A
        induction A with
        | nil => intro B s v h; exact .inr h
        | cons p A ih =>
          intro B s v h
          obtain ⟨j, u⟩ := p
          simp only [List.cons_append, eget] at h ⊢
          cases hb : Nat.beq j s with
          | true => rw [hb] at h; exact .inl (by simpa using h)
          | false => rw [hb] at h; simpa using ih B s v h
      rcases key _ _ s v hv with h3 | h3
      · have : ∀ (A B : Env) (s : Nat) (v : Value), eget A s = some v → eget (A ++ B) s = some v := by
          intro A
          induction A with
          | nil => intro B s v h; cases h
          | cons p A ih =>
            intro B s v h
            obtain ⟨j, u⟩ := p
            simp only [List.cons_append, eget] at h ⊢
            cases hb : Nat.beq j s with
            | true => rw [hb] at h; simpa using h
            | false => rw [hb] at h; simpa using ih B s v h
        exact h2.slot s v (this _ _ s v h3)
      · exact hE'.slot s v h3
    rw [h hg1 hg2 _ _ _ a w this hC _ _]
    rw [hg] at k
    exact k _ _ (hE.put hd v) hC
  | false =>
    have : Region.wanted (⟨some d, op, T, ps, af, some (i, c)⟩ : Oper) (yielded l.toArray a.tmps) = false := by
      cases g <;> cases b <;> cases c <;> simp_all [gb, Region.wanted]
    rw [if_neg (by rw [this]; simp)]
    rw [hg] at k
    exact k _ _ (hE.put hd undef) hC
theorem pick_and2 {b c g : Bool} (hg : g = true) : (bif b then gv (g && gb true b) (.bool c) else .bool false) = .bool (b && c) := by subst hg; cases b <;> rfl
theorem pick_or2 {b c g : Bool} (hg : g = true) : (bif b then .bool true else gv (g && gb false b) (.bool c)) = .bool (b || c) := by subst hg; cases b <;> rfl

theorem own_eq {α : Type} {T s : Nat} {enc : α → List Value} {v : Value} {l l' : List α} (h : l = l') : own T s enc v l = own T s enc v l' := by rw [h]
theorem sl_eq {α : Type} {s : Nat} {enc : α → List Value} {v : Value} {l l' : List α} (h : l = l') : sl s enc v l = sl s enc v l' := by rw [h]
theorem arr_eq {b T n : Nat} {f g : Nat → Value} (h : f = g) : arr b T n f = arr b T n g := by rw [h]
theorem one_eq {A B : Asn} (h : A = B) : [some A] = somes [B] := by rw [h]; rfl

theorem g_el' {α : Type} {s : Nat} {enc : α → List Value} {v : Value} {l : List α} (h : HasSl Γ R s enc v l) (he : ∀ x, (enc x).length = s) {i : Nat} {x : α} (hx : l[i]? = some x) {us : List Value} (hu : enc x = us) : Gives w0 M H Γ R (sblk v) (soff v + i * s) us := hu ▸ g_el h he hx
theorem all_one {n : Nat} {f : Nat → Value} (h : ∀ i, (f i).oneCell' = true) : ((List.range n).map f).all (·.oneCell') = true := by simp [h]

/-- A contract out of a plain one. -/
theorem Spec.of_calls {n : Nat} {vs : List Value} {v : Value} (h : ∀ w, Calls P n vs.toArray w fun e w' => e = .returned v ∧ Below w.heap.size w w') : Spec P n vs [] [] (X := Unit) (fun _ => True) (fun _ => v) (fun _ => []) (fun _ => []) := fun w M H hL =>
  (h w).mono fun e w' ⟨h1, h2⟩ => ⟨(), trivial, h1, fun _ _ => False, Touch.of_below h2, fun i A hi => by simp at hi, fun _ _ h => h.elim, fun _ _ h => h.elim, fun _ _ _ h => h.elim, fun i A hi => by simp at hi⟩
end
end Go.Proofs.Ytdcbbkpdlcojfaa
