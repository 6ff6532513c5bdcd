/-
  Parsers and their inverses, in plain Lean. No condition.
-/
import Derived.Test.YtohenjmkhncoiaaKC
namespace Go.Proofs.Ytohenjmkhncoiaa
set_option linter.unusedSimpArgs false
set_option linter.unusedVariables false

/-- A parser of a list of bytes. -/
def Ps (α : Type) : Type := List Int → Option (α × List Int)
/-- All bytes. -/
def By (l : List Int) : Prop := ∀ x ∈ l, 0 ≤ x ∧ x < 256
theorem By.app {a b : List Int} : By (a ++ b) ↔ By a ∧ By b := by
  unfold By
  constructor
  · exact fun h => ⟨fun x hx => h x (List.mem_append_left _ hx), fun x hx => h x (List.mem_append_right _ hx)⟩
  · rintro ⟨h1, h2⟩ x hx
    rcases List.mem_append.1 hx with h | h
    · exact h1 x h
    · exact h2 x h
theorem By.take {l : List Int} (h : By l) (n : Nat) : By (l.take n) := fun x hx => h x (List.mem_of_mem_take hx)
theorem By.drop {l : List Int} (h : By l) (n : Nat) : By (l.drop n) := fun x hx => h x (List.mem_of_mem_drop hx)
/-- An encoder and a parser are inverse to each other, on what is fine; an encoding has at least m bytes. -/
structure Iv {α : Type} (e : α → List Int) (p : Ps α) (ok : α → Prop) (m : Nat) : Prop where
  by_ : ∀ a, ok a → By (e a)
  fwd : ∀ a r, ok a → p (e a ++ r) = some (a, r)
  bwd : ∀ l a r, By l → p l = some (a, r) → ok a ∧ l = e a ++ r
  low : ∀ a, ok a → m ≤ (e a).length
/-- One after the other. -/
def Ps.both {α β : Type} (p : Ps α) (q : Ps β) : Ps (α × β) := fun l => match p l with
  | none => none
  | some (a, r) => match q r with
    | none => none
    | some (b, t) => some ((a, b), t)
theorem Iv.both {α β : Type} {e : α → List Int} {p : Ps α} {ok : α → Prop} {m : Nat} {f : β → List Int} {q : Ps β} {ok' : β → Prop} {m' : Nat} (h : Iv e p ok m) (h' : Iv f q ok' m') : Iv (fun x : α × β => e x.1 ++ f x.2) (p.both q) (fun x => ok x.1 ∧ ok' x.2) (m + m') where
  by_ := fun a ha => By.app.2 ⟨h.by_ _ ha.1, h'.by_ _ ha.2⟩
  fwd := fun a r ha => by
    unfold Ps.both
    rw [List.append_assoc, h.fwd _ _ ha.1]
    dsimp only
    rw [h'.fwd _ _ ha.2]
  bwd := fun l a r hl hp => by
    unfold Ps.both at hp
    cases h1 : p l with
    | none => rw [h1] at hp; simp at hp
    | some x =>
      obtain ⟨a1, r1⟩ := x
      rw [h1] at hp
      dsimp only at hp
      obtain ⟨o1, e1⟩ := h.bwd l a1 r1 hl h1
      have hb1 := By.app.1 (e1 ▸ hl)
      cases h2 : q r1 with
      | none => rw [h2] at hp; simp at hp
      | some y =>
        obtain ⟨b1, t1⟩ := y
        rw [h2] at hp
        simp only [Option.some.injEq, Prod.mk.injEq] at hp
        obtain ⟨rfl, rfl⟩ := hp
        obtain ⟨o2, e2⟩ := h'.bwd r1 b1 t1 hb1.2 h2
        exact ⟨⟨o1, o2⟩, by rw [e1, e2, List.append_assoc]⟩
  low := fun a ha => by
    have h1 := h.low _ ha.1
    have h2 := h'.low _ ha.2
    rw [List.length_append]
    omega
/-- n times. -/
def Ps.times {α : Type} (p : Ps α) : Nat → Ps (List α)
  | 0 => fun l => some ([], l)
  | n + 1 => fun l => match p l with
    | none => none
    | some (a, r) => match Ps.times p n r with
      | none => none
      | some (b, t) => some (a :: b, t)
theorem times_fwd {α : Type} {e : α → List Int} {p : Ps α} {ok : α → Prop} {m : Nat} (h : Iv e p ok m) : ∀ (as : List α) (r : List Int), (∀ a ∈ as, ok a) → p.times as.length (as.flatMap e ++ r) = some (as, r)
  | [], r, _ => rfl
  | a :: as, r, ha => by
    simp only [List.length_cons, Ps.times, List.flatMap_cons, List.append_assoc]
    rw [h.fwd _ _ (ha a (List.mem_cons_self ..))]
    dsimp only
    rw [times_fwd h as r (fun x hx => ha x (List.mem_cons_of_mem _ hx))]
theorem times_bwd {α : Type} {e : α → List Int} {p : Ps α} {ok : α → Prop} {m : Nat} (h : Iv e p ok m) : ∀ (n : Nat) (l : List Int) (as : List α) (r : List Int), By l → p.times n l = some (as, r) → (∀ a ∈ as, ok a) ∧ as.length = n ∧ l = as.flatMap e ++ r
  | 0, l, as, r, _, hp => by
    simp only [Ps.times, Option.some.injEq, Prod.mk.injEq] at hp
    obtain ⟨rfl, rfl⟩ := hp
    exact ⟨by simp, rfl, by simp⟩
  | n + 1, l, as, r, hl, hp => by
    simp only [Ps.times] at hp
    cases h1 : p l with
    | none => rw [h1] at hp; simp at hp
    | some x =>
      obtain ⟨a1, r1⟩ := x
      rw [h1] at hp
      dsimp only at hp
      obtain ⟨o1, e1⟩ := h.bwd l a1 r1 hl h1
      have hb1 := By.app.1 (e1 ▸ hl)
      cases h2 : p.times n r1 with
      | none => rw [h2] at hp; simp at hp
      | some y =>
        obtain ⟨b1, t1⟩ := y
        rw [h2] at hp
        simp only [Option.some.injEq, Prod.mk.injEq] at hp
        obtain ⟨rfl, rfl⟩ := hp
        obtain ⟨o2, e2, e3⟩ := times_bwd h n r1 b1 t1 hb1.2 h2
        refine ⟨fun a ha => ?_, by simp [e2], by rw [e1, e3]; simp⟩
        rcases List.mem_cons.1 ha with rfl | ha
        · exact o1
        · exact o2 a ha
theorem times_low {α : Type} {e : α → List Int} {p : Ps α} {ok : α → Prop} {m : Nat} (h : Iv e p ok m) : ∀ as : List α, (∀ a ∈ as, ok a) → m * as.length ≤ (as.flatMap e).length
  | [], _ => by simp
  | a :: as, ha => by
    have h1 := h.low _ (ha a (List.mem_cons_self ..))
    have h2 := times_low h as (fun x hx => ha x (List.mem_cons_of_mem _ hx))
    simp only [List.length_cons, List.flatMap_cons, List.length_append, Nat.mul_succ]
    omega
/-- Numbers of four and of eight bytes. -/
def put4 (n : Int) : List Int := [n % 256, n / 256 % 256, n / 65536 % 256, n / 16777216 % 256]
def get4 (l : List Int) : Int := l.getD 0 0 + 256 * l.getD 1 0 + 65536 * l.getD 2 0 + 16777216 * l.getD 3 0
def pWord : Ps Int := fun l => if l.length < 4 then none else some (get4 (l.take 4), l.drop 4)
theorem list4 {l : List Int} (h : ¬ l.length < 4) : ∃ a b c d t, l = a :: b :: c :: d :: t := by
  match l, h with
  | a :: b :: c :: d :: t, _ => exact ⟨a, b, c, d, t, rfl⟩
  | [], h => simp at h
  | [_], h => simp at h
  | [_, _], h => simp at h
  | [_, _, _], h => simp at h
theorem iv_word : Iv put4 pWord (fun n => 0 ≤ n ∧ n < 4294967296) 4 where
  by_ := fun n hn x hx => by
    simp only [put4, List.mem_cons, List.not_mem_nil, or_false] at hx
    rcases hx with rfl | rfl | rfl | rfl <;> omega
  fwd := fun n r hn => by
    unfold pWord put4
    rw [if_neg (by simp)]
    simp only [List.cons_append, List.nil_append, List.take_succ_cons, List.take_zero, List.drop_succ_cons, List.drop_zero, get4]
    simp only [List.getD_cons_zero, List.getD_cons_succ, Option.some.injEq, Prod.mk.injEq, and_true]
    omega
  bwd := fun l a r hl hp => by
    unfold pWord at hp
    by_cases h : l.length < 4
    · rw [if_pos h] at hp; simp at hp
    · rw [if_neg h] at hp
      obtain ⟨b0, b1, b2, b3, t, rfl⟩ := list4 h
      have h0 := hl b0 (by simp)
      have h1 := hl b1 (by simp)
      have h2 := hl b2 (by simp)
      have h3 := hl b3 (by simp)
      simp only [List.take_succ_cons, List.take_zero, List.drop_succ_cons, List.drop_zero, get4, List.getD_cons_zero, List.getD_cons_succ, Option.some.injEq, Prod.mk.injEq] at hp
      obtain ⟨rfl, rfl⟩ := hp
      refine ⟨by omega, ?_⟩
      simp only [put4, List.cons_append, List.nil_append, List.cons.injEq, and_true]
      refine ⟨?_, ?_, ?_, ?_⟩ <;> omega
  low := fun n _ => by simp [put4]
end Go.Proofs.Ytohenjmkhncoiaa
