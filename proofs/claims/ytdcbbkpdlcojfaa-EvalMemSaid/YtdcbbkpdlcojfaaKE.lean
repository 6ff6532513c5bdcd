/-
  Calls under a guard that may or may not hold. No condition.
-/
import Derived.Test.YtdcbbkpdlcojfaaKC
namespace Go.Proofs.Ytdcbbkpdlcojfaa
set_option linter.unusedSimpArgs false
set_option linter.unusedVariables false
open Go.RowKit
theorem band2 {a b : Bool} (h : a = true) (h' : b = true) : (a && b) = true := by rw [h, h']; rfl
section
variable {P : Program} {N : Nat} {w0 : World} {M H : Nat → Prop} {E : Env} {Γ R : Ctx} {Q : Exit → Act → World → Prop}
variable {T : TypeId} {ps : String} {af : Array Edge} {d : Nat} {op : Op}
theorem wp_guard {dst : Option Nat} {g : Option (Nat × Bool)} {a : Act} {w : World} {next : Act → World → Prop} {Q : Exit → Act → World → Prop} (h : (⟨dst, op, T, ps, af, none⟩ : Oper).wp P a w next Q) : (⟨dst, op, T, ps, af, g⟩ : Oper).wp P a w next Q := h
/-- An operation that keeps what is there, under a guard that may or may not hold. -/
theorem r_gms {l : List Oper} {rest : List Oper} {i t : Nat} {c b : Bool} {v : Value} (Eg : Env) (hi : gslot l i = some t) (ht : eget E t = some (.bool b)) (hgs : GS E (gb c b) Eg)
    (h : gb c b = true → MS P N w0 M H (Eg ++ E) Γ R ⟨some d, op, T, ps, af, none⟩ (X := Unit) (fun _ => True) (fun _ => v) (fun _ => Γ) (fun _ => R)) (hd : Nat.blt d N = true)
    (k : At N w0 M H ((d, gv (gb c b) v) :: E) Γ R (wpList P l.toArray Q rest)) : At N w0 M H E Γ R (wpList P l.toArray Q (⟨some d, op, T, ps, af, some (i, c)⟩ :: rest)) := by
  intro a w hE hC
  have hyd := hE.yield hi ht
  unfold wpList
  cases hg : gb c b with
  | true =>
    have hbc : b = c := by cases b <;> cases c <;> simp_all [gb]
    rw [if_pos (by simp [Region.wanted, hyd, hbc])]
    left
    rw [hg] at k
    exact wp_guard (h hg a w (hE.gs hg hgs) hC _ _ fun x w' _ h2 => k _ _ (hE.put hd v) h2)
  | false =>
    have hbc : b ≠ c := by cases b <;> cases c <;> simp_all [gb]
    rw [if_neg (by simp [Region.wanted, hyd, hbc])]
    rw [hg] at k
    exact k _ _ (hE.put hd undef) hC
theorem eget_appE : ∀ (A B : Env) (s : Nat) (v : Value), eget (A ++ B) s = some v → eget A s = some v ∨ eget B s = some v
  | [], B, s, v, h => .inr h
  | (j, u) :: A, B, s, v, h => by
    simp only [List.cons_append, eget] at h ⊢
    cases hb : Nat.beq j s with
    | true => rw [hb] at h; exact .inl (by simpa using h)
    | false => rw [hb] at h; simpa using eget_appE A B s v h
theorem eget_leftE : ∀ (A B : Env) (s : Nat) (v : Value), eget A s = some v → eget (A ++ B) s = some v
  | [], B, s, v, h => by cases h
  | (j, u) :: A, B, s, v, h => by
    simp only [List.cons_append, eget] at h ⊢
    cases hb : Nat.beq j s with
    | true => rw [hb] at h; simpa using h
    | false => rw [hb] at h; simpa using eget_leftE A B s v h
/-- The same, under a guard within a guard. -/
theorem r_gms2 {l : List Oper} {rest : List Oper} {i t : Nat} {c b g : Bool} {v : Value} (Eg E2 : Env) (hi : gslot l i = some t) (ht : eget E t = some (gv g (.bool b))) (hgs : GS E (g && gb c b) Eg) (hgs2 : GS E g E2)
    (h : g = true → gb c b = true → MS P N w0 M H (E2 ++ (Eg ++ E)) Γ R ⟨some d, op, T, ps, af, none⟩ (X := Unit) (fun _ => True) (fun _ => v) (fun _ => Γ) (fun _ => R)) (hd : Nat.blt d N = true)
    (k : At N w0 M H ((d, gv (g && gb c b) v) :: E) Γ R (wpList P l.toArray Q rest)) : At N w0 M H E Γ R (wpList P l.toArray Q (⟨some d, op, T, ps, af, some (i, c)⟩ :: rest)) := by
  intro a w hE hC
  have hyd : yielded l.toArray a.tmps i = bif g then some b else none := by
    unfold yielded
    have : (l.toArray[i]?).bind (·.dst) = some t := by simpa [gslot] using hi
    rw [this]
    cases g <;> simp [hE.slot t _ ht, gv, undef]
  unfold wpList
  cases hg : (g && gb c b) with
  | true =>
    have hg1 : g = true ∧ gb c b = true := by simpa using hg
    obtain ⟨hg1, hg2⟩ := hg1
    have hbc : b = c := by cases b <;> cases c <;> simp_all [gb]
    rw [if_pos (by simp [Region.wanted, hyd, hg1, hbc])]
    left
    have hE' := hE.gs hg hgs
    have : EOk N (E2 ++ (Eg ++ E)) a := by
      have h2 := hE.gs hg1 hgs2
      refine ⟨hE.defers, hE.size, fun s v hv => ?_⟩
      rcases eget_appE _ _ s v hv with h3 | h3
      · exact h2.slot s v (eget_leftE _ _ s v h3)
      · exact hE'.slot s v h3
    rw [hg] at k
    exact wp_guard (h hg1 hg2 a w this hC _ _ fun x w' _ h2 => k _ _ (hE.put hd v) h2)
  | false =>
    have : Region.wanted (⟨some d, op, T, ps, af, some (i, c)⟩ : Oper) (yielded l.toArray a.tmps) = false := by
      cases g <;> cases b <;> cases c <;> simp_all [gb, Region.wanted]
    rw [if_neg (by rw [this]; simp)]
    rw [hg] at k
    exact k _ _ (hE.put hd undef) hC
end
end Go.Proofs.Ytdcbbkpdlcojfaa
