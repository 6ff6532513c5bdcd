/-
  Enough gas: plain. No condition.
-/
import Derived.Test.YtdcbbkpdlcojfaaAD
namespace Go.Proofs.Ytdcbbkpdlcojfaa
set_option linter.unusedSimpArgs false
set_option linter.unusedVariables false
open Go.RowKit

/-- More gas changes nothing. -/
structure Mono (fs : List Tf) (g : Nat) : Prop where
  x : ∀ d vs t s r, evX g fs d vs t s = some r → evX (g + 1) fs d vs t s = some r
  k : ∀ d vs acc l s r, evK g fs d vs acc l s = some r → evK (g + 1) fs d vs acc l s = some r
  c : ∀ d f al s r, evC g fs d f al s = some r → evC (g + 1) fs d f al s = some r
  b : ∀ d vs l s r, evB g fs d vs l s = some r → evB (g + 1) fs d vs l s = some r
  s : ∀ d vs t s r, evS g fs d vs t s = some r → evS (g + 1) fs d vs t s = some r
  w : ∀ d vs e l v s r, evW g fs d vs e l v s = some r → evW (g + 1) fs d vs e l v s = some r
theorem mono (fs : List Tf) : ∀ g, Mono fs g
  | 0 => ⟨fun _ _ _ _ _ h => by simp [evX] at h, fun _ _ _ _ _ _ h => by simp [evK] at h, fun _ _ _ _ _ h => by simp [evC] at h, fun _ _ _ _ _ h => by simp [evB] at h, fun _ _ _ _ _ h => by simp [evS] at h, fun _ _ _ _ _ _ _ h => by simp [evW] at h⟩
  | g + 1 => by
    have ih := mono fs g
    refine ⟨fun d vs t s r h => ?_, fun d vs acc l s r h => ?_, fun d f al s r h => ?_, fun d vs l s r h => ?_, fun d vs t s r h => ?_, fun d vs e l v s r h => ?_⟩
    · rw [evX] at h ⊢
      by_cases hf : s.fuel ≤ 0
      · rw [if_pos hf] at h ⊢; exact h
      · rw [if_neg hf] at h ⊢
        cases hk : evK g fs d vs [] t.kids { s with fuel := s.fuel - 1 } with
        | none => rw [hk] at h; simp at h
        | some q =>
          rw [hk] at h
          rw [ih.k _ _ _ _ _ _ hk]
          cases q with
          | err z => exact h
          | ok ks s1 =>
            dsimp only at h ⊢
            by_cases q1 : t.kind = 1
            · rw [if_pos q1] at h ⊢; exact h
            rw [if_neg q1] at h ⊢
            by_cases q2 : t.kind = 2
            · rw [if_pos q2] at h ⊢; exact h
            rw [if_neg q2] at h ⊢
            by_cases q4 : t.kind = 4
            · rw [if_pos q4] at h ⊢; exact h
            rw [if_neg q4] at h ⊢
            by_cases q5 : t.kind = 5
            · rw [if_pos q5] at h ⊢; exact h
            rw [if_neg q5] at h ⊢
            by_cases q6 : t.kind = 6
            · rw [if_pos q6] at h ⊢; exact h
            rw [if_neg q6] at h ⊢
            by_cases q7 : t.kind = 7
            · rw [if_pos q7] at h ⊢; exact h
            rw [if_neg q7] at h ⊢
            cases hf : ffind fs t.name with
            | none => rw [hf] at h; simp at h
            | some f => rw [hf] at h; exact ih.c _ _ _ _ _ h
    · cases l with
      | nil => rw [evK] at h ⊢; exact h
      | cons t l =>
        rw [evK] at h ⊢
        cases hx : evX g fs d vs t s with
        | none => rw [hx] at h; simp at h
        | some q =>
          rw [hx] at h
          rw [ih.x _ _ _ _ _ hx]
          cases q with
          | err z => exact h
          | ok v s1 => exact ih.k _ _ _ _ _ _ h
    · rw [evC] at h ⊢
      by_cases hd : d = 12
      · rw [if_pos hd] at h ⊢; exact h
      · rw [if_neg hd] at h ⊢
        cases hb : evB g fs (d + 1) (vbind [] f.ps al) f.body s with
        | none => rw [hb] at h; simp at h
        | some q => rw [hb] at h; rw [ih.b _ _ _ _ _ hb]; exact h
    · cases l with
      | nil => rw [evB] at h ⊢; exact h
      | cons t l =>
        rw [evB] at h ⊢
        cases hx : evS g fs d vs t s with
        | none => rw [hx] at h; simp at h
        | some q =>
          rw [hx] at h
          rw [ih.s _ _ _ _ _ hx]
          cases q with
          | err z => exact h
          | ok p s1 =>
            obtain ⟨vs1, ro⟩ := p
            cases ro with
            | some y => exact h
            | none => exact ih.b _ _ _ _ _ h
    · rw [evS] at h ⊢
      by_cases hf : s.fuel ≤ 0
      · rw [if_pos hf] at h ⊢; exact h
      · rw [if_neg hf] at h ⊢
        cases he : t.es with
        | nil => rw [he] at h; simp at h
        | cons e es =>
          rw [he] at h
          dsimp only at h ⊢
          cases hx : evX g fs d vs e { s with fuel := s.fuel - 1 } with
          | none => rw [hx] at h; simp at h
          | some q =>
            rw [hx] at h
            rw [ih.x _ _ _ _ _ hx]
            cases q with
            | err z => exact h
            | ok v s1 =>
              dsimp only at h ⊢
              by_cases q1 : t.kind = 1 ∨ t.kind = 2
              · rw [if_pos q1] at h ⊢; exact h
              rw [if_neg q1] at h ⊢
              by_cases q3 : t.kind = 3
              · rw [if_pos q3] at h ⊢
                cases es with
                | nil => simp at h
                | cons e2 es =>
                  dsimp only at h ⊢
                  cases hy : evX g fs d vs e2 s1 with
                  | none => rw [hy] at h; simp at h
                  | some q => rw [hy] at h; rw [ih.x _ _ _ _ _ hy]; exact h
              rw [if_neg q3] at h ⊢
              by_cases q4 : t.kind = 4
              · rw [if_pos q4] at h ⊢; exact ih.b _ _ _ _ _ h
              rw [if_neg q4] at h ⊢
              by_cases q5 : t.kind = 5
              · rw [if_pos q5] at h ⊢; exact ih.w _ _ _ _ _ _ _ h
              rw [if_neg q5] at h ⊢
              exact h
    · rw [evW] at h ⊢
      by_cases hv : v = 0
      · rw [if_pos hv] at h ⊢; exact h
      · rw [if_neg hv] at h ⊢
        cases hb : evB g fs d vs l s with
        | none => rw [hb] at h; simp at h
        | some q =>
          rw [hb] at h
          rw [ih.b _ _ _ _ _ hb]
          cases q with
          | err z => exact h
          | ok p s1 =>
            obtain ⟨vs1, ro⟩ := p
            cases ro with
            | some y => exact h
            | none =>
              dsimp only at h ⊢
              cases hx : evX g fs d vs1 e s1 with
              | none => rw [hx] at h; simp at h
              | some q =>
                rw [hx] at h
                rw [ih.x _ _ _ _ _ hx]
                cases q with
                | err z => exact h
                | ok w s2 => exact ih.w _ _ _ _ _ _ _ h
end Go.Proofs.Ytdcbbkpdlcojfaa
