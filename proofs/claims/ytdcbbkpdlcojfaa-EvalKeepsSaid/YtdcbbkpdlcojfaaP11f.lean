/-
  Part of the proof: the texts D0, D1, D3, L11. Conditions are with the theorems.
-/
import Derived.Test.YtdcbbkpdlcojfaaP11a
import Derived.Test.YtdcbbkpdlcojfaaP11b
import Derived.Test.YtdcbbkpdlcojfaaP11c
import Derived.Test.YtdcbbkpdlcojfaaP11d
import Derived.Test.YtdcbbkpdlcojfaaP11e
namespace Go.Proofs.Ytdcbbkpdlcojfaa
set_option linter.unusedSimpArgs false
set_option linter.unusedVariables false
open Go.RowKit

mutual
/-- All calls are of functions whose names satisfy A. -/
def aX (A : ByteArray → Prop) : Tx → Prop
  | .mk k _ nm _ kids => (k ≠ 1 → k ≠ 2 → k ≠ 4 → k ≠ 5 → k ≠ 6 → k ≠ 7 → A nm) ∧ aXs A kids
def aXs (A : ByteArray → Prop) : List Tx → Prop
  | [] => True
  | t :: r => aX A t ∧ aXs A r
end
mutual
def aY (A : ByteArray → Prop) : Ty → Prop
  | .mk _ _ _ es _ b _ l => aXs A es ∧ aYs A b ∧ aYs A l
def aYs (A : ByteArray → Prop) : List Ty → Prop
  | [] => True
  | t :: r => aY A t ∧ aYs A r
end
mutual
theorem aX_all {A : ByteArray → Prop} (h : ∀ x, A x) : ∀ t, aX A t
  | .mk k n nm v kids => ⟨fun _ _ _ _ _ _ => h nm, aXs_all h kids⟩
theorem aXs_all {A : ByteArray → Prop} (h : ∀ x, A x) : ∀ l, aXs A l
  | [] => trivial
  | t :: r => ⟨aX_all h t, aXs_all h r⟩
end
mutual
theorem aY_all {A : ByteArray → Prop} (h : ∀ x, A x) : ∀ t, aY A t
  | .mk _ _ _ es _ b _ l => ⟨aXs_all h es, aYs_all h b, aYs_all h l⟩
theorem aYs_all {A : ByteArray → Prop} (h : ∀ x, A x) : ∀ l, aYs A l
  | [] => trivial
  | t :: r => ⟨aY_all h t, aYs_all h r⟩
end
theorem aYs_app {A : ByteArray → Prop} : ∀ {a b : List Ty}, aYs A (a ++ b) ↔ aYs A a ∧ aYs A b
  | [], b => ⟨fun h => ⟨trivial, h⟩, fun h => h.2⟩
  | t :: a, b => by
    show aY A t ∧ aYs A (a ++ b) ↔ (aY A t ∧ aYs A a) ∧ aYs A b
    rw [aYs_app, and_assoc]
/-- What is read from the inputs. -/
def rdI (s : Ms) : Int × Ms := match s.inp with
  | [] => (0, s)
  | a :: r => (a, { s with inp := r })
/-- States that agree, with functions that agree. -/
structure Smr (A : ByteArray → Prop) (Rl : Ms → Ms → Prop) (fs fs' : List Tf) : Prop where
  mem : ∀ s s', Rl s s' → s'.mem = s.mem
  pay : ∀ s s', Rl s s' → 0 < s.fuel → 0 < s'.fuel ∧ Rl { s with fuel := s.fuel - 1 } { s' with fuel := s'.fuel - 1 }
  inp : ∀ s s', Rl s s' → (rdI s).1 = (rdI s').1 ∧ Rl (rdI s).2 (rdI s').2
  put : ∀ s s' i v, Rl s s' → Rl { s with mem := mput s.mem i v } { s' with mem := mput s'.mem i v }
  out : ∀ s s' v, Rl s s' → Rl { s with out := s.out ++ [v] } { s' with out := s'.out ++ [v] }
  fn : ∀ nm f, A nm → ffind fs nm = some f → ∃ f', ffind fs' nm = some f' ∧ f'.ps = f.ps ∧ f'.body = f.body ∧ aYs A f.body
/-- Results that agree. -/
inductive RR (Rl : Ms → Ms → Prop) {α : Type} : Re α → Re α → Prop
  | ok (a : α) (s s' : Ms) (h : Rl s s') : RR Rl (.ok a s) (.ok a s')
  | err (z : Int) : RR Rl (.err z) (.err z)
structure Sm (A : ByteArray → Prop) (Rl : Ms → Ms → Prop) (fs fs' : List Tf) (g : Nat) : Prop where
  x : ∀ d vs t s s' r, aX A t → Rl s s' → evX g fs d vs t s = some r → r ≠ .err 25 → ∃ r', evX g fs' d vs t s' = some r' ∧ RR Rl r r'
  k : ∀ d vs acc l s s' r, aXs A l → Rl s s' → evK g fs d vs acc l s = some r → r ≠ .err 25 → ∃ r', evK g fs' d vs acc l s' = some r' ∧ RR Rl r r'
  c : ∀ d f f' al s s' r, f'.ps = f.ps → f'.body = f.body → aYs A f.body → Rl s s' → evC g fs d f al s = some r → r ≠ .err 25 → ∃ r', evC g fs' d f' al s' = some r' ∧ RR Rl r r'
  b : ∀ d vs l s s' r, aYs A l → Rl s s' → evB g fs d vs l s = some r → r ≠ .err 25 → ∃ r', evB g fs' d vs l s' = some r' ∧ RR Rl r r'
  s : ∀ d vs t s s' r, aY A t → Rl s s' → evS g fs d vs t s = some r → r ≠ .err 25 → ∃ r', evS g fs' d vs t s' = some r' ∧ RR Rl r r'
  w : ∀ d vs e l v s s' r, aX A e → aYs A l → Rl s s' → evW g fs d vs e l v s = some r → r ≠ .err 25 → ∃ r', evW g fs' d vs e l v s' = some r' ∧ RR Rl r r'
theorem ne_ok {α : Type} {a : α} {s : Ms} : (.ok a s : Re α) ≠ .err 25 := fun h => by cases h
theorem ne_err {α β : Type} {z : Int} (h : (.err z : Re α) ≠ .err 25) : (.err z : Re β) ≠ .err 25 := fun h2 => h (by cases h2; rfl)
theorem aX_kids {A : ByteArray → Prop} {t : Tx} (h : aX A t) : aXs A t.kids := by cases t; exact h.2
theorem aX_name {A : ByteArray → Prop} {t : Tx} (h : aX A t) (h1 : t.kind ≠ 1) (h2 : t.kind ≠ 2) (h4 : t.kind ≠ 4) (h5 : t.kind ≠ 5) (h6 : t.kind ≠ 6) (h7 : t.kind ≠ 7) : A t.name := by cases t; exact h.1 h1 h2 h4 h5 h6 h7
theorem aY_es {A : ByteArray → Prop} {t : Ty} (h : aY A t) : aXs A t.es ∧ aYs A t.body ∧ aYs A t.els := by cases t; exact h
theorem sim {A : ByteArray → Prop} {Rl : Ms → Ms → Prop} {fs fs' : List Tf} (H : Smr A Rl fs fs') : ∀ g, Sm A Rl fs fs' g
  | 0 => ⟨fun _ _ _ _ _ _ _ _ h => by simp [evX] at h, fun _ _ _ _ _ _ _ _ _ h => by simp [evK] at h, fun _ _ _ _ _ _ _ _ _ _ _ h => by simp [evC] at h, fun _ _ _ _ _ _ _ _ h => by simp [evB] at h, fun _ _ _ _ _ _ _ _ h => by simp [evS] at h, fun _ _ _ _ _ _ _ _ _ _ _ h => by simp [evW] at h⟩
  | g + 1 => by
    have ih := sim H g
    refine ⟨fun d vs t s s' r ha hR h hr => ?_, fun d vs acc l s s' r ha hR h hr => ?_, fun d f f' al s s' r h1 h2 ha hR h hr => ?_, fun d vs l s s' r ha hR h hr => ?_, fun d vs t s s' r ha hR h hr => ?_, fun d vs e l v s s' r ha hb hR h hr => ?_⟩
    · rw [evX] at h ⊢
      by_cases hf : s.fuel ≤ 0
      · rw [if_pos hf] at h; cases h; exact absurd rfl hr
      · obtain ⟨hf', hRp⟩ := H.pay s s' hR (by omega)
        rw [if_neg hf] at h
        rw [if_neg (by omega)]
        cases hk : evK g fs d vs [] t.kids { s with fuel := s.fuel - 1 } with
        | none => rw [hk] at h; simp at h
        | some q =>
          rw [hk] at h
          cases q with
          | err z =>
            cases h
            obtain ⟨r', e1, e2⟩ := ih.k d vs [] t.kids _ _ _ (aX_kids ha) hRp hk (ne_err hr)
            rw [e1]
            cases e2
            exact ⟨_, rfl, .err z⟩
          | ok ks s1 =>
            obtain ⟨r', e1, e2⟩ := ih.k d vs [] t.kids _ _ _ (aX_kids ha) hRp hk ne_ok
            rw [e1]
            cases e2 with
            | ok _ _ s1' hR1 =>
            dsimp only at h ⊢
            by_cases q1 : t.kind = 1
            · rw [if_pos q1] at h ⊢; cases h; exact ⟨_, rfl, .ok _ _ _ hR1⟩
            rw [if_neg q1] at h ⊢
            by_cases q2 : t.kind = 2
            · rw [if_pos q2] at h ⊢; cases h; exact ⟨_, rfl, .ok _ _ _ hR1⟩
            rw [if_neg q2] at h ⊢
            by_cases q4 : t.kind = 4
            · rw [if_pos q4] at h ⊢; cases h; rw [H.mem _ _ hR1]; exact ⟨_, rfl, .ok _ _ _ hR1⟩
            rw [if_neg q4] at h ⊢
            by_cases q5 : t.kind = 5
            · rw [if_pos q5] at h ⊢
              replace h : some (.ok (rdI s1).1 (rdI s1).2) = some r := by rw [← h]; unfold rdI; cases s1.inp <;> rfl
              obtain ⟨i1, i2⟩ := H.inp _ _ hR1
              cases h
              refine ⟨.ok (rdI s1').1 (rdI s1').2, by unfold rdI; cases s1'.inp <;> rfl, ?_⟩
              rw [i1]
              exact .ok _ _ _ i2
            rw [if_neg q5] at h ⊢
            by_cases q6 : t.kind = 6
            · rw [if_pos q6] at h ⊢; cases h; exact ⟨_, rfl, .ok _ _ _ hR1⟩
            rw [if_neg q6] at h ⊢
            by_cases q7 : t.kind = 7
            · rw [if_pos q7] at h ⊢; cases h; exact ⟨_, rfl, .ok _ _ _ hR1⟩
            rw [if_neg q7] at h ⊢
            cases hf : ffind fs t.name with
            | none => rw [hf] at h; simp at h
            | some f =>
              rw [hf] at h
              obtain ⟨f', g1, g2, g3, g4⟩ := H.fn _ _ (aX_name ha q1 q2 q4 q5 q6 q7) hf
              rw [g1]
              exact ih.c d f f' ks s1 s1' r g2 g3 g4 hR1 h hr
    · cases l with
      | nil => rw [evK] at h ⊢; cases h; exact ⟨_, rfl, .ok _ _ _ hR⟩
      | cons t l =>
        rw [evK] at h ⊢
        cases hx : evX g fs d vs t s with
        | none => rw [hx] at h; simp at h
        | some q =>
          rw [hx] at h
          cases q with
          | err z =>
            cases h
            obtain ⟨r', e1, e2⟩ := ih.x d vs t _ _ _ ha.1 hR hx (ne_err hr)
            rw [e1]; cases e2; exact ⟨_, rfl, .err z⟩
          | ok v s1 =>
            obtain ⟨r', e1, e2⟩ := ih.x d vs t _ _ _ ha.1 hR hx ne_ok
            rw [e1]
            cases e2 with
            | ok _ _ s1' hR1 => exact ih.k d vs _ l _ _ _ ha.2 hR1 h hr
    · rw [evC] at h ⊢
      by_cases hd : d = 12
      · rw [if_pos hd] at h ⊢; cases h; exact ⟨_, rfl, .err _⟩
      · rw [if_neg hd] at h ⊢
        rw [h1, h2]
        cases hb : evB g fs (d + 1) (vbind [] f.ps al) f.body s with
        | none => rw [hb] at h; simp at h
        | some q =>
          rw [hb] at h
          cases q with
          | err z =>
            cases h
            obtain ⟨r', e1, e2⟩ := ih.b _ _ _ _ _ _ ha hR hb (ne_err hr)
            rw [e1]; cases e2; exact ⟨_, rfl, .err z⟩
          | ok p s1 =>
            obtain ⟨r', e1, e2⟩ := ih.b _ _ _ _ _ _ ha hR hb ne_ok
            obtain ⟨vs1, ro⟩ := p
            rw [e1]
            cases e2 with
            | ok _ _ s1' hR1 => cases h; exact ⟨_, rfl, .ok _ _ _ hR1⟩
    · cases l with
      | nil => rw [evB] at h ⊢; cases h; exact ⟨_, rfl, .ok _ _ _ hR⟩
      | cons t l =>
        rw [evB] at h ⊢
        cases hx : evS g fs d vs t s with
        | none => rw [hx] at h; simp at h
        | some q =>
          rw [hx] at h
          cases q with
          | err z =>
            cases h
            obtain ⟨r', e1, e2⟩ := ih.s d vs t _ _ _ ha.1 hR hx (ne_err hr)
            rw [e1]; cases e2; exact ⟨_, rfl, .err z⟩
          | ok p s1 =>
            obtain ⟨vs1, ro⟩ := p
            obtain ⟨r', e1, e2⟩ := ih.s d vs t _ _ _ ha.1 hR hx ne_ok
            rw [e1]
            cases e2 with
            | ok _ _ s1' hR1 =>
              cases ro with
              | some y => cases h; exact ⟨_, rfl, .ok _ _ _ hR1⟩
              | none => exact ih.b d vs1 l _ _ _ ha.2 hR1 h hr
    · rw [evS] at h ⊢
      by_cases hf : s.fuel ≤ 0
      · rw [if_pos hf] at h; cases h; exact absurd rfl hr
      · obtain ⟨hf', hRp⟩ := H.pay s s' hR (by omega)
        rw [if_neg hf] at h
        rw [if_neg (by omega)]
        obtain ⟨ha1, ha2, ha3⟩ := aY_es ha
        cases he : t.es with
        | nil => rw [he] at h; simp at h
        | cons e es =>
          rw [he] at h ha1
          dsimp only at h ⊢
          cases hx : evX g fs d vs e { s with fuel := s.fuel - 1 } with
          | none => rw [hx] at h; simp at h
          | some q =>
            rw [hx] at h
            cases q with
            | err z =>
              cases h
              obtain ⟨r', e1, e2⟩ := ih.x d vs e _ _ _ ha1.1 hRp hx (ne_err hr)
              rw [e1]; cases e2; exact ⟨_, rfl, .err z⟩
            | ok v s1 =>
              obtain ⟨r', e1, e2⟩ := ih.x d vs e _ _ _ ha1.1 hRp hx ne_ok
              rw [e1]
              cases e2 with
              | ok _ _ s1' hR1 =>
              dsimp only at h ⊢
              by_cases q1 : t.kind = 1 ∨ t.kind = 2
              · rw [if_pos q1] at h ⊢; cases h; exact ⟨_, rfl, .ok _ _ _ hR1⟩
              rw [if_neg q1] at h ⊢
              by_cases q3 : t.kind = 3
              · rw [if_pos q3] at h ⊢
                cases es with
                | nil => simp at h
                | cons e2 es =>
                  dsimp only at h ⊢
                  cases hy : evX g fs d vs e2 s1 with
                  | none => rw [hy] at h; simp at h
                  | some q =>
                    rw [hy] at h
                    cases q with
                    | err z =>
                      cases h
                      obtain ⟨r', e1, e2⟩ := ih.x d vs e2 _ _ _ ha1.2.1 hR1 hy (ne_err hr)
                      rw [e1]; cases e2; exact ⟨_, rfl, .err z⟩
                    | ok w s2 =>
                      obtain ⟨r', e1, e2⟩ := ih.x d vs e2 _ _ _ ha1.2.1 hR1 hy ne_ok
                      rw [e1]
                      cases e2 with
                      | ok _ _ s2' hR2 => cases h; exact ⟨_, rfl, .ok _ _ _ (H.put _ _ _ _ hR2)⟩
              rw [if_neg q3] at h ⊢
              by_cases q4 : t.kind = 4
              · rw [if_pos q4] at h ⊢
                exact ih.b _ _ _ _ _ _ (by split; exact ha3; exact ha2) hR1 h hr
              rw [if_neg q4] at h ⊢
              by_cases q5 : t.kind = 5
              · rw [if_pos q5] at h ⊢; exact ih.w _ _ _ _ _ _ _ _ ha1.1 ha2 hR1 h hr
              rw [if_neg q5] at h ⊢
              by_cases q6 : t.kind = 6
              · rw [if_pos q6] at h ⊢; cases h; exact ⟨_, rfl, .ok _ _ _ hR1⟩
              rw [if_neg q6] at h ⊢
              by_cases q7 : t.kind = 7
              · rw [if_pos q7] at h ⊢; cases h; exact ⟨_, rfl, .ok _ _ _ (H.out _ _ _ hR1)⟩
              rw [if_neg q7] at h ⊢
              cases h; exact ⟨_, rfl, .ok _ _ _ hR1⟩
    · rw [evW] at h ⊢
      by_cases hv : v = 0
      · rw [if_pos hv] at h ⊢; cases h; exact ⟨_, rfl, .ok _ _ _ hR⟩
      · rw [if_neg hv] at h ⊢
        cases hy : evB g fs d vs l s with
        | none => rw [hy] at h; simp at h
        | some q =>
          rw [hy] at h
          cases q with
          | err z =>
            cases h
            obtain ⟨r', e1, e2⟩ := ih.b _ _ _ _ _ _ hb hR hy (ne_err hr)
            rw [e1]; cases e2; exact ⟨_, rfl, .err z⟩
          | ok p s1 =>
            obtain ⟨vs1, ro⟩ := p
            obtain ⟨r', e1, e2⟩ := ih.b _ _ _ _ _ _ hb hR hy ne_ok
            rw [e1]
            cases e2 with
            | ok _ _ s1' hR1 =>
              cases ro with
              | some y => cases h; exact ⟨_, rfl, .ok _ _ _ hR1⟩
              | none =>
                dsimp only at h ⊢
                cases hx : evX g fs d vs1 e s1 with
                | none => rw [hx] at h; simp at h
                | some q =>
                  rw [hx] at h
                  cases q with
                  | err z =>
                    cases h
                    obtain ⟨r', e1, e2⟩ := ih.x d vs1 e _ _ _ ha hR1 hx (ne_err hr)
                    rw [e1]; cases e2; exact ⟨_, rfl, .err z⟩
                  | ok w s2 =>
                    obtain ⟨r', e1, e2⟩ := ih.x d vs1 e _ _ _ ha hR1 hx ne_ok
                    rw [e1]
                    cases e2 with
                    | ok _ _ s2' hR2 => exact ih.w _ _ _ _ _ _ _ _ ha hb hR2 h hr
/-- More fuel. -/
def RlF (s s' : Ms) : Prop := s'.inp = s.inp ∧ s'.out = s.out ∧ s'.mem = s.mem ∧ s.fuel ≤ s'.fuel
theorem rdI_eq {s s' : Ms} (h : s'.inp = s.inp) : (rdI s).1 = (rdI s').1 ∧ (rdI s').2.inp = (rdI s).2.inp ∧ (rdI s).2.out = s.out ∧ (rdI s').2.out = s'.out ∧ (rdI s).2.mem = s.mem ∧ (rdI s').2.mem = s'.mem ∧ (rdI s).2.fuel = s.fuel ∧ (rdI s').2.fuel = s'.fuel := by
  unfold rdI
  rw [h]
  cases hs : s.inp with
  | nil => rw [hs] at h; exact ⟨rfl, by rw [h, hs], rfl, rfl, rfl, rfl, rfl, rfl⟩
  | cons a r => exact ⟨rfl, rfl, rfl, rfl, rfl, rfl, rfl, rfl⟩
theorem smr_fuel (fs : List Tf) : Smr (fun _ => True) RlF fs fs where
  mem := fun s s' h => h.2.2.1
  pay := fun s s' h hf => ⟨by have := h.2.2.2; omega, h.1, h.2.1, h.2.2.1, by have := h.2.2.2; show s.fuel - 1 ≤ s'.fuel - 1; omega⟩
  inp := fun s s' h => by
    obtain ⟨e1, e2, e3, e4, e5, e6, e7, e8⟩ := rdI_eq h.1
    exact ⟨e1, e2, by rw [e3, e4, h.2.1], by rw [e5, e6, h.2.2.1], by rw [e7, e8]; exact h.2.2.2⟩
  put := fun s s' i v h => ⟨h.1, h.2.1, by show mput s'.mem i v = _; rw [h.2.2.1], h.2.2.2⟩
  out := fun s s' v h => ⟨h.1, by show s'.out ++ [v] = _; rw [h.2.1], h.2.2.1, h.2.2.2⟩
  fn := fun nm f _ h => ⟨f, h, rfl, rfl, aYs_all (fun _ => trivial) _⟩
/-- The law of fuel. -/
theorem runIs_fuel {fs : List Tf} {ins : List Int} {a b : Int} {r r' : Ru} (hab : a ≤ b) (h : RunIs fs ins a r) (h' : RunIs fs ins b r') : (r.err = 25 → r.out = [] ∧ r.mem = []) ∧ (r.err ≠ 25 → r' = r) := by
  cases h with
  | bad h =>
    cases h' with
    | bad => exact ⟨fun _ => ⟨rfl, rfl⟩, fun _ => rfl⟩
    | run f g q h2 => exact absurd h2 h
  | run f g q h hf he =>
    constructor
    · intro h2
      cases q with
      | ok a s => cases h2
      | err z => exact ⟨rfl, rfl⟩
    · intro h2
      have hq : q ≠ .err 25 := by
        intro h3
        subst h3
        exact h2 rfl
      obtain ⟨r2, e1, e2⟩ := (sim (smr_fuel fs) g).c 0 f f [] (ms0 ins a) (ms0 ins b) q rfl rfl (aYs_all (fun _ => trivial) _) ⟨rfl, rfl, rfl, hab⟩ he hq
      have h3 := runIs_fun h' (.run f g r2 h hf e1)
      rw [h3]
      cases e2 with
      | ok a s s' h4 => show Ru.mk _ _ _ = Ru.mk _ _ _; rw [h4.2.1, h4.2.2.1]
      | err z => rfl
/-- Zeros behind the inputs. -/
def RlZ (s s' : Ms) : Prop := s'.out = s.out ∧ s'.mem = s.mem ∧ s'.fuel = s.fuel ∧ ∃ j k, s.inp ++ List.replicate j (0 : Int) = s'.inp ++ List.replicate k 0
theorem rdZ {l l' : List Int} {j k : Nat} (h : l ++ List.replicate j (0 : Int) = l' ++ List.replicate k 0) : l.headD 0 = l'.headD 0 ∧ ∃ j k, l.tail ++ List.replicate j (0 : Int) = l'.tail ++ List.replicate k 0 := by
  cases l with
  | nil =>
    cases l' with
    | nil => exact ⟨rfl, j, k, h⟩
    | cons b r =>
      cases j with
      | zero => simp at h
      | succ j =>
        rw [List.replicate_succ] at h
        injection h with h1 h2
        exact ⟨h1, j, k, h2⟩
  | cons a r =>
    cases l' with
    | nil =>
      cases k with
      | zero => simp at h
      | succ k =>
        rw [List.replicate_succ] at h
        injection h with h1 h2
        exact ⟨h1, j, k, h2⟩
    | cons b r' =>
      injection h with h1 h2
      exact ⟨h1, j, k, h2⟩
theorem rdI_hd (s : Ms) : (rdI s).1 = s.inp.headD 0 ∧ (rdI s).2.inp = s.inp.tail ∧ (rdI s).2.out = s.out ∧ (rdI s).2.mem = s.mem ∧ (rdI s).2.fuel = s.fuel := by
  unfold rdI
  cases h : s.inp with
  | nil => exact ⟨rfl, h, rfl, rfl, rfl⟩
  | cons a r => exact ⟨rfl, rfl, rfl, rfl, rfl⟩
theorem smr_zero (fs : List Tf) : Smr (fun _ => True) RlZ fs fs where
  mem := fun s s' h => h.2.1
  pay := fun s s' h hf => ⟨by have := h.2.2.1; omega, h.1, h.2.1, by show s'.fuel - 1 = s.fuel - 1; rw [h.2.2.1], h.2.2.2⟩
  inp := fun s s' h => by
    obtain ⟨a1, a2, a3, a4, a5⟩ := rdI_hd s
    obtain ⟨b1, b2, b3, b4, b5⟩ := rdI_hd s'
    obtain ⟨h1, h2, h3, j, k, h4⟩ := h
    obtain ⟨c1, c2⟩ := rdZ h4
    exact ⟨by rw [a1, b1, c1], by rw [a3, b3, h1], by rw [a4, b4, h2], by rw [a5, b5, h3], by rw [a2, b2]; exact c2⟩
  put := fun s s' i v h => ⟨h.1, by show mput s'.mem i v = _; rw [h.2.1], h.2.2⟩
  out := fun s s' v h => ⟨by show s'.out ++ [v] = _; rw [h.1], h.2⟩
  fn := fun nm f _ h => ⟨f, h, rfl, rfl, aYs_all (fun _ => trivial) _⟩
/-- The law of inputs. -/
theorem runIs_zeros {fs : List Tf} {ins : List Int} {k : Nat} {fuel : Int} {r r' : Ru} (h : RunIs fs ins fuel r) (h' : RunIs fs (ins ++ List.replicate k 0) fuel r') : r' = r := by
  cases h with
  | bad h =>
    cases h' with
    | bad => rfl
    | run f g q h2 => exact absurd h2 h
  | run f g q h hf he =>
    cases h' with
    | bad h2 => exact absurd h h2
    | run f2 g2 q2 h2 hf2 he2 =>
      rw [hf] at hf2
      cases hf2
      have hz : RlZ (ms0 ins fuel) (ms0 (ins ++ List.replicate k 0) fuel) := ⟨rfl, rfl, rfl, k, 0, by simp [ms0]⟩
      have hz' : RlZ (ms0 (ins ++ List.replicate k 0) fuel) (ms0 ins fuel) := ⟨rfl, rfl, rfl, 0, k, by simp [ms0]⟩
      have key : ∀ {s s' : Ms} {q q2 : Re Int} {g g2 : Nat}, RlZ s s' → evC g fs 0 f [] s = some q → evC g2 fs 0 f [] s' = some q2 → q ≠ .err 25 → ruOf q2 = ruOf q := fun {s s' q q2 g g2} hR h1 h2 hq => by
        obtain ⟨r2, e1, e2⟩ := (sim (smr_zero fs) g).c 0 f f [] s s' q rfl rfl (aYs_all (fun _ => trivial) _) hR h1 hq
        have h3 := mono_c (Nat.le_max_left g g2) e1
        have h4 := mono_c (Nat.le_max_right g g2) h2
        rw [h3] at h4
        cases h4
        cases e2 with
        | ok a s s' h4 => show Ru.mk _ _ _ = Ru.mk _ _ _; rw [h4.1, h4.2.1]
        | err z => rfl
      by_cases hq : q = .err 25
      · by_cases hq2 : q2 = .err 25
        · rw [hq, hq2]
        · exact (key hz' he2 he hq2).symm
      · exact key hz he he2 hq
end Go.Proofs.Ytdcbbkpdlcojfaa
namespace Go.Proofs.Ytdcbbkpdlcojfaa
set_option linter.unusedSimpArgs false
set_option linter.unusedVariables false
open Go.RowKit

theorem runIs_len {fs : List Tf} {ins : List Int} {fuel : Int} {r : Ru} (hg : GP fs) (hi : ∀ x ∈ ins, oW x) (hf : fuel ≤ 1000000) (h : RunIs fs ins fuel r) : r.out.length ≤ 1000000 ∧ r.mem.length ≤ 1000000 := by
  cases h with
  | bad h => exact ⟨Nat.zero_le _, Nat.zero_le _⟩
  | run f g q h hfm he =>
    cases q with
    | err z => exact ⟨Nat.zero_le _, Nat.zero_le _⟩
    | ok v s =>
      obtain ⟨f2, hf2⟩ := chk_fine hg h
      have hk := ((ev_ok hf2.vf g).c 0 f [] (ms0 ins fuel) v s (ffind_mem hfm) (by simp) (ms0_ok hi (by omega)) he).2
      have h1 := hk.sum
      have h2 : ((ms0 ins fuel).out.length : Int) = 0 := rfl
      have h3 : (ms0 ins fuel).fuel = fuel := rfl
      refine ⟨?_, by show ((List.range 256).map s.mem).length ≤ _; simp⟩
      show s.out.length ≤ 1000000
      omega
end Go.Proofs.Ytdcbbkpdlcojfaa
namespace Go.Proofs.Ytdcbbkpdlcojfaa
set_option linter.unusedSimpArgs false
set_option linter.unusedVariables false
open Go.RowKit

mutual
theorem GXr.det {c : Gc} : ∀ {d : Nat} {s s1 : Gs} {p : Px}, GXr c d s p s1 → ∀ {p' : Px} {s2 : Gs}, GXr c d s p' s2 → p = p' ∧ s1 = s2
  | _, _, _, _, .nam hk h hn hj hx, _, _, h2 => by
    cases h2 with
    | nam hk' h' hn' hj' hx' =>
      rw [hk] at hk'
      cases hk'
      rw [hj] at hj'; cases hj'
      rw [hx] at hx'; cases hx'
      exact ⟨rfl, rfl⟩
    | inp hk' =>
      rw [hk] at hk'
      cases hk'
      all_goals omega
    | mem hk' h' hp' =>
      rw [hk] at hk'
      cases hk'
      all_goals omega
    | una hk' hj' hx' hp' =>
      rw [hk] at hk'
      cases hk'
      all_goals omega
    | call hk' h' hj' hx' hp' =>
      rw [hk] at hk'
      cases hk'
      all_goals omega
    | bin hk' h' hj' hx' hp' hq' =>
      rw [hk] at hk'
      cases hk'
      all_goals omega
    | con hk' h1' h3' h4' h5' h6' h7' h8' hj' hx' =>
      rw [hk] at hk'
      cases hk'
      all_goals omega
  | _, _, _, _, .inp hk, _, _, h2 => by
    cases h2 with
    | nam hk' h' hn' hj' hx' =>
      rw [hk] at hk'
      cases hk'
      all_goals omega
    | inp hk' =>
      rw [hk] at hk'
      cases hk'
      exact ⟨rfl, rfl⟩
    | mem hk' h' hp' =>
      rw [hk] at hk'
      cases hk'
      all_goals omega
    | una hk' hj' hx' hp' =>
      rw [hk] at hk'
      cases hk'
      all_goals omega
    | call hk' h' hj' hx' hp' =>
      rw [hk] at hk'
      cases hk'
      all_goals omega
    | bin hk' h' hj' hx' hp' hq' =>
      rw [hk] at hk'
      cases hk'
      all_goals omega
    | con hk' h1' h3' h4' h5' h6' h7' h8' hj' hx' =>
      rw [hk] at hk'
      cases hk'
      all_goals omega
  | _ + 1, _, _, _, .mem hk h hp, _, _, h2 => by
    cases h2 with
    | nam hk' h' hn' hj' hx' =>
      rw [hk] at hk'
      cases hk'
      all_goals omega
    | inp hk' =>
      rw [hk] at hk'
      cases hk'
      all_goals omega
    | mem hk' h' hp' =>
      rw [hk] at hk'
      cases hk'
      obtain ⟨rfl, rfl⟩ := hp.det hp'
      exact ⟨rfl, rfl⟩
    | una hk' hj' hx' hp' =>
      rw [hk] at hk'
      cases hk'
      all_goals omega
    | call hk' h' hj' hx' hp' =>
      rw [hk] at hk'
      cases hk'
      all_goals omega
    | bin hk' h' hj' hx' hp' hq' =>
      rw [hk] at hk'
      cases hk'
      all_goals omega
    | con hk' h1' h3' h4' h5' h6' h7' h8' hj' hx' =>
      rw [hk] at hk'
      cases hk'
      all_goals omega
  | _ + 1, _, _, _, .una hk hj hx hp, _, _, h2 => by
    cases h2 with
    | nam hk' h' hn' hj' hx' =>
      rw [hk] at hk'
      cases hk'
      all_goals omega
    | inp hk' =>
      rw [hk] at hk'
      cases hk'
      all_goals omega
    | mem hk' h' hp' =>
      rw [hk] at hk'
      cases hk'
      all_goals omega
    | una hk' hj' hx' hp' =>
      rw [hk] at hk'
      cases hk'
      rw [hj] at hj'; cases hj'
      rw [hx] at hx'; cases hx'
      obtain ⟨rfl, rfl⟩ := hp.det hp'
      exact ⟨rfl, rfl⟩
    | call hk' h' hj' hx' hp' =>
      rw [hk] at hk'
      cases hk'
      all_goals omega
    | bin hk' h' hj' hx' hp' hq' =>
      rw [hk] at hk'
      cases hk'
      all_goals omega
    | con hk' h1' h3' h4' h5' h6' h7' h8' hj' hx' =>
      rw [hk] at hk'
      cases hk'
      all_goals omega
  | _ + 1, _, _, _, .call hk h hj hx hp, _, _, h2 => by
    cases h2 with
    | nam hk' h' hn' hj' hx' =>
      rw [hk] at hk'
      cases hk'
      all_goals omega
    | inp hk' =>
      rw [hk] at hk'
      cases hk'
      all_goals omega
    | mem hk' h' hp' =>
      rw [hk] at hk'
      cases hk'
      all_goals omega
    | una hk' hj' hx' hp' =>
      rw [hk] at hk'
      cases hk'
      all_goals omega
    | call hk' h' hj' hx' hp' =>
      rw [hk] at hk'
      cases hk'
      rw [hj] at hj'; cases hj'
      rw [hx] at hx'; cases hx'
      obtain ⟨rfl, rfl⟩ := hp.det hp'
      exact ⟨rfl, rfl⟩
    | bin hk' h' hj' hx' hp' hq' =>
      rw [hk] at hk'
      cases hk'
      all_goals omega
    | con hk' h1' h3' h4' h5' h6' h7' h8' hj' hx' =>
      rw [hk] at hk'
      cases hk'
      all_goals omega
  | _ + 1, _, _, _, .bin hk h hj hx hp hq, _, _, h2 => by
    cases h2 with
    | nam hk' h' hn' hj' hx' =>
      rw [hk] at hk'
      cases hk'
      all_goals omega
    | inp hk' =>
      rw [hk] at hk'
      cases hk'
      all_goals omega
    | mem hk' h' hp' =>
      rw [hk] at hk'
      cases hk'
      all_goals omega
    | una hk' hj' hx' hp' =>
      rw [hk] at hk'
      cases hk'
      all_goals omega
    | call hk' h' hj' hx' hp' =>
      rw [hk] at hk'
      cases hk'
      all_goals omega
    | bin hk' h' hj' hx' hp' hq' =>
      rw [hk] at hk'
      cases hk'
      rw [hj] at hj'; cases hj'
      rw [hx] at hx'; cases hx'
      obtain ⟨rfl, rfl⟩ := hp.det hp'
      obtain ⟨rfl, rfl⟩ := hq.det hq'
      exact ⟨rfl, rfl⟩
    | con hk' h1' h3' h4' h5' h6' h7' h8' hj' hx' =>
      rw [hk] at hk'
      cases hk'
      all_goals omega
  | _, _, _, _, .con hk h1 h3 h4 h5 h6 h7 h8 hj hx, _, _, h2 => by
    cases h2 with
    | nam hk' h' hn' hj' hx' =>
      rw [hk] at hk'
      cases hk'
      all_goals omega
    | inp hk' =>
      rw [hk] at hk'
      cases hk'
      all_goals omega
    | mem hk' h' hp' =>
      rw [hk] at hk'
      cases hk'
      all_goals omega
    | una hk' hj' hx' hp' =>
      rw [hk] at hk'
      cases hk'
      all_goals omega
    | call hk' h' hj' hx' hp' =>
      rw [hk] at hk'
      cases hk'
      all_goals omega
    | bin hk' h' hj' hx' hp' hq' =>
      rw [hk] at hk'
      cases hk'
      all_goals omega
    | con hk' h1' h3' h4' h5' h6' h7' h8' hj' hx' =>
      rw [hk] at hk'
      cases hk'
      rw [hj] at hj'; cases hj'
      rw [hx] at hx'; cases hx'
      exact ⟨rfl, rfl⟩
theorem GKr.det {c : Gc} : ∀ {d n : Nat} {s s1 : Gs} {ps : List Px}, GKr c d n s ps s1 → ∀ {ps' : List Px} {s2 : Gs}, GKr c d n s ps' s2 → ps = ps' ∧ s1 = s2
  | _, _, _, _, _, .nil, _, _, h2 => by
    cases h2
    exact ⟨rfl, rfl⟩
  | _, _, _, _, _, .cons hp hq, _, _, h2 => by
    cases h2 with
    | cons hp' hq' =>
      obtain ⟨rfl, rfl⟩ := hp.det hp'
      obtain ⟨rfl, rfl⟩ := hq.det hq'
      exact ⟨rfl, rfl⟩
end
theorem GCr.det {c : Gc} {d : Nat} {f : ByteArray × List ByteArray} {s s1 s2 : Gs} {p p' : Px} (h : GCr c d f s p s1) (h2 : GCr c d f s p' s2) : p = p' ∧ s1 = s2 := by
  obtain ⟨ps, h3, rfl⟩ := h
  obtain ⟨ps', h3', rfl⟩ := h2
  obtain ⟨rfl, rfl⟩ := h3.det h3'
  exact ⟨rfl, rfl⟩
mutual
theorem GYr.det {c : Gc} : ∀ {e : Nat} {s s1 : Gs} {o : List Py}, GYr c e s o s1 → ∀ {o' : List Py} {s2 : Gs}, GYr c e s o' s2 → o = o' ∧ s1 = s2
  | _, _, _, _, .mk hj h, _, _, h2 => by
    cases h2 with
    | mk hj' h' =>
      rw [hj] at hj'; cases hj'
      exact h.det h'
theorem GLr.det {c : Gc} : ∀ {e n : Nat} {s s1 : Gs} {o : List Py}, GLr c e n s o s1 → ∀ {o' : List Py} {s2 : Gs}, GLr c e n s o' s2 → o = o' ∧ s1 = s2
  | _, _, _, _, _, .zero, _, _, h2 => by
    cases h2 with
    | zero => exact ⟨rfl, rfl⟩
    | stop h' => exact ⟨rfl, rfl⟩
  | _, _, _, _, _, .stop h, _, _, h2 => by
    cases h2 with
    | zero => exact ⟨rfl, rfl⟩
    | stop h' => exact ⟨rfl, rfl⟩
    | step h' _ _ _ => omega
  | _, _, _, _, _, .step h hk h1 h2, _, _, h3 => by
    cases h3 with
    | stop h' => omega
    | step h' hk' h1' h2' =>
      rw [hk] at hk'; cases hk'
      obtain ⟨rfl, rfl⟩ := h1.det rfl h1'
      obtain ⟨rfl, rfl⟩ := h2.det h2'
      exact ⟨rfl, rfl⟩
theorem G1r.det {c : Gc} : ∀ {e : Nat} {k : Int} {s s1 : Gs} {o : List Py}, G1r c e k s o s1 → ∀ {k' : Int} {o' : List Py} {s2 : Gs}, k = k' → G1r c e k' s o' s2 → o = o' ∧ s1 = s2
  | _, _, _, _, _, .var hk hx hv hp, _, _, _, hkk, h2 => by
    cases h2 with
    | var hk' hx' hv' hp' =>
      rw [hx] at hx'; cases hx'
      obtain ⟨rfl, rfl⟩ := hp.det hp'
      exact ⟨rfl, rfl⟩
    | set hn' hj' hx' hp' =>
      omega
    | put hk' hp' hq' =>
      omega
    | iff1 hp' ha' hj' hb' =>
      omega
    | iff0 hp' ha' hj' hb' =>
      omega
    | whi hx' hv' hj' ha' =>
      omega
    | ret hj' hp' =>
      omega
    | dos h' hj' hj2' hf' hp' =>
      omega
    | out h3' hs' h4' h5' h6' h7' h8' h9' hp' =>
      omega
  | _, _, _, _, _, .set hn hj hx hp, _, _, _, hkk, h2 => by
    cases h2 with
    | var hk' hx' hv' hp' =>
      omega
    | set hn' hj' hx' hp' =>
      rw [hj] at hj'; cases hj'
      rw [hx] at hx'; cases hx'
      obtain ⟨rfl, rfl⟩ := hp.det hp'
      exact ⟨rfl, rfl⟩
    | put hk' hp' hq' =>
      omega
    | iff1 hp' ha' hj' hb' =>
      omega
    | iff0 hp' ha' hj' hb' =>
      omega
    | whi hx' hv' hj' ha' =>
      omega
    | ret hj' hp' =>
      omega
    | dos h' hj' hj2' hf' hp' =>
      omega
    | out h3' hs' h4' h5' h6' h7' h8' h9' hp' =>
      omega
  | _, _, _, _, _, .put hk hp hq, _, _, _, hkk, h2 => by
    cases h2 with
    | var hk' hx' hv' hp' =>
      omega
    | set hn' hj' hx' hp' =>
      omega
    | put hk' hp' hq' =>
      obtain ⟨rfl, rfl⟩ := hp.det hp'
      obtain ⟨rfl, rfl⟩ := hq.det hq'
      exact ⟨rfl, rfl⟩
    | iff1 hp' ha' hj' hb' =>
      omega
    | iff0 hp' ha' hj' hb' =>
      omega
    | whi hx' hv' hj' ha' =>
      omega
    | ret hj' hp' =>
      omega
    | dos h' hj' hj2' hf' hp' =>
      omega
    | out h3' hs' h4' h5' h6' h7' h8' h9' hp' =>
      exact (hk.elim (fun a => h4' (hkk.symm.trans a)) (fun a => h5' (hkk.symm.trans a))).elim
  | _ + 1, _, _, _, _, .iff1 hp ha hj hb, _, _, _, hkk, h2 => by
    cases h2 with
    | var hk' hx' hv' hp' =>
      omega
    | set hn' hj' hx' hp' =>
      omega
    | put hk' hp' hq' =>
      omega
    | iff1 hp' ha' hj' hb' =>
      obtain ⟨rfl, rfl⟩ := hp.det hp'
      obtain ⟨rfl, rfl⟩ := ha.det ha'
      rw [hj] at hj'; cases hj'
      obtain ⟨rfl, rfl⟩ := hb.det hb'
      exact ⟨rfl, rfl⟩
    | iff0 hp' ha' hj' hb' =>
      obtain ⟨rfl, rfl⟩ := hp.det hp'
      obtain ⟨rfl, rfl⟩ := ha.det ha'
      rw [hj] at hj'; cases hj'
      exact absurd rfl hb'
    | whi hx' hv' hj' ha' =>
      omega
    | ret hj' hp' =>
      omega
    | dos h' hj' hj2' hf' hp' =>
      omega
    | out h3' hs' h4' h5' h6' h7' h8' h9' hp' =>
      omega
  | _ + 1, _, _, _, _, .iff0 hp ha hj hb, _, _, _, hkk, h2 => by
    cases h2 with
    | var hk' hx' hv' hp' =>
      omega
    | set hn' hj' hx' hp' =>
      omega
    | put hk' hp' hq' =>
      omega
    | iff1 hp' ha' hj' hb' =>
      obtain ⟨rfl, rfl⟩ := hp.det hp'
      obtain ⟨rfl, rfl⟩ := ha.det ha'
      rw [hj] at hj'; cases hj'
      exact absurd rfl hb
    | iff0 hp' ha' hj' hb' =>
      obtain ⟨rfl, rfl⟩ := hp.det hp'
      obtain ⟨rfl, rfl⟩ := ha.det ha'
      rw [hj] at hj'; cases hj'
      exact ⟨rfl, rfl⟩
    | whi hx' hv' hj' ha' =>
      omega
    | ret hj' hp' =>
      omega
    | dos h' hj' hj2' hf' hp' =>
      omega
    | out h3' hs' h4' h5' h6' h7' h8' h9' hp' =>
      omega
  | _ + 2, _, _, _, _, .whi hx hv hj ha, _, _, _, hkk, h2 => by
    cases h2 with
    | var hk' hx' hv' hp' =>
      omega
    | set hn' hj' hx' hp' =>
      omega
    | put hk' hp' hq' =>
      omega
    | iff1 hp' ha' hj' hb' =>
      omega
    | iff0 hp' ha' hj' hb' =>
      omega
    | whi hx' hv' hj' ha' =>
      rw [hx] at hx'; cases hx'
      rw [hj] at hj'; cases hj'
      obtain ⟨rfl, rfl⟩ := ha.det ha'
      exact ⟨rfl, rfl⟩
    | ret hj' hp' =>
      omega
    | dos h' hj' hj2' hf' hp' =>
      omega
    | out h3' hs' h4' h5' h6' h7' h8' h9' hp' =>
      omega
  | _, _, _, _, _, .ret hj hp, _, _, _, hkk, h2 => by
    cases h2 with
    | var hk' hx' hv' hp' =>
      omega
    | set hn' hj' hx' hp' =>
      omega
    | put hk' hp' hq' =>
      omega
    | iff1 hp' ha' hj' hb' =>
      omega
    | iff0 hp' ha' hj' hb' =>
      omega
    | whi hx' hv' hj' ha' =>
      omega
    | ret hj' hp' =>
      rw [hj] at hj'; cases hj'
      obtain ⟨rfl, rfl⟩ := hp.det hp'
      exact ⟨rfl, rfl⟩
    | dos h' hj' hj2' hf' hp' =>
      omega
    | out h3' hs' h4' h5' h6' h7' h8' h9' hp' =>
      rcases h8' with ⟨b1, rfl⟩ | ⟨b1, j', b2, b3⟩
      · omega
      · rw [hj] at b3; cases b3; exact absurd rfl b2
  | _, _, _, _, _, .dos h hj hj2 hf hp, _, _, _, hkk, h2 => by
    cases h2 with
    | var hk' hx' hv' hp' =>
      omega
    | set hn' hj' hx' hp' =>
      omega
    | put hk' hp' hq' =>
      omega
    | iff1 hp' ha' hj' hb' =>
      omega
    | iff0 hp' ha' hj' hb' =>
      omega
    | whi hx' hv' hj' ha' =>
      omega
    | ret hj' hp' =>
      omega
    | dos h' hj' hj2' hf' hp' =>
      rw [hj] at hj'; cases hj'
      rw [hj2] at hj2'; cases hj2'
      rcases hf with ⟨a1, a2, rfl⟩ | ⟨a1, j3, a2, a3⟩
      · rcases hf' with ⟨b1, b2, rfl⟩ | ⟨b1, j4, b2, b3⟩
        · rw [a2] at b2; cases b2
          obtain ⟨rfl, rfl⟩ := hp.det hp'
          exact ⟨rfl, rfl⟩
        · omega
      · rcases hf' with ⟨b1, b2, rfl⟩ | ⟨b1, j4, b2, b3⟩
        · omega
        · rw [a2] at b2; cases b2
          rw [a3] at b3; cases b3
          obtain ⟨rfl, rfl⟩ := hp.det hp'
          exact ⟨rfl, rfl⟩
    | out h3' hs' h4' h5' h6' h7' h8' h9' hp' =>
      omega
  | _, _, _, _, _, .out h3 hs h4 h5 h6 h7 h8 h9 hp, _, _, _, hkk, h2 => by
    cases h2 with
    | var hk' hx' hv' hp' =>
      omega
    | set hn' hj' hx' hp' =>
      omega
    | put hk' hp' hq' =>
      exact (hk'.elim (fun a => h4 (hkk.trans a)) (fun a => h5 (hkk.trans a))).elim
    | iff1 hp' ha' hj' hb' =>
      omega
    | iff0 hp' ha' hj' hb' =>
      omega
    | whi hx' hv' hj' ha' =>
      omega
    | ret hj' hp' =>
      rcases h8 with ⟨b1, rfl⟩ | ⟨b1, j, b2, b3⟩
      · omega
      · rw [hj'] at b3; cases b3; exact absurd rfl b2
    | dos h' hj' hj2' hf' hp' =>
      omega
    | out h3' hs' h4' h5' h6' h7' h8' h9' hp' =>
      rcases h8 with ⟨a1, rfl⟩ | ⟨a1, j, a2, a3⟩
      · rcases h8' with ⟨b1, rfl⟩ | ⟨b1, j', b2, b3⟩
        · obtain ⟨rfl, rfl⟩ := hp.det hp'
          exact ⟨rfl, rfl⟩
        · omega
      · rcases h8' with ⟨b1, rfl⟩ | ⟨b1, j', b2, b3⟩
        · omega
        · rw [a3] at b3; cases b3
          obtain ⟨rfl, rfl⟩ := hp.det hp'
          exact ⟨rfl, rfl⟩
end
theorem GBr.det {l : List Int} {fs : List (ByteArray × List ByteArray)} {s0 : Gs} : ∀ {i : Nat} {ps : List Pf} {s : Gs}, GBr l fs s0 i ps s → ∀ {ps' : List Pf} {s' : Gs}, GBr l fs s0 i ps' s' → ps = ps' ∧ s = s'
  | _, _, _, .zero, _, _, h2 => by
    cases h2
    exact ⟨rfl, rfl⟩
  | _, _, _, .step h hf hb, _, _, h2 => by
    cases h2 with
    | step h' hf' hb' =>
      obtain ⟨rfl, rfl⟩ := h.det h'
      rw [hf] at hf'; cases hf'
      obtain ⟨rfl, rfl⟩ := hb.det hb'
      exact ⟨rfl, rfl⟩
theorem gMr_det {l : List Int} {a b : List Pf} (h : GMr l a) (h' : GMr l b) : a = b := by
  obtain ⟨s, h⟩ := h
  obtain ⟨s', h'⟩ := h'
  exact (h.det h').1
end Go.Proofs.Ytdcbbkpdlcojfaa
namespace Go.Proofs.Ytdcbbkpdlcojfaa
set_option linter.unusedSimpArgs false
set_option linter.unusedVariables false
open Go.RowKit

theorem own2of2w {va vb : SV} {a b : List Int} : ∀ (i : Nat) (X : Asn), ([sl 1 eU (sv va) a, sl 1 eU (sv vb) b] : List Asn)[i]? = some X → ∃ Y, ([own 22 1 eU (sv va) a, own 22 1 eU (sv vb) b] : List Asn)[i]? = some Y ∧ ∀ w G, Y.pred w G → X.pred w G
  | 0, X, hX => ⟨own 22 1 eU (sv va) a, rfl, by cases hX; exact own_to_sl⟩
  | 1, X, hX => ⟨own 22 1 eU (sv vb) b, rfl, by cases hX; exact own_to_sl⟩
  | i + 2, X, hX => by simp at hX
theorem rwords_own (va vb : SV) (a b : List Int) (hl : a.length ≤ 1000000) : Spec Try.prog 21 [sv va, sv vb] [] [own 22 1 eU (sv va) a, own 22 1 eU (sv vb) b] (X := Unit) (fun _ => True) (fun _ => .bool (decide (a = b))) (fun _ => []) (fun _ => []) := Spec.roAll (rwords_spec va vb a b hl) own2of2w
set_option maxHeartbeats 8000000 in
set_option maxRecDepth 100000 in
theorem keeps_law (x0 : SV) (s : List Int) (b0 : ∀ n ∈ s, okI n) (x1 : SV) (u : List Int) (b1 : ∀ n ∈ u, oW n) (n : Int) (hn : 0 ≤ n ∧ n < 65536) :
    Spec Try.prog 11 [sv x0, sv x1, .int .u16 n] [] [sl 1 eI (sv x0) s, sl 1 eU (sv x1) u] (X := Unit) (fun _ => True) (fun _ => .bool true) (fun _ => []) (fun _ => []) := by
  refine r_enter Try.func11 rfl Try.ntmps11 rfl fun w0 M H => ?_
  refine r_seq ?_
  refine r_region ?_
  refine r_p (p_assign rfl) rfl ?_
  refine r_nil ?_
  refine r_seq ?_
  refine r_region ?_
  refine r_callN (xs := []) sanity_spec cb12 [] [] [] rfl rfl rfl rfl rfl rfl rfl rfl (fun _ _ => rfl) (fun _ _ _ => rfl) rfl (fun _ _ => ?_)
  refine r_p (p_assign rfl) rfl ?_
  refine r_nil ?_
  refine r_seq ?_
  refine r_region ?_
  refine r_p (p_move rfl) rfl ?_
  refine r_p (p_move rfl) rfl ?_
  refine r_p (p_len_sl Try.underlying34 rfl (hs_sl (k := 0) rfl)) rfl ?_
  refine r_p (p_min rfl rfl rfl) rfl ?_
  refine r_slice_hi (j := (min s.length 120)) 0 27 Try.underlying34 t3 (by intro _; rfl) rfl rfl (by omega) (by omega) rfl rfl fun v27 => ?_
  refine r_callN (xs := [.tmp 27]) (made_spec v27 (s.take (min s.length 120)) (by rw [List.length_take]; omega) (fun x hx => b0 x (List.mem_of_mem_take hx))) cb18 [] [(false, 27)] [90] rfl rfl rfl rfl rfl rfl rfl rfl (fun _ _ => rfl) (fun _ _ _ => rfl) rfl (fun ⟨vp, fs⟩ hm => ?_)
  have hiu : ∀ x ∈ u.take (min u.length 20), oW x := fun x hx => b1 x (List.mem_of_mem_take hx)
  have hul : (u.take (min u.length 20)).length ≤ 1000000 := (by rw [List.length_take]; omega)
  have hg : GP fs := gMr_gp hm
  obtain ⟨⟨e1, o1, m1⟩, hr1⟩ := runIs_ex (fuel := n % 4004 - 3) hg hiu (by omega)
  have hol := runIs_len hg hiu (by omega) hr1
  dsimp only at hol
  refine r_alloc t40 rfl rfl fun b8 => ?_
  refine r_store_all (k := 8) t40 rfl rfl rfl rfl rfl rfl ?_
  refine r_nil ?_
  refine r_seq ?_
  refine r_region ?_
  refine r_p (p_move rfl) rfl ?_
  refine r_p (p_move rfl) rfl ?_
  refine r_p (p_len_sl Try.underlying34 rfl (hs_sl (k := 0) rfl)) rfl ?_
  refine r_p (p_min rfl rfl rfl) rfl ?_
  refine r_slice_hi (j := (min s.length 120)) 0 33 Try.underlying34 t3 (by intro _; rfl) rfl rfl (by omega) (by omega) rfl rfl fun v33 => ?_
  refine r_callN (xs := [.tmp 33]) (made_spec v33 (s.take (min s.length 120)) (by rw [List.length_take]; omega) (fun x hx => b0 x (List.mem_of_mem_take hx))) cb18 [] [(false, 33)] [91] rfl rfl rfl rfl rfl rfl rfl rfl (fun _ _ => rfl) (fun _ _ _ => rfl) rfl (fun ⟨vq, gs⟩ hm2 => ?_)
  have heq : fs.map erF = gs.map erF := gMr_det hm hm2
  refine r_alloc t40 rfl rfl fun b9 => ?_
  refine r_store_all (k := 9) t40 rfl rfl rfl rfl rfl rfl ?_
  refine r_nil ?_
  refine r_seq ?_
  refine r_region ?_
  refine r_bslice0 eU Try.underlying35 t22 rfl fun v35 => ?_
  refine r_p (p_move rfl) rfl ?_
  refine r_p (p_move rfl) rfl ?_
  refine r_p (p_len_sl Try.underlying35 rfl (hs_sl (k := 1) rfl)) rfl ?_
  refine r_p (p_min rfl rfl rfl) rfl ?_
  refine r_slice_hi (j := (min u.length 20)) 1 40 Try.underlying35 t22 (by intro _; rfl) rfl rfl (by omega) (by omega) rfl rfl fun v40 => ?_
  refine r_append 35 Try.underlying35 t22 rfl (by decide) (fun _ => rfl) (fun _ => rfl) rfl rfl rfl (hs_sl (k := 40) rfl) (by simp only [List.nil_append, List.length_nil, List.length_take]; omega) (by unfold maxLen; simp only [List.nil_append, List.length_nil, List.length_take]; omega) rfl fun v41 => ?_
  refine r_p (p_assign rfl) rfl ?_
  refine r_nil ?_
  refine r_seq ?_
  refine r_region ?_
  refine r_bslice0 eU Try.underlying35 t22 rfl fun v42 => ?_
  refine r_p (p_move rfl) rfl ?_
  refine r_append 42 Try.underlying35 t22 rfl (by decide) (fun _ => rfl) (fun _ => rfl) rfl rfl rfl (hs_own (k := 35) rfl) (by simp only [List.nil_append, List.length_nil, List.length_take]; omega) (by unfold maxLen; simp only [List.nil_append, List.length_nil, List.length_take]; omega) rfl fun v44 => ?_
  refine r_p (p_assign rfl) rfl ?_
  refine r_freeze 35 92 rfl own_to_sl ?_
  refine r_freeze 42 93 rfl own_to_sl ?_
  refine r_nil ?_
  refine r_seq ?_
  refine r_drawM [0, 1, 2, 3, 4, 5, 6, 7, 8, 9, 10, 11] [0, 1, 2, 3, 4, 5, 6, 8, 10, 7, 9, 11] [46, 47, 48, 49, 50, 45, 51, 52, 53, 11, 12, 13] _ rfl rfl rfl (stg_mem (V := [(0, 46, _), (1, 47, _), (2, 48, _)]) [0, 1, 2] 3 [3, 2] [] (fun _ => []) rfl rfl (prs_cons (pri rfl (p_loadA t40 rfl rfl rfl (g_all (k := 8) rfl))) (prs_cons (pri rfl (p_move rfl)) (prs_cons (pri rfl (p_move rfl)) prs_nil))) rfl rfl rfl rfl rfl rfl rfl rfl rfl rfl rfl (fun _ _ => rfl) rfl (ms_callN (xs := [.tmp 48]) (units_spec n hn) cb19 [] [] [] rfl rfl rfl rfl rfl rfl rfl rfl (fun _ _ => rfl) (fun _ _ _ => rfl)) (fun _ _ => stg_mem [0, 1] 4 [4, 3, 2, 1, 0] [5, 6, 7, 8, 9, 10, 11] (fun xa => [(5, 45, _), (6, 51, _), (7, 52, _), (8, 53, _), (9, 11, _), (10, 12, _), (11, 13, _)]) rfl rfl (prs_cons (pri rfl (p_loadA t40 rfl rfl rfl (g_all (k := 8) rfl))) (prs_cons (pri rfl (p_move rfl)) prs_nil)) rfl rfl rfl rfl rfl rfl rfl rfl rfl rfl rfl (fun _ _ => rfl) rfl (ms_callN (xs := [.tmp 46, .tmp 47, .tmp 49]) (run_spec vp v41 fs (u.take (min u.length 20)) (n % 4004 - 3) hg hiu hul (by omega) _ hr1) cb20 [] [(true, 90), (false, 92)] [60, 61] rfl rfl rfl rfl rfl rfl rfl rfl (fun _ _ => rfl) (fun _ _ _ => rfl)) (fun xa _ => stg_end [5, 6, 7, 8, 9, 10, 11] rfl rfl (prs_cons (pri rfl (p_move rfl)) (prs_cons (pri rfl (p_extract rfl rfl)) (prs_cons (pri rfl (p_extract rfl rfl)) (prs_cons (pri rfl (p_extract rfl rfl)) (prs_cons (pri rfl (p_assign rfl)) (prs_cons (pri rfl (p_assign rfl)) (prs_cons (pri rfl (p_assign rfl)) prs_nil))))))) rfl rfl rfl ?_)))
  obtain ⟨ra, rb⟩ := xa
  (try dsimp only)
  refine r_seq ?_
  refine r_drawM [0, 1, 2, 3, 4, 5, 6, 7, 8, 9, 10, 11] [0, 1, 2, 3, 4, 5, 6, 8, 10, 7, 9, 11] [55, 56, 57, 58, 59, 54, 60, 61, 62, 14, 15, 16] _ rfl rfl rfl (stg_mem (V := [(0, 55, _), (1, 56, _), (2, 57, _)]) [0, 1, 2] 3 [3, 2] [] (fun _ => []) rfl rfl (prs_cons (pri rfl (p_loadA t40 rfl rfl rfl (g_all (k := 8) rfl))) (prs_cons (pri rfl (p_move rfl)) (prs_cons (pri rfl (p_move rfl)) prs_nil))) rfl rfl rfl rfl rfl rfl rfl rfl rfl rfl rfl (fun _ _ => rfl) rfl (ms_callN (xs := [.tmp 57]) (units_spec n hn) cb19 [] [] [] rfl rfl rfl rfl rfl rfl rfl rfl (fun _ _ => rfl) (fun _ _ _ => rfl)) (fun _ _ => stg_mem [0, 1] 4 [4, 3, 2, 1, 0] [5, 6, 7, 8, 9, 10, 11] (fun xc => [(5, 54, _), (6, 60, _), (7, 61, _), (8, 62, _), (9, 14, _), (10, 15, _), (11, 16, _)]) rfl rfl (prs_cons (pri rfl (p_loadA t40 rfl rfl rfl (g_all (k := 8) rfl))) (prs_cons (pri rfl (p_move rfl)) prs_nil)) rfl rfl rfl rfl rfl rfl rfl rfl rfl rfl rfl (fun _ _ => rfl) rfl (ms_callN (xs := [.tmp 55, .tmp 56, .tmp 58]) (run_spec vp v41 fs (u.take (min u.length 20)) (n % 4004 - 3) hg hiu hul (by omega) _ hr1) cb20 [] [(true, 90), (false, 92)] [62, 63] rfl rfl rfl rfl rfl rfl rfl rfl (fun _ _ => rfl) (fun _ _ _ => rfl)) (fun xc _ => stg_end [5, 6, 7, 8, 9, 10, 11] rfl rfl (prs_cons (pri rfl (p_move rfl)) (prs_cons (pri rfl (p_extract rfl rfl)) (prs_cons (pri rfl (p_extract rfl rfl)) (prs_cons (pri rfl (p_extract rfl rfl)) (prs_cons (pri rfl (p_assign rfl)) (prs_cons (pri rfl (p_assign rfl)) (prs_cons (pri rfl (p_assign rfl)) prs_nil))))))) rfl rfl rfl ?_)))
  obtain ⟨rc, rd⟩ := xc
  (try dsimp only)
  refine r_seq ?_
  refine r_seq ?_
  refine r_region ?_
  refine r_p (p_move rfl) rfl ?_
  refine r_p (p_move rfl) rfl ?_
  refine r_p (p_bin rfl rfl b_ne) rfl ?_
  with_reducible rw [decide_eq_true (rfl : e1 = e1)]
  refine r_p (p_move rfl) rfl ?_
  refine r_gyes rfl rfl ?_
  refine r_p (p_move rfl) rfl ?_
  refine r_gyes rfl rfl ?_
  refine r_p (p_move rfl) rfl ?_
  refine r_gyes rfl rfl ?_
  refine r_callN (xs := [.tmp 67, .tmp 68]) (rwords_own ra rc o1 o1 hol.1) cb21 [] [(true, 60), (true, 62)] [] rfl rfl rfl rfl rfl rfl rfl rfl (fun _ _ => rfl) (fun _ _ _ => rfl) rfl (fun _ _ => ?_)
  with_reducible rw [decide_eq_true (rfl : o1 = o1)]
  refine r_gyes rfl rfl ?_
  refine r_p (p_not rfl) rfl ?_
  refine r_p (p_pick rfl rfl rfl (pick_f rfl)) rfl ?_
  refine r_p (p_move rfl) rfl ?_
  refine r_gyes rfl rfl ?_
  refine r_p (p_move rfl) rfl ?_
  refine r_gyes rfl rfl ?_
  refine r_p (p_move rfl) rfl ?_
  refine r_gyes rfl rfl ?_
  refine r_callN (xs := [.tmp 73, .tmp 74]) (rwords_own rb rd m1 m1 hol.2) cb21 [] [(true, 61), (true, 63)] [] rfl rfl rfl rfl rfl rfl rfl rfl (fun _ _ => rfl) (fun _ _ _ => rfl) rfl (fun _ _ => ?_)
  with_reducible rw [decide_eq_true (rfl : m1 = m1)]
  refine r_gyes rfl rfl ?_
  refine r_p (p_not rfl) rfl ?_
  refine r_p (p_pick rfl rfl rfl (pick_f rfl)) rfl ?_
  refine r_p (p_move rfl) rfl ?_
  refine r_gyes rfl rfl ?_
  refine r_p (p_loadA t40 rfl rfl rfl (g_all (k := 8) rfl)) rfl ?_
  refine r_gyes rfl rfl ?_
  refine r_p (p_loadA t40 rfl rfl rfl (g_all (k := 9) rfl)) rfl ?_
  refine r_gyes rfl rfl ?_
  refine r_callN (xs := [.tmp 79, .tmp 80]) (equal_spec vp vq fs gs hg heq) cb30 [] [(true, 90), (true, 91)] [] rfl rfl rfl rfl rfl rfl rfl rfl (fun _ _ => rfl) (fun _ _ _ => rfl) rfl (fun _ _ => ?_)
  refine r_gyes rfl rfl ?_
  refine r_p (p_not rfl) rfl ?_
  refine r_p (p_pick rfl rfl rfl (pick_f rfl)) rfl ?_
  refine r_p (p_move rfl) rfl ?_
  refine r_gyes rfl rfl ?_
  refine r_p (p_move rfl) rfl ?_
  refine r_gyes rfl rfl ?_
  refine r_p (p_move rfl) rfl ?_
  refine r_gyes rfl rfl ?_
  refine r_callN (xs := [.tmp 85, .tmp 86]) (rwords_spec v41 v44 ((u.take (min u.length 20))) ((u.take (min u.length 20))) hul) cb21 [] [(false, 92), (false, 93)] [] rfl rfl rfl rfl rfl rfl rfl rfl (fun _ _ => rfl) (fun _ _ _ => rfl) rfl (fun _ _ => ?_)
  with_reducible rw [decide_eq_true (rfl : (u.take (min u.length 20)) = (u.take (min u.length 20)))]
  refine r_gyes rfl rfl ?_
  refine r_p (p_not rfl) rfl ?_
  refine r_p (p_pick rfl rfl rfl (pick_f rfl)) rfl ?_
  refine r_nil ?_
  refine r_cond rfl (fun h1 => ?_) (fun h1 => ?_)
  · exact absurd h1 (by simp)
  · refine r_skip ?_
    refine r_seq ?_
    refine r_seq ?_
    refine r_region ?_
    refine r_p (p_move rfl) rfl ?_
    refine r_p (p_len_sl Try.underlying35 rfl (hs_own (k := 60) rfl)) rfl ?_
    refine r_p (p_move rfl) rfl ?_
    refine r_nil ?_
    refine r_block ?_
    refine r_loop (X := Nat × List Int) (fun x => x.1 ≤ o1.length ∧ x.2.length = o1.length) (fun x => [(1, sv v41), (2, .int .u16 n), (7, .bool true), (8, .pointer (some ⟨b8, 0, none⟩)), (12, sv rb), (14, sv rc), (15, sv rd), (16, .int .i64 e1), (11, sv ra), (91, .int .i64 (o1.length : Int)), (92, .int .i64 (x.1 : Int))]) (fun x => [(8, row b8 40 [sv vp]), (90, tfsA vp fs), (60, own 22 1 eU (sv ra) x.2), (61, own 22 1 eU (sv rb) m1), (62, own 22 1 eU (sv rc) o1), (63, own 22 1 eU (sv rd) m1)]) (fun x => [(92, sl 1 eU (sv v41) ((u.take (min u.length 20))))]) (fun x => o1.length - x.1) (0, o1) ⟨Nat.zero_le _, rfl⟩ rfl rfl rfl (fun x hx0 => ?_)
    obtain ⟨i, c⟩ := x
    obtain ⟨n1, n2⟩ := hx0
    dsimp only at n1 n2 ⊢
    refine r_seq ?_
    refine r_region ?_
    refine r_p (p_bin rfl rfl b_lt) rfl ?_
    refine r_nil ?_
    refine r_seq ?_
    refine r_cond rfl (fun h2 => ?_) (fun h2 => ?_)
    · (try simp only [decide_eq_true_eq, decide_eq_false_iff_not, Bool.and_eq_true, Bool.or_eq_true, Bool.and_eq_false_iff, Bool.or_eq_false_iff, Bool.not_eq_true, Bool.not_eq_false, Bool.not_eq_true', Bool.not_eq_false', Bool.not_not, bne_iff_ne, beq_iff_eq] at h2)
      have hi : i < o1.length := by omega
      obtain ⟨y, hy⟩ : ∃ y, c[i]? = some y := ⟨_, List.getElem?_eq_getElem (by omega)⟩
      refine r_skip ?_
      refine r_seq ?_
      refine r_block ?_
      refine r_seq ?_
      refine r_region ?_
      refine r_p (p_move rfl) rfl ?_
      refine r_p (p_assign rfl) rfl ?_
      refine r_nil ?_
      refine r_region ?_
      refine r_p (p_move rfl) rfl ?_
      refine r_p (p_move rfl) rfl ?_
      refine r_p (p_idx_sl (j := i) Try.underlying35 t22 rfl rfl (hs_own (k := 60) rfl) (by first | rfl | omega) (by omega)) rfl ?_
      refine r_p (p_load1 t22 rfl rfl (g_el' (hs_own (k := 60) rfl) (by intro _; rfl) hy (by rfl))) rfl ?_
      refine r_p (p_bin rfl rfl (b_add rfl)) rfl ?_
      refine r_p (p_idx_sl (j := i) Try.underlying35 t22 rfl rfl (hs_own (k := 60) rfl) (by first | rfl | omega) (by omega)) rfl ?_
      refine r_store_el (k := 60) (e' := (IntKind.u32.wrap (y + 1))) t22 rfl rfl rfl (by intro _; rfl) hy rfl rfl ?_
      refine r_nil ?_
      refine r_region ?_
      refine r_p (p_bin rfl rfl (b_add (by first | exact w_i64 (by omega) (by omega) | rfl))) rfl ?_
      refine r_p (p_move rfl) rfl ?_
      refine r_nil ?_
      refine r_here (i + 1, c.set i (IntKind.u32.wrap (y + 1))) ⟨⟨by dsimp only; omega, by dsimp only; rw [List.length_set]; exact n2⟩, by dsimp only; omega⟩ rfl rfl rfl
    · (try simp only [decide_eq_true_eq, decide_eq_false_iff_not, Bool.and_eq_true, Bool.or_eq_true, Bool.and_eq_false_iff, Bool.or_eq_false_iff, Bool.not_eq_true, Bool.not_eq_false, Bool.not_eq_true', Bool.not_eq_false', Bool.not_not, bne_iff_ne, beq_iff_eq] at h2)
      obtain ⟨c0, hc0⟩ : ∃ c0, c = c0 := ⟨_, rfl⟩
      rw [hc0]
      refine r_exit ?_
      refine r_seq ?_
      refine r_seq ?_
      refine r_region ?_
      refine r_p (p_move rfl) rfl ?_
      refine r_p (p_len_sl Try.underlying35 rfl (hs_own (k := 61) rfl)) rfl ?_
      refine r_p (p_move rfl) rfl ?_
      refine r_nil ?_
      refine r_block ?_
      refine r_loop (X := Nat × List Int) (fun x => x.1 ≤ m1.length ∧ x.2.length = m1.length) (fun x => [(1, sv v41), (2, .int .u16 n), (7, .bool true), (8, .pointer (some ⟨b8, 0, none⟩)), (12, sv rb), (14, sv rc), (15, sv rd), (16, .int .i64 e1), (103, .int .i64 (m1.length : Int)), (104, .int .i64 (x.1 : Int))]) (fun x => [(8, row b8 40 [sv vp]), (90, tfsA vp fs), (60, own 22 1 eU (sv ra) c0), (61, own 22 1 eU (sv rb) x.2), (62, own 22 1 eU (sv rc) o1), (63, own 22 1 eU (sv rd) m1)]) (fun x => [(92, sl 1 eU (sv v41) ((u.take (min u.length 20))))]) (fun x => m1.length - x.1) (0, m1) ⟨Nat.zero_le _, rfl⟩ rfl rfl rfl (fun x hx0 => ?_)
      obtain ⟨i, c⟩ := x
      obtain ⟨n1, n2⟩ := hx0
      dsimp only at n1 n2 ⊢
      refine r_seq ?_
      refine r_region ?_
      refine r_p (p_bin rfl rfl b_lt) rfl ?_
      refine r_nil ?_
      refine r_seq ?_
      refine r_cond rfl (fun h3 => ?_) (fun h3 => ?_)
      · (try simp only [decide_eq_true_eq, decide_eq_false_iff_not, Bool.and_eq_true, Bool.or_eq_true, Bool.and_eq_false_iff, Bool.or_eq_false_iff, Bool.not_eq_true, Bool.not_eq_false, Bool.not_eq_true', Bool.not_eq_false', Bool.not_not, bne_iff_ne, beq_iff_eq] at h3)
        have hi : i < m1.length := by omega
        obtain ⟨y, hy⟩ : ∃ y, c[i]? = some y := ⟨_, List.getElem?_eq_getElem (by omega)⟩
        refine r_skip ?_
        refine r_seq ?_
        refine r_block ?_
        refine r_seq ?_
        refine r_region ?_
        refine r_p (p_move rfl) rfl ?_
        refine r_p (p_assign rfl) rfl ?_
        refine r_nil ?_
        refine r_region ?_
        refine r_p (p_move rfl) rfl ?_
        refine r_p (p_move rfl) rfl ?_
        refine r_p (p_idx_sl (j := i) Try.underlying35 t22 rfl rfl (hs_own (k := 61) rfl) (by first | rfl | omega) (by omega)) rfl ?_
        refine r_p (p_load1 t22 rfl rfl (g_el' (hs_own (k := 61) rfl) (by intro _; rfl) hy (by rfl))) rfl ?_
        refine r_p (p_bin rfl rfl (b_add rfl)) rfl ?_
        refine r_p (p_idx_sl (j := i) Try.underlying35 t22 rfl rfl (hs_own (k := 61) rfl) (by first | rfl | omega) (by omega)) rfl ?_
        refine r_store_el (k := 61) (e' := (IntKind.u32.wrap (y + 1))) t22 rfl rfl rfl (by intro _; rfl) hy rfl rfl ?_
        refine r_nil ?_
        refine r_region ?_
        refine r_p (p_bin rfl rfl (b_add (by first | exact w_i64 (by omega) (by omega) | rfl))) rfl ?_
        refine r_p (p_move rfl) rfl ?_
        refine r_nil ?_
        refine r_here (i + 1, c.set i (IntKind.u32.wrap (y + 1))) ⟨⟨by dsimp only; omega, by dsimp only; rw [List.length_set]; exact n2⟩, by dsimp only; omega⟩ rfl rfl rfl
      · (try simp only [decide_eq_true_eq, decide_eq_false_iff_not, Bool.and_eq_true, Bool.or_eq_true, Bool.and_eq_false_iff, Bool.or_eq_false_iff, Bool.not_eq_true, Bool.not_eq_false, Bool.not_eq_true', Bool.not_eq_false', Bool.not_not, bne_iff_ne, beq_iff_eq] at h3)
        refine r_exit ?_
        refine r_seq ?_
        refine r_drawM [0, 1, 2, 3, 4, 5, 6, 7, 8, 9, 10, 11] [0, 1, 2, 3, 4, 5, 6, 8, 10, 7, 9, 11] [115, 116, 117, 118, 119, 114, 120, 121, 122, 19, 20, 21] _ rfl rfl rfl (stg_mem (V := [(0, 115, _), (1, 116, _), (2, 117, _)]) [0, 1, 2] 3 [3, 2] [] (fun _ => []) rfl rfl (prs_cons (pri rfl (p_loadA t40 rfl rfl rfl (g_all (k := 8) rfl))) (prs_cons (pri rfl (p_move rfl)) (prs_cons (pri rfl (p_move rfl)) prs_nil))) rfl rfl rfl rfl rfl rfl rfl rfl rfl rfl rfl (fun _ _ => rfl) rfl (ms_callN (xs := [.tmp 117]) (units_spec n hn) cb19 [] [] [] rfl rfl rfl rfl rfl rfl rfl rfl (fun _ _ => rfl) (fun _ _ _ => rfl)) (fun _ _ => stg_mem [0, 1] 4 [4, 3, 2, 1, 0] [5, 6, 7, 8, 9, 10, 11] (fun xe => [(5, 114, _), (6, 120, _), (7, 121, _), (8, 122, _), (9, 19, _), (10, 20, _), (11, 21, _)]) rfl rfl (prs_cons (pri rfl (p_loadA t40 rfl rfl rfl (g_all (k := 8) rfl))) (prs_cons (pri rfl (p_move rfl)) prs_nil)) rfl rfl rfl rfl rfl rfl rfl rfl rfl rfl rfl (fun _ _ => rfl) rfl (ms_callN (xs := [.tmp 115, .tmp 116, .tmp 118]) (run_spec vp v41 fs (u.take (min u.length 20)) (n % 4004 - 3) hg hiu hul (by omega) _ hr1) cb20 [] [(true, 90), (false, 92)] [64, 65] rfl rfl rfl rfl rfl rfl rfl rfl (fun _ _ => rfl) (fun _ _ _ => rfl)) (fun xe _ => stg_end [5, 6, 7, 8, 9, 10, 11] rfl rfl (prs_cons (pri rfl (p_move rfl)) (prs_cons (pri rfl (p_extract rfl rfl)) (prs_cons (pri rfl (p_extract rfl rfl)) (prs_cons (pri rfl (p_extract rfl rfl)) (prs_cons (pri rfl (p_assign rfl)) (prs_cons (pri rfl (p_assign rfl)) (prs_cons (pri rfl (p_assign rfl)) prs_nil))))))) rfl rfl rfl ?_)))
        obtain ⟨re, rf⟩ := xe
        (try dsimp only)
        refine r_seq ?_
        refine r_region ?_
        refine r_p (p_move rfl) rfl ?_
        refine r_p (p_move rfl) rfl ?_
        refine r_gyes rfl rfl ?_
        refine r_p (p_move rfl) rfl ?_
        refine r_gyes rfl rfl ?_
        refine r_p (p_move rfl) rfl ?_
        refine r_gyes rfl rfl ?_
        refine r_p (p_bin rfl rfl b_eq) rfl ?_
        with_reducible rw [decide_eq_true (rfl : e1 = e1)]
        refine r_p (p_pick rfl rfl rfl (pick_t rfl)) rfl ?_
        refine r_p (p_move rfl) rfl ?_
        refine r_gyes rfl rfl ?_
        refine r_p (p_move rfl) rfl ?_
        refine r_gyes rfl rfl ?_
        refine r_p (p_move rfl) rfl ?_
        refine r_gyes rfl rfl ?_
        refine r_callN (xs := [.tmp 130, .tmp 131]) (rwords_own rc re o1 o1 hol.1) cb21 [] [(true, 62), (true, 64)] [] rfl rfl rfl rfl rfl rfl rfl rfl (fun _ _ => rfl) (fun _ _ _ => rfl) rfl (fun _ _ => ?_)
        with_reducible rw [decide_eq_true (rfl : o1 = o1)]
        refine r_p (p_pick rfl rfl rfl (pick_t rfl)) rfl ?_
        refine r_p (p_move rfl) rfl ?_
        refine r_gyes rfl rfl ?_
        refine r_p (p_move rfl) rfl ?_
        refine r_gyes rfl rfl ?_
        refine r_p (p_move rfl) rfl ?_
        refine r_gyes rfl rfl ?_
        refine r_callN (xs := [.tmp 135, .tmp 136]) (rwords_own rd rf m1 m1 hol.2) cb21 [] [(true, 63), (true, 65)] [] rfl rfl rfl rfl rfl rfl rfl rfl (fun _ _ => rfl) (fun _ _ _ => rfl) rfl (fun _ _ => ?_)
        with_reducible rw [decide_eq_true (rfl : m1 = m1)]
        refine r_p (p_pick rfl rfl rfl (pick_t rfl)) rfl ?_
        refine r_p (p_assign rfl) rfl ?_
        refine r_nil ?_
        refine r_cret ?_
        refine r_ret () trivial rfl (rs1 (rv_tmp rfl)) rfl [] [] rfl rfl rfl

end Go.Proofs.Ytdcbbkpdlcojfaa
