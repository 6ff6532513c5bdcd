/-
  Every execution ends: plain. No condition.
-/
import Derived.Test.YtdcbbkpdlcojfaaAE
namespace Go.Proofs.Ytdcbbkpdlcojfaa
set_option linter.unusedSimpArgs false
set_option linter.unusedVariables false
open Go.RowKit

theorem mono_x {fs : List Tf} {g g' : Nat} (h : g ≤ g') {d vs t s r} (hr : evX g fs d vs t s = some r) : evX g' fs d vs t s = some r := by
  induction h with
  | refl => exact hr
  | step _ ih => exact (mono fs _).x _ _ _ _ _ ih
theorem mono_k {fs : List Tf} {g g' : Nat} (h : g ≤ g') {d vs acc l s r} (hr : evK g fs d vs acc l s = some r) : evK g' fs d vs acc l s = some r := by
  induction h with
  | refl => exact hr
  | step _ ih => exact (mono fs _).k _ _ _ _ _ _ ih
theorem mono_c {fs : List Tf} {g g' : Nat} (h : g ≤ g') {d f al s r} (hr : evC g fs d f al s = some r) : evC g' fs d f al s = some r := by
  induction h with
  | refl => exact hr
  | step _ ih => exact (mono fs _).c _ _ _ _ _ ih
theorem mono_b {fs : List Tf} {g g' : Nat} (h : g ≤ g') {d vs l s r} (hr : evB g fs d vs l s = some r) : evB g' fs d vs l s = some r := by
  induction h with
  | refl => exact hr
  | step _ ih => exact (mono fs _).b _ _ _ _ _ ih
theorem mono_s {fs : List Tf} {g g' : Nat} (h : g ≤ g') {d vs t s r} (hr : evS g fs d vs t s = some r) : evS g' fs d vs t s = some r := by
  induction h with
  | refl => exact hr
  | step _ ih => exact (mono fs _).s _ _ _ _ _ ih
theorem mono_w {fs : List Tf} {g g' : Nat} (h : g ≤ g') {d vs e l v s r} (hr : evW g fs d vs e l v s = some r) : evW g' fs d vs e l v s = some r := by
  induction h with
  | refl => exact hr
  | step _ ih => exact (mono fs _).w _ _ _ _ _ _ _ ih
/-- An expression costs at least one unit. -/
theorem evX_cost {fs : List Tf} (hF : VF fs) {g d vs t s v s'} (ht : VX fs t) (hv : okVs vs) (hs : okMs s) (h : evX g fs d vs t s = some (.ok v s')) : s'.fuel + 1 ≤ s.fuel := by
  cases g with
  | zero => simp [evX] at h
  | succ g =>
    rw [evX] at h
    by_cases hf : s.fuel ≤ 0
    · rw [if_pos hf] at h; simp at h
    · rw [if_neg hf] at h
      have hp := Kp.pay hs hf
      cases hk : evK g fs d vs [] t.kids { s with fuel := s.fuel - 1 } with
      | none => rw [hk] at h; simp at h
      | some q =>
        rw [hk] at h
        cases q with
        | err z => simp at h
        | ok ks s1 =>
          obtain ⟨k1, _, k3⟩ := (ev_ok hF g).k d vs [] t.kids _ ks s1 (by cases t; exact ht.2.2.2.2.2.2) hv hp.ok (by simp) hk
          have h3 := k3.fl
          dsimp only at h3 h
          have fin : ∀ {a : Int} {s2 : Ms}, some (Re.ok a s2) = some (Re.ok v s') → s2.fuel = s1.fuel → s'.fuel + 1 ≤ s.fuel := fun h hs2 => by
            simp only [Option.some.injEq, Re.ok.injEq] at h
            obtain ⟨-, rfl⟩ := h
            omega
          split at h
          · exact fin h rfl
          · split at h
            · exact fin h rfl
            · split at h
              · exact fin h rfl
              · split at h
                · split at h
                  · exact fin h rfl
                  · exact fin h rfl
                · split at h
                  · exact fin h rfl
                  · split at h
                    · exact fin h rfl
                    · split at h
                      · simp at h
                      · rename_i f hff
                        have := ((ev_ok hF g).c d f ks s1 v s' (ffind_mem hff) k1 k3.ok h).2.fl
                        omega
/-- With at most n units, everything ends. -/
structure Tot (fs : List Tf) (n : Nat) : Prop where
  x : ∀ d vs t s, VX fs t → okVs vs → okMs s → s.fuel ≤ (n : Int) → ∃ g r, evX g fs d vs t s = some r
  k : ∀ d vs l acc s, VXs fs l → okVs vs → okMs s → s.fuel ≤ (n : Int) → ∃ g r, evK g fs d vs acc l s = some r
  b : ∀ d vs l s, VYs fs l → okVs vs → okMs s → s.fuel ≤ (n : Int) → ∃ g r, evB g fs d vs l s = some r
  c : ∀ d f al s, f ∈ fs → (∀ a ∈ al, oW a) → okMs s → s.fuel ≤ (n : Int) → ∃ g r, evC g fs d f al s = some r
  w : ∀ d vs e l v s, VX fs e → VYs fs l → okVs vs → okMs s → s.fuel ≤ (n : Int) → ∃ g r, evW g fs d vs e l v s = some r
theorem tot_k {fs : List Tf} (hF : VF fs) {n : Nat} (hx : ∀ d vs t s, VX fs t → okVs vs → okMs s → s.fuel ≤ (n : Int) → ∃ g r, evX g fs d vs t s = some r) :
    ∀ d vs l acc s, VXs fs l → okVs vs → okMs s → s.fuel ≤ (n : Int) → ∃ g r, evK g fs d vs acc l s = some r
  | d, vs, [], acc, s, _, _, _, _ => ⟨1, .ok acc s, by rw [evK]⟩
  | d, vs, t :: l, acc, s, hl, hv, hs, hn => by
    obtain ⟨g1, r1, h1⟩ := hx d vs t s hl.1 hv hs hn
    cases r1 with
    | err z => exact ⟨g1 + 1, .err z, by rw [evK, h1]⟩
    | ok v s1 =>
      have hk := ((ev_ok hF g1).x d vs t s v s1 hl.1 hv hs h1).2
      obtain ⟨g2, r2, h2⟩ := tot_k hF hx d vs l (acc ++ [v]) s1 hl.2 hv hk.ok (Int.le_trans hk.fl hn)
      refine ⟨g1 + g2 + 1, r2, ?_⟩
      rw [evK, mono_x (by omega : g1 ≤ g1 + g2) h1]
      exact mono_k (by omega : g2 ≤ g1 + g2) h2
theorem tot_b {fs : List Tf} (hF : VF fs) {n : Nat} (hx : ∀ d vs t s, VY fs t → okVs vs → okMs s → s.fuel ≤ (n : Int) → ∃ g r, evS g fs d vs t s = some r) :
    ∀ d vs l s, VYs fs l → okVs vs → okMs s → s.fuel ≤ (n : Int) → ∃ g r, evB g fs d vs l s = some r
  | d, vs, [], s, _, _, _, _ => ⟨1, .ok (vs, none) s, by rw [evB]⟩
  | d, vs, t :: l, s, hl, hv, hs, hn => by
    obtain ⟨g1, r1, h1⟩ := hx d vs t s hl.1 hv hs hn
    cases r1 with
    | err z => exact ⟨g1 + 1, .err z, by rw [evB, h1]⟩
    | ok p s1 =>
      obtain ⟨vs1, ro⟩ := p
      obtain ⟨k1, _, hk⟩ := (ev_ok hF g1).s d vs t s _ s1 hl.1 hv hs h1
      cases ro with
      | some y => exact ⟨g1 + 1, .ok (vs1, some y) s1, by rw [evB, h1]⟩
      | none =>
        obtain ⟨g2, r2, h2⟩ := tot_b hF hx d vs1 l s1 hl.2 k1 hk.ok (Int.le_trans hk.fl hn)
        refine ⟨g1 + g2 + 1, r2, ?_⟩
        rw [evB, mono_s (by omega : g1 ≤ g1 + g2) h1]
        exact mono_b (by omega : g2 ≤ g1 + g2) h2
theorem tot_x {fs : List Tf} (hF : VF fs) {n : Nat} (hT : ∀ k, n = k + 1 → Tot fs k) (d : Nat) (vs : Vs) (t : Tx) (s : Ms) (ht : VX fs t) (hv : okVs vs) (hs : okMs s) (hn : s.fuel ≤ (n : Int)) : ∃ g r, evX g fs d vs t s = some r := by
  by_cases hf : s.fuel ≤ 0
  · exact ⟨1, .err 25, by rw [evX, if_pos hf]⟩
  · obtain ⟨k, rfl⟩ : ∃ k, n = k + 1 := ⟨n - 1, by omega⟩
    have T := hT k rfl
    have hp := Kp.pay hs hf
    obtain ⟨g1, r1, h1⟩ := T.k d vs t.kids [] _ (VX_kids ht) hv hp.ok (by dsimp only; omega)
    cases r1 with
    | err z => exact ⟨g1 + 1, .err z, by rw [evX, if_neg hf, h1]⟩
    | ok ks s1 =>
      obtain ⟨k1, _, k3⟩ := (ev_ok hF g1).k d vs [] t.kids _ ks s1 (VX_kids ht) hv hp.ok (by simp) h1
      have k4 := k3.fl
      dsimp only at k4
      by_cases q1 : t.kind = 1
      · exact ⟨g1 + 1, _, by rw [evX, if_neg hf, h1]; dsimp only; rw [if_pos q1]⟩
      by_cases q2 : t.kind = 2
      · exact ⟨g1 + 1, _, by rw [evX, if_neg hf, h1]; dsimp only; rw [if_neg q1, if_pos q2]⟩
      by_cases q4 : t.kind = 4
      · exact ⟨g1 + 1, _, by rw [evX, if_neg hf, h1]; dsimp only; rw [if_neg q1, if_neg q2, if_pos q4]⟩
      by_cases q5 : t.kind = 5
      · cases hi : s1.inp with
        | nil => exact ⟨g1 + 1, _, by rw [evX, if_neg hf, h1]; dsimp only; rw [if_neg q1, if_neg q2, if_neg q4, if_pos q5, hi]⟩
        | cons a r => exact ⟨g1 + 1, _, by rw [evX, if_neg hf, h1]; dsimp only; rw [if_neg q1, if_neg q2, if_neg q4, if_pos q5, hi]⟩
      by_cases q6 : t.kind = 6
      · exact ⟨g1 + 1, _, by rw [evX, if_neg hf, h1]; dsimp only; rw [if_neg q1, if_neg q2, if_neg q4, if_neg q5, if_pos q6]⟩
      by_cases q7 : t.kind = 7
      · exact ⟨g1 + 1, _, by rw [evX, if_neg hf, h1]; dsimp only; rw [if_neg q1, if_neg q2, if_neg q4, if_neg q5, if_neg q6, if_pos q7]⟩
      obtain ⟨f, hff, _⟩ := VX_call ht q1 q2 q4 q5 q6 q7
      obtain ⟨g2, r2, h2⟩ := T.c d f ks s1 (ffind_mem hff) k1 k3.ok (by omega)
      refine ⟨g1 + g2 + 1, r2, ?_⟩
      rw [evX, if_neg hf, mono_k (by omega : g1 ≤ g1 + g2) h1]
      dsimp only
      rw [if_neg q1, if_neg q2, if_neg q4, if_neg q5, if_neg q6, if_neg q7, hff]
      exact mono_c (by omega : g2 ≤ g1 + g2) h2
theorem tot_s {fs : List Tf} (hF : VF fs) {n : Nat} (hT : ∀ k, n = k + 1 → Tot fs k) (d : Nat) (vs : Vs) (t : Ty) (s : Ms) (ht : VY fs t) (hv : okVs vs) (hs : okMs s) (hn : s.fuel ≤ (n : Int)) : ∃ g r, evS g fs d vs t s = some r := by
  by_cases hf : s.fuel ≤ 0
  · exact ⟨1, .err 25, by rw [evS, if_pos hf]⟩
  · obtain ⟨k, rfl⟩ : ∃ k, n = k + 1 := ⟨n - 1, by omega⟩
    have T := hT k rfl
    have hp := Kp.pay hs hf
    obtain ⟨v1, v2, v3, v4⟩ := VY_es ht
    cases hes : t.es with
    | nil => rw [hes] at v1; simp at v1
    | cons e es =>
      rw [hes] at v4 v3
      obtain ⟨g1, r1, h1⟩ := T.x d vs e _ v4.1 hv hp.ok (by dsimp only; omega)
      cases r1 with
      | err z => exact ⟨g1 + 1, .err z, by rw [evS, if_neg hf, hes]; dsimp only; rw [h1]⟩
      | ok v s1 =>
        obtain ⟨k1, k3⟩ := (ev_ok hF g1).x d vs e _ v s1 v4.1 hv hp.ok h1
        have k4 := k3.fl
        dsimp only at k4
        by_cases q1 : t.kind = 1 ∨ t.kind = 2
        · exact ⟨g1 + 1, _, by rw [evS, if_neg hf, hes]; dsimp only; rw [h1]; dsimp only; rw [if_pos q1]⟩
        by_cases q3 : t.kind = 3
        · cases es with
          | nil => have := v3 q3; simp at this
          | cons e2 es =>
            obtain ⟨g2, r2, h2⟩ := T.x d vs e2 s1 v4.2.1 hv k3.ok (by omega)
            cases r2 with
            | err z => exact ⟨g1 + g2 + 1, .err z, by rw [evS, if_neg hf, hes]; dsimp only; rw [mono_x (by omega : g1 ≤ g1 + g2) h1]; dsimp only; rw [if_neg q1, if_pos q3, mono_x (by omega : g2 ≤ g1 + g2) h2]⟩
            | ok w s2 => exact ⟨g1 + g2 + 1, _, by rw [evS, if_neg hf, hes]; dsimp only; rw [mono_x (by omega : g1 ≤ g1 + g2) h1]; dsimp only; rw [if_neg q1, if_pos q3, mono_x (by omega : g2 ≤ g1 + g2) h2]⟩
        by_cases q4 : t.kind = 4
        · obtain ⟨g2, r2, h2⟩ := T.b d vs (if v = 0 then t.els else t.body) s1 (by split; exact (VY_els ht).2; exact (VY_body ht).2) hv k3.ok (by omega)
          refine ⟨g1 + g2 + 1, r2, ?_⟩
          rw [evS, if_neg hf, hes]; dsimp only; rw [mono_x (by omega : g1 ≤ g1 + g2) h1]; dsimp only; rw [if_neg q1, if_neg q3, if_pos q4]
          exact mono_b (by omega : g2 ≤ g1 + g2) h2
        by_cases q5 : t.kind = 5
        · obtain ⟨g2, r2, h2⟩ := T.w d vs e t.body v s1 v4.1 (VY_body ht).2 hv k3.ok (by omega)
          refine ⟨g1 + g2 + 1, r2, ?_⟩
          rw [evS, if_neg hf, hes]; dsimp only; rw [mono_x (by omega : g1 ≤ g1 + g2) h1]; dsimp only; rw [if_neg q1, if_neg q3, if_neg q4, if_pos q5]
          exact mono_w (by omega : g2 ≤ g1 + g2) h2
        by_cases q6 : t.kind = 6
        · exact ⟨g1 + 1, _, by rw [evS, if_neg hf, hes]; dsimp only; rw [h1]; dsimp only; rw [if_neg q1, if_neg q3, if_neg q4, if_neg q5, if_pos q6]⟩
        by_cases q7 : t.kind = 7
        · exact ⟨g1 + 1, _, by rw [evS, if_neg hf, hes]; dsimp only; rw [h1]; dsimp only; rw [if_neg q1, if_neg q3, if_neg q4, if_neg q5, if_neg q6, if_pos q7]⟩
        exact ⟨g1 + 1, _, by rw [evS, if_neg hf, hes]; dsimp only; rw [h1]; dsimp only; rw [if_neg q1, if_neg q3, if_neg q4, if_neg q5, if_neg q6, if_neg q7]⟩
theorem tot_w {fs : List Tf} (hF : VF fs) {n : Nat} (hT : ∀ k, n = k + 1 → Tot fs k) (hb : ∀ d vs l s, VYs fs l → okVs vs → okMs s → s.fuel ≤ (n : Int) → ∃ g r, evB g fs d vs l s = some r) (d : Nat) (vs : Vs) (e : Tx) (l : List Ty) (v : Int) (s : Ms) (he : VX fs e) (hl : VYs fs l) (hv : okVs vs) (hs : okMs s) (hn : s.fuel ≤ (n : Int)) : ∃ g r, evW g fs d vs e l v s = some r := by
  by_cases q : v = 0
  · exact ⟨1, _, by rw [evW, if_pos q]⟩
  · obtain ⟨g1, r1, h1⟩ := hb d vs l s hl hv hs hn
    cases r1 with
    | err z => exact ⟨g1 + 1, .err z, by rw [evW, if_neg q, h1]⟩
    | ok p s1 =>
      obtain ⟨vs1, ro⟩ := p
      obtain ⟨k1, _, k3⟩ := (ev_ok hF g1).b d vs l s _ s1 hl hv hs h1
      cases ro with
      | some y => exact ⟨g1 + 1, .ok (vs1, some y) s1, by rw [evW, if_neg q, h1]⟩
      | none =>
        obtain ⟨g2, r2, h2⟩ := tot_x hF hT d vs1 e s1 he k1 k3.ok (Int.le_trans k3.fl hn)
        cases r2 with
        | err z => exact ⟨g1 + g2 + 1, .err z, by rw [evW, if_neg q, mono_b (by omega : g1 ≤ g1 + g2) h1]; dsimp only; rw [mono_x (by omega : g2 ≤ g1 + g2) h2]⟩
        | ok w s2 =>
          have hc := evX_cost hF he k1 k3.ok h2
          have k5 := k3.fl
          by_cases hz : s2.fuel ≤ 0 ∧ n = 0
          · exfalso
            have h3 := hz.2
            -- with no units left the condition would have failed
            cases g2 with
            | zero => simp [evX] at h2
            | succ g2 => rw [evX, if_pos (by omega)] at h2; simp at h2
          · by_cases hn0 : n = 0
            · exfalso
              cases g2 with
              | zero => simp [evX] at h2
              | succ g2 => rw [evX, if_pos (by omega)] at h2; simp at h2
            · obtain ⟨k, rfl⟩ : ∃ k, n = k + 1 := ⟨n - 1, by omega⟩
              obtain ⟨g3, r3, h3⟩ := (hT k rfl).w d vs1 e l w s2 he hl k1 ((ev_ok hF g2).x d vs1 e s1 w s2 he k1 k3.ok h2).2.ok (by omega)
              refine ⟨g1 + g2 + g3 + 1, r3, ?_⟩
              rw [evW, if_neg q, mono_b (by omega : g1 ≤ g1 + g2 + g3) h1]
              dsimp only
              rw [mono_x (by omega : g2 ≤ g1 + g2 + g3) h2]
              exact mono_w (by omega : g3 ≤ g1 + g2 + g3) h3
theorem tot_of {fs : List Tf} (hF : VF fs) {n : Nat} (hT : ∀ k, n = k + 1 → Tot fs k) : Tot fs n := by
  have hx := tot_x hF hT
  have hb := tot_b hF (n := n) (tot_s hF hT)
  refine ⟨hx, tot_k hF hx, hb, fun d f al s hf ha hs hn => ?_, tot_w hF hT hb⟩
  by_cases hd : d = 12
  · exact ⟨1, .err 26, by rw [evC, if_pos hd]⟩
  · obtain ⟨g1, r1, h1⟩ := hb (d + 1) (vbind [] f.ps al) f.body s (hF f hf).2.2 (okVs.bind _ _ (fun p hp => by simp at hp) ha) hs hn
    cases r1 with
    | err z => exact ⟨g1 + 1, .err z, by rw [evC, if_neg hd, h1]⟩
    | ok p s1 => exact ⟨g1 + 1, _, by rw [evC, if_neg hd, h1]⟩
/-- Everything ends. -/
theorem tot {fs : List Tf} (hF : VF fs) : ∀ n, Tot fs n
  | 0 => tot_of hF fun k h => by omega
  | n + 1 => tot_of hF fun k h => by
    obtain rfl : k = n := by omega
    exact tot hF k
end Go.Proofs.Ytdcbbkpdlcojfaa
