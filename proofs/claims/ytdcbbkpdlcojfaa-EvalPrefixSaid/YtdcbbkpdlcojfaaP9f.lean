/-
  Part of the proof: the texts D2, L9. Conditions are with the theorems.
-/
import Derived.Test.YtdcbbkpdlcojfaaP9a
import Derived.Test.YtdcbbkpdlcojfaaP9b
import Derived.Test.YtdcbbkpdlcojfaaP9c
import Derived.Test.YtdcbbkpdlcojfaaP9d
import Derived.Test.YtdcbbkpdlcojfaaP9e
namespace Go.Proofs.Ytdcbbkpdlcojfaa
set_option linter.unusedSimpArgs false
set_option linter.unusedVariables false
open Go.RowKit

/-- Errors are 25 and 26. -/
structure Ez (fs : List Tf) (g : Nat) : Prop where
  x : ∀ d vs t s z, evX g fs d vs t s = some (.err z) → z ≠ 0
  k : ∀ d vs acc l s z, evK g fs d vs acc l s = some (.err z) → z ≠ 0
  c : ∀ d f al s z, evC g fs d f al s = some (.err z) → z ≠ 0
  b : ∀ d vs l s z, evB g fs d vs l s = some (.err z) → z ≠ 0
  s : ∀ d vs t s z, evS g fs d vs t s = some (.err z) → z ≠ 0
  w : ∀ d vs e l v s z, evW g fs d vs e l v s = some (.err z) → z ≠ 0
theorem ez (fs : List Tf) : ∀ g, Ez fs g
  | 0 => ⟨fun _ _ _ _ _ h => by simp [evX] at h, fun _ _ _ _ _ _ h => by simp [evK] at h, fun _ _ _ _ _ h => by simp [evC] at h, fun _ _ _ _ _ h => by simp [evB] at h, fun _ _ _ _ _ h => by simp [evS] at h, fun _ _ _ _ _ _ _ h => by simp [evW] at h⟩
  | g + 1 => by
    have ih := ez fs g
    refine ⟨fun d vs t s z h => ?_, fun d vs acc l s z h => ?_, fun d f al s z h => ?_, fun d vs l s z h => ?_, fun d vs t s z h => ?_, fun d vs e l v s z h => ?_⟩
    · rw [evX] at h
      by_cases hf : s.fuel ≤ 0
      · rw [if_pos hf] at h; cases h; decide
      · rw [if_neg hf] at h
        cases hk : evK g fs d vs [] t.kids { s with fuel := s.fuel - 1 } with
        | none => rw [hk] at h; simp at h
        | some q =>
          rw [hk] at h
          cases q with
          | err z => cases h; exact ih.k _ _ _ _ _ _ hk
          | ok ks s1 =>
            dsimp only at h
            by_cases q1 : t.kind = 1
            · rw [if_pos q1] at h; cases h
            rw [if_neg q1] at h
            by_cases q2 : t.kind = 2
            · rw [if_pos q2] at h; cases h
            rw [if_neg q2] at h
            by_cases q4 : t.kind = 4
            · rw [if_pos q4] at h; cases h
            rw [if_neg q4] at h
            by_cases q5 : t.kind = 5
            · rw [if_pos q5] at h
              cases hi : s1.inp <;> rw [hi] at h <;> cases h
            rw [if_neg q5] at h
            by_cases q6 : t.kind = 6
            · rw [if_pos q6] at h; cases h
            rw [if_neg q6] at h
            by_cases q7 : t.kind = 7
            · rw [if_pos q7] at h; cases h
            rw [if_neg q7] at h
            cases hf : ffind fs t.name with
            | none => rw [hf] at h; simp at h
            | some f => rw [hf] at h; exact ih.c _ _ _ _ _ h
    · cases l with
      | nil => rw [evK] at h; cases h
      | cons t l =>
        rw [evK] at h
        cases hx : evX g fs d vs t s with
        | none => rw [hx] at h; simp at h
        | some q =>
          rw [hx] at h
          cases q with
          | err z => cases h; exact ih.x _ _ _ _ _ hx
          | ok v s1 => exact ih.k _ _ _ _ _ _ h
    · rw [evC] at h
      by_cases hd : d = 12
      · rw [if_pos hd] at h; cases h; decide
      · rw [if_neg hd] at h
        cases hb : evB g fs (d + 1) (vbind [] f.ps al) f.body s with
        | none => rw [hb] at h; simp at h
        | some q =>
          rw [hb] at h
          cases q with
          | err z => cases h; exact ih.b _ _ _ _ _ hb
          | ok p s1 => obtain ⟨vs1, ro⟩ := p; cases h
    · cases l with
      | nil => rw [evB] at h; cases h
      | cons t l =>
        rw [evB] at h
        cases hx : evS g fs d vs t s with
        | none => rw [hx] at h; simp at h
        | some q =>
          rw [hx] at h
          cases q with
          | err z => cases h; exact ih.s _ _ _ _ _ hx
          | ok p s1 =>
            obtain ⟨vs1, ro⟩ := p
            cases ro with
            | some y => cases h
            | none => exact ih.b _ _ _ _ _ h
    · rw [evS] at h
      by_cases hf : s.fuel ≤ 0
      · rw [if_pos hf] at h; cases h; decide
      · rw [if_neg hf] at h
        cases he : t.es with
        | nil => rw [he] at h; simp at h
        | cons e es =>
          rw [he] at h
          dsimp only at h
          cases hx : evX g fs d vs e { s with fuel := s.fuel - 1 } with
          | none => rw [hx] at h; simp at h
          | some q =>
            rw [hx] at h
            cases q with
            | err z => cases h; exact ih.x _ _ _ _ _ hx
            | ok v s1 =>
              dsimp only at h
              by_cases q1 : t.kind = 1 ∨ t.kind = 2
              · rw [if_pos q1] at h; cases h
              rw [if_neg q1] at h
              by_cases q3 : t.kind = 3
              · rw [if_pos q3] at h
                cases es with
                | nil => simp at h
                | cons e2 es =>
                  dsimp only at h
                  cases hy : evX g fs d vs e2 s1 with
                  | none => rw [hy] at h; simp at h
                  | some q =>
                    rw [hy] at h
                    cases q with
                    | err z => cases h; exact ih.x _ _ _ _ _ hy
                    | ok w s2 => cases h
              rw [if_neg q3] at h
              by_cases q4 : t.kind = 4
              · rw [if_pos q4] at h; exact ih.b _ _ _ _ _ h
              rw [if_neg q4] at h
              by_cases q5 : t.kind = 5
              · rw [if_pos q5] at h; exact ih.w _ _ _ _ _ _ _ h
              rw [if_neg q5] at h
              by_cases q6 : t.kind = 6
              · rw [if_pos q6] at h; cases h
              rw [if_neg q6] at h
              by_cases q7 : t.kind = 7
              · rw [if_pos q7] at h; cases h
              rw [if_neg q7] at h
              cases h
    · rw [evW] at h
      by_cases hv : v = 0
      · rw [if_pos hv] at h; cases h
      · rw [if_neg hv] at h
        cases hb : evB g fs d vs l s with
        | none => rw [hb] at h; simp at h
        | some q =>
          rw [hb] at h
          cases q with
          | err z => cases h; exact ih.b _ _ _ _ _ hb
          | ok p s1 =>
            obtain ⟨vs1, ro⟩ := p
            cases ro with
            | some y => cases h
            | none =>
              dsimp only at h
              cases hx : evX g fs d vs1 e s1 with
              | none => rw [hx] at h; simp at h
              | some q =>
                rw [hx] at h
                cases q with
                | err z => cases h; exact ih.x _ _ _ _ _ hx
                | ok w s2 => exact ih.w _ _ _ _ _ _ _ h
/-- Outputs before. -/
def RlO (o : List Int) (s s' : Ms) : Prop := s.inp = s'.inp ∧ s.out = o ++ s'.out ∧ s.mem = s'.mem ∧ s.fuel = s'.fuel
theorem smr_out (o : List Int) (fs : List Tf) : Smr (fun _ => True) (RlO o) fs fs where
  mem := fun s s' h => h.2.2.1.symm
  pay := fun s s' h hf => ⟨by have := h.2.2.2; omega, h.1, h.2.1, h.2.2.1, by have := h.2.2.2; show s.fuel - 1 = s'.fuel - 1; omega⟩
  inp := fun s s' h => by
    obtain ⟨e1, e2, e3, e4, e5, e6, e7, e8⟩ := rdI_eq (s := s) (s' := s') h.1.symm
    exact ⟨e1, e2.symm, by rw [e3, e4, h.2.1], by rw [e5, e6, h.2.2.1], by rw [e7, e8]; exact h.2.2.2⟩
  put := fun s s' i v h => ⟨h.1, h.2.1, by show mput s.mem i v = _; rw [h.2.2.1], h.2.2.2⟩
  out := fun s s' v h => ⟨h.1, by show s.out ++ [v] = o ++ (s'.out ++ [v]); rw [h.2.1, List.append_assoc], h.2.2.1, h.2.2.2⟩
  fn := fun nm f _ h => ⟨f, h, rfl, rfl, aYs_all (fun _ => trivial) _⟩
/-- Outputs only grow. -/
theorem out_grows {fs : List Tf} {g d : Nat} {vs : Vs} {l : List Ty} {s s1 : Ms} {p : Vs × Option Int} (h : evB g fs d vs l s = some (.ok p s1)) : ∃ o, s1.out = s.out ++ o := by
  obtain ⟨r', e1, e2⟩ := (sim (smr_out s.out fs) g).b d vs l s { s with out := [] } _ (aYs_all (fun _ => trivial) _) ⟨rfl, by simp, rfl, rfl⟩ h ne_ok
  cases e2 with
  | ok _ _ s2 h2 => exact ⟨_, h2.2.1⟩
theorem evB_app {fs : List Tf} {d : Nat} : ∀ {g : Nat} {a b : List Ty} {vs : Vs} {s s1 : Ms} {p : Vs × Option Int}, evB g fs d vs (a ++ b) s = some (.ok p s1) → ∃ p2 s2 o, evB g fs d vs a s = some (.ok p2 s2) ∧ s1.out = s2.out ++ o
  | 0, _, _, _, _, _, _, h => by simp [evB] at h
  | g + 1, [], b, vs, s, s1, p, h => by
    obtain ⟨o, ho⟩ := out_grows h
    exact ⟨(vs, none), s, o, by rw [evB], ho⟩
  | g + 1, t :: a, b, vs, s, s1, p, h => by
    rw [List.cons_append, evB] at h
    rw [evB]
    cases hx : evS g fs d vs t s with
    | none => rw [hx] at h; simp at h
    | some q =>
      rw [hx] at h
      cases q with
      | err z => cases h
      | ok p2 s2 =>
        obtain ⟨vs1, ro⟩ := p2
        cases ro with
        | some y => cases h; exact ⟨_, _, [], rfl, by simp⟩
        | none => exact evB_app h
mutual
theorem aX_of {b : ByteArray} : ∀ t : Tx, rX t = true → cX b t = false → aX (fun x => x ≠ b) t
  | .mk k n nm v kids, h1, h2 => by
    rw [rX] at h1
    simp only [Bool.and_eq_true] at h1
    rw [cX] at h2
    simp only [Bool.or_eq_false_iff] at h2
    refine ⟨fun q1 q2 q4 q5 q6 q7 => ?_, aXs_of kids h1.2 h2.1⟩
    rcases okX_cases h1.1.1 with q | q | q | q | q | q | q
    · exact absurd q.1 q1
    · exact absurd q.1 q5
    · exact absurd q.1 q2
    · have h3 := h2.2
      rw [decide_eq_true q, Bool.true_and, ba_eq] at h3
      exact of_decide_eq_false h3
    · exact absurd q.1 q4
    · exact absurd q.1 q6
    · exact absurd q.1 q7
theorem aXs_of {b : ByteArray} : ∀ l : List Tx, rXs l = true → cXs b l = false → aXs (fun x => x ≠ b) l
  | [], _, _ => trivial
  | t :: r, h1, h2 => by
    rw [rXs, Bool.and_eq_true] at h1
    rw [cXs, Bool.or_eq_false_iff] at h2
    exact ⟨aX_of t h1.1 h2.1, aXs_of r h1.2 h2.2⟩
end
mutual
theorem aY_of {b : ByteArray} : ∀ t : Ty, rY t = true → cY b t = false → aY (fun x => x ≠ b) t
  | .mk k nm _ es _ body _ els, h1, h2 => by
    rw [rY] at h1
    simp only [Bool.and_eq_true] at h1
    rw [cY] at h2
    simp only [Bool.or_eq_false_iff] at h2
    exact ⟨aXs_of es h1.1.1.2 h2.1.1, aYs_of body h1.1.2 h2.1.2, aYs_of els h1.2 h2.2⟩
theorem aYs_of {b : ByteArray} : ∀ l : List Ty, rYs l = true → cYs b l = false → aYs (fun x => x ≠ b) l
  | [], _, _ => trivial
  | t :: r, h1, h2 => by
    rw [rYs, Bool.and_eq_true] at h1
    rw [cYs, Bool.or_eq_false_iff] at h2
    exact ⟨aY_of t h1.1 h2.1, aYs_of r h1.2 h2.2⟩
end
/-- What an expression's names need of functions. -/
def sig (fs : List Tf) (x : ByteArray) : Option Nat := (ffind fs x).map fun f => f.ps.length
mutual
theorem eX_congr {fs fs' : List Tf} (h : ∀ x, sig fs x = sig fs' x) (ns : List ByteArray) : ∀ t, eX fs ns t = eX fs' ns t
  | .mk k n nm v kids => by
    rw [eX, eX, eXs_congr h ns kids]
    have h1 := h nm
    unfold sig at h1
    cases ha : ffind fs nm with
    | none =>
      cases hb : ffind fs' nm with
      | none => rfl
      | some g => rw [ha, hb] at h1; cases h1
    | some f =>
      cases hb : ffind fs' nm with
      | none => rw [ha, hb] at h1; cases h1
      | some g =>
        rw [ha, hb] at h1
        have h2 : f.ps.length = g.ps.length := Option.some.inj h1
        dsimp only
        rw [h2]
theorem eXs_congr {fs fs' : List Tf} (h : ∀ x, sig fs x = sig fs' x) (ns : List ByteArray) : ∀ l, eXs fs ns l = eXs fs' ns l
  | [] => rfl
  | t :: r => by rw [eXs, eXs, eX_congr h ns t, eXs_congr h ns r]
end
mutual
theorem bY_congr {fs fs' : List Tf} (h : ∀ x, sig fs x = sig fs' x) : ∀ (ns : List ByteArray) (t : Ty), bY fs ns t = bY fs' ns t
  | ns, .mk k nm _ es _ body _ els => by
    rw [bY, bY]
    simp only [eXs_congr h ns es, bYs_congr h _ body, bYs_congr h _ els]
theorem bYs_congr {fs fs' : List Tf} (h : ∀ x, sig fs x = sig fs' x) : ∀ (ns : List ByteArray) (l : List Ty), bYs fs ns l = bYs fs' ns l
  | ns, [] => rfl
  | ns, t :: r => by
    rw [bYs, bYs]
    simp only [bY_congr h _ t, bYs_congr h _ r]
end
theorem chk_zero {fs : List Tf} {f : Tf} (h1 : rP fs = true) (h2 : fs.length ≤ 16) (h3 : once fs = true) (h4 : ffind fs nMain = some f) (h5 : f.ps = []) (h6 : ∀ g ∈ fs, chkF fs g = 0) : chk fs = 0 := by
  have h7 : ∀ l : List Tf, (∀ g ∈ l, chkF fs g = 0) → chkFs fs l = 0 := by
    intro l
    induction l with
    | nil => intro _; rfl
    | cons g r ih => intro h; rw [chkFs, h g (by simp), ih fun k hk => h k (by simp [hk])]; rfl
  unfold chk
  rw [h1, h3, if_neg (by simp), if_neg (by omega), if_neg (by simp), h4]
  dsimp only
  rw [h5, if_neg (by simp)]
  exact h7 fs h6
theorem find_set {p : Tf → Bool} {f' : Tf} : ∀ {fs : List Tf} {m : Nat} {f : Tf}, fs[m]? = some f → p f = false → p f' = false → (fs.set m f').find? p = fs.find? p
  | [], m, f, h, _, _ => by simp at h
  | g :: r, 0, f, h, h1, h2 => by
    cases h
    rw [List.set_cons_zero, List.find?_cons, List.find?_cons, h1, h2]
  | g :: r, m + 1, f, h, h1, h2 => by
    rw [List.set_cons_succ, List.find?_cons, List.find?_cons, find_set (fs := r) (m := m) h h1 h2]
theorem find_set_at {p : Tf → Bool} {f' : Tf} : ∀ {fs : List Tf} {m : Nat} {f : Tf}, fs[m]? = some f → p f = true → p f' = true → fs.find? p = some f → (∀ j y, j < m → fs[j]? = some y → p y = false) → (fs.set m f').find? p = some f'
  | [], m, f, h, _, _, _, _ => by simp at h
  | g :: r, 0, f, h, h1, h2, _, _ => by rw [List.set_cons_zero, List.find?_cons, h2]
  | g :: r, m + 1, f, h, h1, h2, h3, h4 => by
    have hg := h4 0 g (by omega) rfl
    rw [List.find?_cons, hg] at h3
    rw [List.set_cons_succ, List.find?_cons, hg]
    exact find_set_at (fs := r) (m := m) h h1 h2 h3 fun j y hj hy => h4 (j + 1) y (by omega) hy
theorem ix_before {α : Type} {p : α → Bool} {l : List α} {m : Nat} (h : ixF p l = (m : Int)) : ∀ j y, j < m → l[j]? = some y → p y = false := by
  intro j y hj hy
  unfold ixF at h
  cases hi : l.findIdx? p with
  | none => rw [hi] at h; dsimp only at h; omega
  | some i =>
    rw [hi] at h
    dsimp only at h
    have : i = m := by omega
    subst this
    rw [List.findIdx?_eq_some_iff_getElem] at hi
    obtain ⟨h1, h2, h3⟩ := hi
    have h4 := h3 j hj
    rw [List.getElem?_eq_getElem (by omega)] at hy
    cases hy
    simpa using h4
section
variable {fs : List Tf} {m k : Nat} {f : Tf} {vb : SV}
/-- The program whose main has its first k statements. -/
abbrev cutP (fs : List Tf) (m : Nat) (f : Tf) (vb : SV) (k : Nat) : List Tf := fs.set m ⟨f.name, f.vp, f.ps, vb, f.body.take k⟩
theorem cut_find (hm : fs[m]? = some f) (x : ByteArray) (hx : x ≠ f.name) : ffind (cutP fs m f vb k) x = ffind fs x :=
  find_set hm (by simpa using fun h => hx h.symm) (by simpa using fun h => hx h.symm)
theorem cut_main (hm : fs[m]? = some f) (hn : f.name = nMain) (hff : ffind fs nMain = some f) (hx : fix fs nMain = (m : Int)) : ffind (cutP fs m f vb k) nMain = some ⟨f.name, f.vp, f.ps, vb, f.body.take k⟩ :=
  find_set_at hm (by simpa using hn) (by simpa using hn) hff (ix_before hx)
theorem cut_sig (hm : fs[m]? = some f) (hn : f.name = nMain) (hff : ffind fs nMain = some f) (hx : fix fs nMain = (m : Int)) (x : ByteArray) : sig fs x = sig (cutP fs m f vb k) x := by
  unfold sig
  by_cases h : x = f.name
  · rw [h, hn, hff, cut_main hm hn hff hx]; rfl
  · rw [cut_find hm x h]
theorem rYs_take {l : List Ty} (k : Nat) (h : rYs l = true) : rYs (l.take k) = true := by
  rw [rYs_all] at h ⊢
  rw [List.all_eq_true] at h ⊢
  exact fun x hx => h x (List.mem_of_mem_take hx)
theorem GYs_take {l : List Ty} (k : Nat) (h : GYs l) : GYs (l.take k) := by
  induction l generalizing k with
  | nil => simpa using h
  | cons t r ih =>
    cases k with
    | zero => exact trivial
    | succ k => exact ⟨h.1, ih k h.2⟩
theorem cut_all {p : Tf → Prop} (hp : ∀ g ∈ fs, p g) (hf : p ⟨f.name, f.vp, f.ps, vb, f.body.take k⟩) : ∀ g ∈ cutP fs m f vb k, p g := fun g hg => by
  rcases List.mem_or_eq_of_mem_set hg with h | h
  · exact hp g h
  · rw [h]; exact hf
theorem nYs_tk (l : List Ty) (k : Nat) : nYs (l.take k) ≤ nYs l ∧ vYs (l.take k) ≤ vYs l := by
  have h1 := nYs_app (l.take k) (l.drop k)
  have h2 := vYs_app (l.take k) (l.drop k)
  rw [List.take_append_drop] at h1 h2
  omega
theorem cut_gp (hm : fs[m]? = some f) (hg : GP fs) : GP (cutP fs m f vb k) := by
  refine ⟨by rw [List.length_set]; exact hg.1, cut_all hg.2 ?_⟩
  obtain ⟨g1, g2, g3, g4, g5, g6⟩ := hg.2 f (List.mem_of_getElem? hm)
  have := nYs_tk f.body k
  exact ⟨g1, g2, g3, by show (f.body.take k).length ≤ _; rw [List.length_take]; omega, GYs_take k g5, by show f.ps.length + nYs (f.body.take k) ≤ _; omega⟩
theorem fix_names {fs fs' : List Tf} (h : fs.map (·.name) = fs'.map (·.name)) (x : ByteArray) : fix fs x = fix fs' x := by
  have h1 : ∀ l : List Tf, l.findIdx? (fun f => decide (f.name = x)) = (l.map (·.name)).findIdx? fun y => decide (y = x) := by
    intro l
    rw [List.findIdx?_map]
    rfl
  unfold fix ixF
  rw [h1, h1, h]
theorem cut_names (hm : fs[m]? = some f) : (cutP fs m f vb k).map (·.name) = fs.map (·.name) := by
  rw [List.map_set]
  have h : (fs.map (·.name))[m]? = some f.name := by rw [List.getElem?_map, hm]; rfl
  apply List.ext_getElem?
  intro j
  rw [List.getElem?_set]
  split
  · rename_i h2
    subst h2
    rw [h]
    split
    · rfl
    · rename_i h3
      have := (List.getElem?_eq_some_iff.1 h).1
      exact absurd this h3
  · rfl
theorem cut_chk (hm : fs[m]? = some f) (hg : GP fs) (hn : f.name = nMain) (hx : fix fs nMain = (m : Int)) (h : chk fs = 0) : chk (cutP fs m f vb k) = 0 := by
  have hrp : rP fs = true := by
    unfold chk at h
    split at h
    · cases h
    · rename_i h1; simpa using h1
  obtain ⟨f2, hF⟩ := chk_fine hg h
  have hf2 : f2 = f := by
    obtain ⟨i, hi1, hi2⟩ := ffind_fix.2 _ hF.main
    rw [hx] at hi1
    have : i = m := by omega
    subst this
    rw [hm] at hi2
    exact (Option.some.inj hi2).symm
  subst hf2
  have hsig := cut_sig (vb := vb) (k := k) hm hn hF.main hx
  have hfm := List.mem_of_getElem? hm
  have hr := List.all_eq_true.1 hrp
  refine chk_zero (f := ⟨f2.name, f2.vp, f2.ps, vb, f2.body.take k⟩) ?_ (by rw [List.length_set]; exact hF.len) ?_ (cut_main hm hn hF.main hx) hF.noP ?_
  · refine List.all_eq_true.2 (cut_all hr ?_)
    have h1 := hr f2 hfm
    unfold rF at h1 ⊢
    simp only [Bool.and_eq_true] at h1 ⊢
    exact ⟨h1.1, rYs_take k h1.2⟩
  · refine once_iff.2 fun i g hi => ?_
    have hi' : ((cutP fs m f2 vb k).map (·.name))[i]? = some g.name := by rw [List.getElem?_map, hi]; rfl
    rw [fix_names (cut_names hm)]
    rw [cut_names hm, List.getElem?_map] at hi'
    cases h1 : fs[i]? with
    | none => rw [h1] at hi'; cases hi'
    | some g2 =>
      rw [h1] at hi'
      have h2 : g2.name = g.name := Option.some.inj hi'
      rw [← h2]
      exact hF.once i g2 h1
  · refine cut_all (fun g hgm => ?_) ?_
    · have h1 := hF.each g hgm
      rw [chkF_eq, ← bYs_congr hsig]
      rw [chkF_eq] at h1
      exact h1
    · have h1 := hF.each f2 hfm
      rw [chkF_eq] at h1 ⊢
      rw [← bYs_congr hsig]
      obtain ⟨a1, a2⟩ := fst_eq_zero.1 h1
      obtain ⟨a2, a3⟩ := fst_eq_zero.1 a2
      refine fst_eq_zero.2 ⟨?_, fst_eq_zero.2 ⟨a2, ?_⟩⟩
      · by_cases hb : big f2
        · rw [if_pos hb] at a1; cases a1
        · rw [if_neg]
          intro hb2
          apply hb
          unfold big at hb2 ⊢
          have h4 := nYs_tk f2.body k
          have h5 := dpYs_app 1 (f2.body.take k) (f2.body.drop k)
          rw [List.take_append_drop] at h5
          dsimp only at hb2
          rcases hb2 with hb2 | hb2 | hb2 | hb2
          · exact .inl hb2
          · exact .inr (.inl (by omega))
          · exact .inr (.inr (.inl (by omega)))
          · exact .inr (.inr (.inr (by rw [h5, hb2]; rfl)))
      · have h6 := bYs_app fs f2.ps (f2.body.take k) (f2.body.drop k)
        rw [List.take_append_drop] at h6
        rw [h6] at a3
        exact (fst_eq_zero.1 a3).1
/-- The law of prefixes. -/
theorem runIs_prefix {ins : List Int} {fuel : Int} {r r' : Ru} (hm : fs[m]? = some f) (hg : GP fs) (hn : f.name = nMain) (hx : fix fs nMain = (m : Int)) (hc : cP nMain fs = false) (h : RunIs fs ins fuel r) (h0 : r.err = 0) (h' : RunIs (cutP fs m f vb k) ins fuel r') : r'.err = 0 ∧ ∃ o, r.out = r'.out ++ o := by
  cases h with
  | bad h => exact absurd h0 h
  | run f2 g q h hf he =>
    cases q with
    | err z => exact absurd h0 ((ez fs g).c _ _ _ _ _ he)
    | ok v s1 =>
      have hrp : rP fs = true := by
        have h := h
        unfold chk at h
        split at h
        · cases h
        · rename_i h1; simpa using h1
      have hf2 : f2 = f := by
        obtain ⟨i, hi1, hi2⟩ := ffind_fix.2 _ hf
        rw [hx] at hi1
        have : i = m := by omega
        subst this
        rw [hm] at hi2
        exact (Option.some.inj hi2).symm
      subst hf2
      have hA : ∀ g ∈ fs, aYs (fun x => x ≠ nMain) g.body := fun g hgm => by
        have h1 := List.all_eq_true.1 hrp g hgm
        unfold rF at h1
        simp only [Bool.and_eq_true] at h1
        refine aYs_of _ h1.2 ?_
        rw [cYs_any]
        unfold cP at hc
        have h2 := List.any_eq_false.1 hc g hgm
        simpa using h2
      have hS : Smr (fun x => x ≠ nMain) Eq fs (cutP fs m f2 vb k) :=
        { mem := fun s s' h => by rw [h]
          pay := fun s s' h hf => by subst h; exact ⟨hf, rfl⟩
          inp := fun s s' h => by subst h; exact ⟨rfl, rfl⟩
          put := fun s s' i v h => by subst h; rfl
          out := fun s s' v h => by subst h; rfl
          fn := fun nm f3 hnm h3 => ⟨f3, by rw [cut_find hm nm (by rw [hn]; exact hnm)]; exact h3, rfl, rfl, hA f3 (ffind_mem h3)⟩ }
      cases g with
      | zero => simp [evC] at he
      | succ g =>
        rw [evC, if_neg (by decide)] at he
        cases hb : evB g fs (0 + 1) (vbind [] f2.ps []) f2.body (ms0 ins fuel) with
        | none => rw [hb] at he; simp at he
        | some q =>
          rw [hb] at he
          cases q with
          | err z => cases he
          | ok p s2 =>
            obtain ⟨vs1, ro⟩ := p
            cases he
            have hb2 := hb
            rw [← List.take_append_drop k f2.body] at hb2
            obtain ⟨p3, s3, o, h3, h4⟩ := evB_app hb2
            have hAk : aYs (fun x => x ≠ nMain) (f2.body.take k) := by
              have h5 := hA f2 (ffind_mem hf)
              rw [← List.take_append_drop k f2.body] at h5
              exact (aYs_app.1 h5).1
            obtain ⟨r4, e1, e2⟩ := (sim hS g).b _ _ _ _ _ _ hAk rfl h3 ne_ok
            obtain ⟨vs3, ro3⟩ := p3
            cases e2 with
            | ok _ _ s4 h6 =>
              subst h6
              have h7 : RunIs (cutP fs m f2 vb k) ins fuel (ruOf (.ok (ro3.getD 0) s3)) := .run _ (g + 1) _ (cut_chk hm hg hn hx h) (cut_main hm hn hf hx) (by rw [evC, if_neg (by decide)]; dsimp only; rw [e1])
              rw [runIs_fun h' h7]
              exact ⟨rfl, o, h4⟩
end
end Go.Proofs.Ytdcbbkpdlcojfaa
namespace Go.Proofs.Ytdcbbkpdlcojfaa
set_option linter.unusedSimpArgs false
set_option linter.unusedVariables false
open Go.RowKit

section
variable {P : Program} {N : Nat} {w0 : World} {M H : Nat → Prop} {E : Env} {Γ R : Ctx}
theorem p_slice_hiS {α : Type} {S U : TypeId} {D : TypeDesc} {z : Value} {s bb j : Nat} {enc : α → List Value} {x y : Operand} {k : IntKind} {i : Int} {v : SV} {l : List α} (hS : P.underlying S = some (.slice U)) (hU : TI P U D z s bb) (hx : ev E x = some (sv v)) (hy : ev E y = some (.int k i)) (hs : SlS w0 M H Γ R s enc (sv v) l) (hi : i = (j : Int)) (hj : j ≤ l.length) : PR P N w0 M H E Γ R (.slice S x none (some y) none) (sv (hiS v j)) :=
  fun _ _ _ a w hE hC _ _ => by
    subst hi
    obtain ⟨G, c, h1, h2, h3⟩ := hs w hC
    obtain ⟨va, vn, vc⟩ := v
    rcases h3 with ⟨rfl, _, hv⟩ | ⟨b, o, hv, _, _⟩
    · simp [sv] at hv
      obtain ⟨rfl, rfl, rfl⟩ := hv
      have hj0 : j = 0 := by simpa using hj
      subst hj0
      simp [execOp, hE.ev hx, hE.ev hy, Instr.sliceAt, Instr.slice, run_underlying hS, Instr.sliceBounds, Instr.sliceBound, asIntOf, hU.sizeOf, sv, hiS]
    · simp [sv] at hv
      obtain ⟨rfl, rfl, rfl⟩ := hv
      have hjc : (j : Int) ≤ vc := by omega
      simp [execOp, hE.ev hx, hE.ev hy, Instr.sliceAt, Instr.slice, run_underlying hS, Instr.sliceBounds, Instr.sliceBound, asIntOf, hU.sizeOf, sv, hjc, add_lit', hiS]
      intro h
      omega
theorem SlS.tfs {k : Nat} {v : SV} {l : List Tf} (h : cget Γ k = some (tfsA v l)) : SlS w0 M H Γ R 3 eTf (sv v) l := fun w hC => by
  obtain ⟨G, h1, _⟩ := hC.reads (.inl h)
  obtain ⟨A, a1, _⟩ := h1.1
  exact ⟨A, a1⟩
theorem SlS.tfb {k : Nat} {v : SV} {l : List Tf} {f : Tf} (h : cget Γ k = some (tfsA v l)) (hf : f ∈ l) : SlS w0 M H Γ R 5 eTy (sv f.vb) f.body := fun w hC => by
  obtain ⟨G, h1, _⟩ := hC.reads (.inl h)
  obtain ⟨A, a1, _⟩ := (h1.2 f hf).2.1
  exact ⟨A, a1⟩
end
theorem TysIn.take {w : World} {F : Nat → Prop} : ∀ {l : List Ty} (k : Nat), TysIn w F l → TysIn w F (l.take k)
  | [], k, h => by rw [List.take_nil]; exact h
  | t :: r, 0, h => trivial
  | t :: r, k + 1, h => ⟨h.1, TysIn.take k h.2⟩
theorem cut_tfs {vp vq : SV} {fs : List Tf} {m k : Nat} {f : Tf} (hm : fs[m]? = some f) (hk : k ≤ f.body.length) (w : World) (F : Nat → Prop) (h : AllIn w F [own 64 3 eTf (sv vq) (cutP fs m f (hiS f.vb k) k), tfsA vp fs]) : (tfsA vq (cutP fs m f (hiS f.vb k) k)).pred w F := by
  obtain ⟨⟨_, a0, b0⟩, ⟨_, a1, b1⟩, _⟩ := h
  refine ⟨own_in a0 b0, fun g hg => ?_⟩
  rcases List.mem_or_eq_of_mem_set hg with h | h
  · exact (a1.2 g h).up b1
  · rw [h]
    obtain ⟨c1, c2, c3⟩ := (a1.2 f (List.mem_of_getElem? hm)).up b1
    obtain ⟨A, d1, d2⟩ := c2
    exact ⟨c1, ⟨A, sl_hi hk d1, d2⟩, c3.take k⟩
set_option maxHeartbeats 4000000 in
set_option maxRecDepth 100000 in
theorem prefix_law (x0 : SV) (s : List Int) (b0 : ∀ n ∈ s, okI n) (x1 : SV) (u : List Int) (b1 : ∀ n ∈ u, oW n) (n : Int) (hn : 0 ≤ n ∧ n < 256) :
    Spec Try.prog 9 [sv x0, sv x1, .int .u8 n] [] [sl 1 eI (sv x0) s, sl 1 eU (sv x1) u] (X := Unit) (fun _ => True) (fun _ => .bool true) (fun _ => []) (fun _ => []) := by
  refine r_enter Try.func9 rfl Try.ntmps9 rfl fun w0 M H => ?_
  refine r_seq ?_
  refine r_region ?_
  refine r_p (p_assign rfl) rfl ?_
  refine r_nil ?_
  refine r_seq ?_
  refine r_region ?_
  refine r_callN (xs := []) sanity_spec cb12 [] [] [] rfl rfl rfl rfl rfl rfl rfl rfl (fun _ _ => rfl) (fun _ _ _ => rfl) rfl (fun _ _ => ?_)
  refine r_p (p_assign rfl) rfl ?_
  refine r_nil ?_
  refine r_seq ?_
  refine r_region ?_
  refine r_p (p_move rfl) rfl ?_
  refine r_p (p_move rfl) rfl ?_
  refine r_p (p_len_sl Try.underlying34 rfl (hs_sl (k := 0) rfl)) rfl ?_
  refine r_p (p_min rfl rfl rfl) rfl ?_
  refine r_slice_hi (j := (min s.length 120)) 0 23 Try.underlying34 t3 (by intro _; rfl) rfl rfl (by omega) (by omega) rfl rfl fun v23 => ?_
  refine r_callN (xs := [.tmp 23]) (made_spec v23 (s.take (min s.length 120)) (by rw [List.length_take]; omega) (fun x hx => b0 x (List.mem_of_mem_take hx))) cb18 [] [(false, 23)] [90] rfl rfl rfl rfl rfl rfl rfl rfl (fun _ _ => rfl) (fun _ _ _ => rfl) rfl (fun ⟨vp, fs⟩ hm0 => ?_)
  have hiu : ∀ x ∈ u.take (min u.length 20), oW x := fun x hx => b1 x (List.mem_of_mem_take hx)
  have hul : (u.take (min u.length 20)).length ≤ 1000000 := (by rw [List.length_take]; omega)
  have hg : GP fs := gMr_gp hm0
  refine r_alloc t40 rfl rfl fun b8 => ?_
  refine r_store_all (k := 8) t40 rfl rfl rfl rfl rfl rfl ?_
  refine r_nil ?_
  refine r_seq ?_
  refine r_region ?_
  refine r_p (p_move rfl) rfl ?_
  refine r_p (p_move rfl) rfl ?_
  refine r_p (p_len_sl Try.underlying35 rfl (hs_sl (k := 1) rfl)) rfl ?_
  refine r_p (p_min rfl rfl rfl) rfl ?_
  refine r_slice_hi (j := (min u.length 20)) 1 29 Try.underlying35 t22 (by intro _; rfl) rfl rfl (by omega) (by omega) rfl rfl fun v29 => ?_
  refine r_p (p_assign rfl) rfl ?_
  refine r_nil ?_
  refine r_seq ?_
  refine r_region ?_
  refine r_bslice0 eTf Try.underlying38 t64 rfl fun v30 => ?_
  refine r_p (p_field0 fo40_0 rfl) rfl ?_
  refine r_p (p_load1 t38 rfl rfl (g_row1 (k := 8) rfl rfl)) rfl ?_
  refine r_appendG 30 Try.underlying38 t64 rfl (by decide) (fun _ => rfl) (fun _ => rfl) rfl rfl rfl own_id (SlS.tfs (k := 90) rfl) (by have := hg.1; simp only [List.length_nil]; omega) (by unfold maxLen; have := hg.1; simp only [List.length_nil]; omega) rfl fun v33 => ?_
  refine r_p (p_build (parts := [(0, .tmp 33)]) t40 pl40 rfl rfl) rfl ?_
  refine r_alloc t40 rfl rfl fun b9 => ?_
  refine r_store_all (k := 9) t40 rfl rfl rfl rfl rfl rfl ?_
  refine r_nil ?_
  refine r_seq ?_
  refine r_region ?_
  refine r_p (p_loadA t40 rfl rfl rfl (g_all (k := 9) rfl)) rfl ?_
  refine r_callN (xs := [.tmp 35, .const (.string (ByteArray.mk #[109, 97, 105, 110]))]) ((find9_spec nMain v33 fs hg.1).ro1 own_to_sl) cb28 [] [(true, 30)] [] rfl rfl rfl rfl rfl rfl rfl rfl (fun _ _ => rfl) (fun _ _ _ => rfl) rfl (fun _ _ => ?_)
  refine r_p (p_assign rfl) rfl ?_
  refine r_nil ?_
  refine r_seq ?_
  refine r_seq ?_
  refine r_region ?_
  refine r_p (p_move rfl) rfl ?_
  refine r_p (p_bin rfl rfl b_lt) rfl ?_
  refine r_p (p_move rfl) rfl ?_
  refine r_gp [] rfl rfl trivial (fun hg1 => p_loadA t40 rfl rfl rfl (g_all (k := 8) rfl)) rfl ?_
  refine r_gms [(40, _)] rfl rfl ⟨rfl, trivial⟩ (fun hg2 => ms_callN (xs := [.tmp 40, .const (.string (ByteArray.mk #[109, 97, 105, 110]))]) (calls_spec nMain vp fs hg) cb29 [] [(true, 90)] [] rfl rfl rfl rfl rfl rfl rfl rfl (fun _ _ => rfl) (fun _ _ _ => rfl)) rfl ?_
  refine r_p (p_pick rfl rfl rfl (by first | exact pick_and | exact pick_or |  rfl)) rfl ?_
  refine r_nil ?_
  refine r_cond rfl (fun h3 => ?_) (fun h3 => ?_)
  · refine r_seq ?_
    refine r_region ?_
    refine r_p (p_move rfl) rfl ?_
    refine r_p (p_assign rfl) rfl ?_
    refine r_nil ?_
    refine r_cret ?_
    refine r_ret () trivial rfl (rs1 (rv_tmp rfl)) rfl [] [] rfl rfl rfl
  · have hq := Bool.or_eq_false_iff.1 h3
    have hq1 : ¬ fix fs nMain < 0 := of_decide_eq_false hq.1
    have hq2 : cP nMain fs = false := hq.2
    obtain ⟨f, hff⟩ : ∃ f, ffind fs nMain = some f := by
      cases hf : ffind fs nMain with
      | none => exact absurd (ffind_fix.1.2 hf) hq1
      | some f => exact ⟨f, rfl⟩
    obtain ⟨m, hxm, hfx⟩ := ffind_fix.2 f hff
    have hfn : f.name = nMain := by have h := List.find?_some hff; simpa using h
    have hfm := List.mem_of_getElem? hfx
    have hml : m < fs.length := (List.getElem?_eq_some_iff.1 hfx).1
    have hbl := (hg.2 f hfm).2.2.2.1
    obtain ⟨kk, hkk⟩ : ∃ kk : Nat, n % ((f.body.length : Int) + 1) = (kk : Int) := ⟨(n % ((f.body.length : Int) + 1)).toNat, by have := Int.emod_nonneg n (show ((f.body.length : Int) + 1) ≠ 0 by omega); omega⟩
    have hkl : kk ≤ f.body.length := by have := Int.emod_lt_of_pos n (show 0 < ((f.body.length : Int) + 1) by omega); omega
    have hkr : n.tmod ((f.body.length : Int) + 1) = (kk : Int) := by rw [Int.tmod_eq_emod_of_nonneg hn.1]; exact hkk
    rw [hxm]
    obtain ⟨⟨e1, o1, m1⟩, hr1⟩ := runIs_ex (fuel := 3000) hg hiu (by omega)
    obtain ⟨⟨e2, o2, m2⟩, hr2⟩ := runIs_ex (fuel := 3000) (cut_gp (vb := hiS f.vb kk) (k := kk) hfx hg) hiu (by omega)
    have hol2 := (runIs_len (cut_gp hfx hg) hiu (by omega) hr2).1
    dsimp only at hol2
    refine r_skip ?_
    refine r_seq ?_
    refine r_region ?_
    refine r_p (p_field0 fo40_0 rfl) rfl ?_
    refine r_p (p_load1 t38 rfl rfl (g_row1 (k := 9) rfl rfl)) rfl ?_
    refine r_p (p_move rfl) rfl ?_
    refine r_p (p_idx_sl (j := m) Try.underlying38 t64 rfl rfl (hs_own (k := 30) rfl) rfl hml) rfl ?_
    refine r_p (p_field fo64_2 rfl) rfl ?_
    refine r_p (p_load1 t52 rfl rfl (g_elp (hs_own (k := 30) rfl) (by intro _; rfl) hfx rfl)) rfl ?_
    refine r_p (p_assign rfl) rfl ?_
    refine r_nil ?_
    refine r_seq ?_
    refine r_draw [50, 51, 52, 53, 54, 55, 56, 57, 58, 59, 60, 61, 62] _ rfl (stg_mem0 (V := [(0, 50, _), (1, 51, _), (2, 52, _), (3, 53, _), (4, 54, _), (5, 55, _), (6, 56, _), (7, 57, _), (8, 58, _), (9, 59, _), (10, 60, _), (11, 61, _), (12, 62, _)]) [0, 1, 2, 3, 4, 5, 6, 7, 8, 9, 10, 11, 12] 13 [13, 12, 11, 10, 9, 8, 7, 6, 5, 4, 3, 2, 1, 0] [] (fun _ => []) rfl rfl (prs_cons (pri rfl (p_field0 fo40_0 rfl)) (prs_cons (pri rfl (p_load1 t38 rfl rfl (g_row1 (k := 9) rfl rfl))) (prs_cons (pri rfl (p_move rfl)) (prs_cons (pri rfl (p_move rfl)) (prs_cons (pri rfl (p_move rfl)) (prs_cons (pri rfl (p_conv Try.underlying5 Try.underlying3 rfl (by first | exact w_i64 (by omega) (by omega) | rfl))) (prs_cons (pri rfl (p_move rfl)) (prs_cons (pri rfl (p_len_slS Try.underlying52 rfl (SlS.tfb (k := 90) rfl hfm))) (prs_cons (pri rfl (p_bin rfl rfl (b_add (by exact w_i64 (by omega) (by omega))))) (prs_cons (pri rfl (p_bin rfl rfl (b_rem (c := (kk : Int)) (by omega) hkr))) (prs_cons (pri rfl (p_slice_hiS (j := kk) Try.underlying52 t54 rfl rfl (SlS.tfb (k := 90) rfl hfm) rfl hkl)) (prs_cons (pri rfl (p_idx_sl (j := m) Try.underlying38 t64 rfl rfl (hs_own (k := 30) rfl) rfl hml)) (prs_cons (pri rfl (p_field fo64_2 rfl)) prs_nil))))))))))))) rfl rfl rfl rfl rfl rfl rfl rfl rfl (fun _ _ => rfl) rfl (ms_store_own (k := 30) (o := 2) (e' := (⟨f.name, f.vp, f.ps, hiS f.vb kk, f.body.take kk⟩ : Tf)) t52 rfl rfl rfl rfl rfl rfl (by intro _; rfl) hfx (by show _ + 1 ≤ _; decide) rfl) (fun _ _ => stg_end [] rfl rfl prs_nil rfl rfl rfl ?_))
    refine r_seq ?_
    refine r_region ?_
    refine r_p (p_loadA t40 rfl rfl rfl (g_all (k := 8) rfl)) rfl ?_
    refine r_p (p_move rfl) rfl ?_
    refine r_callN (xs := [.tmp 64, .tmp 65, .const (.int .i64 3000)]) (run_spec vp v29 fs (u.take (min u.length 20)) (3000) hg hiu hul (by omega) _ hr1) cb20 [] [(true, 90), (false, 29)] [70, 71] rfl rfl rfl rfl rfl rfl rfl rfl (fun _ _ => rfl) (fun _ _ _ => rfl) rfl (fun ⟨ra, rb⟩ _ => ?_)
    dsimp only
    refine r_p (p_move rfl) rfl ?_
    refine r_p (p_extract rfl rfl) rfl ?_
    refine r_p (p_extract rfl rfl) rfl ?_
    refine r_p (p_extract rfl rfl) rfl ?_
    refine r_p (p_assign rfl) rfl ?_
    refine r_p (p_assign rfl) rfl ?_
    refine r_p (p_assign rfl) rfl ?_
    refine r_nil ?_
    refine r_seq ?_
    refine r_region ?_
    refine r_p (p_loadA t40 rfl rfl rfl (g_all (k := 9) rfl)) rfl ?_
    refine r_p (p_move rfl) rfl ?_
    refine r_collect 93 [30, 90] (C := tfsA v33 (cutP fs m f (hiS f.vb kk) kk)) rfl (cut_tfs hfx hkl) ?_
    refine r_callN (xs := [.tmp 71, .tmp 72, .const (.int .i64 3000)]) (run_spec v33 v29 (cutP fs m f (hiS f.vb kk) kk) (u.take (min u.length 20)) 3000 (cut_gp hfx hg) hiu hul (by omega) _ hr2) cb20 [] [(true, 93), (false, 29)] [72, 73] rfl rfl rfl rfl rfl rfl rfl rfl (fun _ _ => rfl) (fun _ _ _ => rfl) rfl (fun ⟨rc, rd⟩ _ => ?_)
    dsimp only
    refine r_p (p_move rfl) rfl ?_
    refine r_p (p_extract rfl rfl) rfl ?_
    refine r_p (p_extract rfl rfl) rfl ?_
    refine r_p (p_extract rfl rfl) rfl ?_
    refine r_p (p_assign rfl) rfl ?_
    refine r_p (p_assign rfl) rfl ?_
    refine r_p (p_assign rfl) rfl ?_
    refine r_nil ?_
    refine r_seq ?_
    refine r_seq ?_
    refine r_region ?_
    refine r_p (p_move rfl) rfl ?_
    refine r_p (p_bin rfl rfl b_ne) rfl ?_
    refine r_nil ?_
    refine r_cond rfl (fun h4 => ?_) (fun h4 => ?_)
    · (try simp only [decide_eq_true_eq, decide_eq_false_iff_not, Bool.and_eq_true, Bool.or_eq_true, Bool.and_eq_false_iff, Bool.or_eq_false_iff, Bool.not_eq_true, Bool.not_eq_false, Bool.not_eq_true', Bool.not_eq_false', Bool.not_not, bne_iff_ne, beq_iff_eq] at h4)
      refine r_seq ?_
      refine r_region ?_
      refine r_p (p_move rfl) rfl ?_
      refine r_p (p_assign rfl) rfl ?_
      refine r_nil ?_
      refine r_cret ?_
      refine r_ret () trivial rfl (rs1 (rv_tmp rfl)) rfl [] [] rfl rfl rfl
    · (try simp only [decide_eq_true_eq, decide_eq_false_iff_not, Bool.and_eq_true, Bool.or_eq_true, Bool.and_eq_false_iff, Bool.or_eq_false_iff, Bool.not_eq_true, Bool.not_eq_false, Bool.not_eq_true', Bool.not_eq_false', Bool.not_not, bne_iff_ne, beq_iff_eq] at h4)
      obtain ⟨hz, o, ho⟩ := runIs_prefix hfx hg hfn hxm hq2 hr1 h4 hr2
      dsimp only at hz ho
      subst hz
      subst ho
      have hjl : o2.length ≤ (o2 ++ o).length := by rw [List.length_append]; omega
      refine r_freeze 70 94 rfl own_to_sl ?_
      refine r_freeze 72 95 rfl own_to_sl ?_
      refine r_skip ?_
      refine r_seq ?_
      refine r_region ?_
      refine r_p (p_move rfl) rfl ?_
      refine r_p (p_move rfl) rfl ?_
      refine r_gyes rfl rfl ?_
      refine r_p (p_move rfl) rfl ?_
      refine r_gyes rfl rfl ?_
      refine r_p (p_bin rfl rfl b_eq) rfl ?_
      with_reducible rw [decide_eq_true (rfl : (0 : Int) = (0 : Int))]
      refine r_p (p_pick rfl rfl rfl (pick_t rfl)) rfl ?_
      refine r_p (p_move rfl) rfl ?_
      refine r_gyes rfl rfl ?_
      refine r_p (p_move rfl) rfl ?_
      refine r_gyes rfl rfl ?_
      refine r_p (p_len_sl Try.underlying35 rfl (hs_sl (k := 95) rfl)) rfl ?_
      refine r_gyes rfl rfl ?_
      refine r_p (p_move rfl) rfl ?_
      refine r_gyes rfl rfl ?_
      refine r_p (p_len_sl Try.underlying35 rfl (hs_sl (k := 94) rfl)) rfl ?_
      refine r_gyes rfl rfl ?_
      refine r_p (p_bin rfl rfl b_le) rfl ?_
      with_reducible rw [decide_eq_true (show ((o2.length : Nat) : Int) ≤ (((o2 ++ o).length : Nat) : Int) by omega)]
      refine r_p (p_pick rfl rfl rfl (pick_t rfl)) rfl ?_
      refine r_p (p_move rfl) rfl ?_
      refine r_gyes rfl rfl ?_
      refine r_p (p_move rfl) rfl ?_
      refine r_gyes rfl rfl ?_
      refine r_p (p_move rfl) rfl ?_
      refine r_gyes rfl rfl ?_
      refine r_p (p_move rfl) rfl ?_
      refine r_gyes rfl rfl ?_
      refine r_p (p_len_sl Try.underlying35 rfl (hs_sl (k := 95) rfl)) rfl ?_
      refine r_gyes rfl rfl ?_
      refine r_p (p_slice_hi (j := o2.length) Try.underlying35 t22 rfl rfl (hs_sl (k := 94) rfl) rfl hjl) rfl ?_
      refine r_gyes rfl rfl ?_
      refine r_hi 94 96 o2.length rfl hjl ?_
      refine r_callN (xs := [.tmp 93, .tmp 97]) (rwords_spec rc (hiS ra o2.length) o2 ((o2 ++ o).take o2.length) hol2) cb21 [] [(false, 95), (false, 96)] [] rfl rfl rfl rfl rfl rfl rfl rfl (fun _ _ => rfl) (fun _ _ _ => rfl) rfl (fun _ _ => ?_)
      with_reducible rw [decide_eq_true (show o2 = (o2 ++ o).take o2.length by simp)]
      refine r_p (p_pick rfl rfl rfl (pick_t rfl)) rfl ?_
      refine r_p (p_assign rfl) rfl ?_
      refine r_nil ?_
      refine r_cret ?_
      refine r_ret () trivial rfl (rs1 (rv_tmp rfl)) rfl [] [] rfl rfl rfl

end Go.Proofs.Ytdcbbkpdlcojfaa
