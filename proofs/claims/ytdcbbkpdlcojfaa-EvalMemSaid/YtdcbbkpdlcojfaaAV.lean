/-
  What the check says: programs without an error can run. Plain; no condition.
-/
import Derived.Test.YtdcbbkpdlcojfaaAU
import Derived.Test.YtdcbbkpdlcojfaaAH
namespace Go.Proofs.Ytdcbbkpdlcojfaa
set_option linter.unusedSimpArgs false
set_option linter.unusedVariables false
open Go.RowKit

theorem bin_some {nm : ByteArray} (h : isBin nm = true) (a b : Int) : (biF nm a b).isSome = true := by
  unfold isBin at h
  obtain ⟨p, hp⟩ := Option.isSome_iff_exists.1 h
  have h1 := List.mem_of_find?_eq_some hp
  have h2 := List.find?_some hp
  have h2 : p.1 = nm := by simpa using h2
  subst h2
  simp only [lvL, List.mem_cons, List.not_mem_nil, or_false] at h1
  rcases h1 with rfl | rfl | rfl | rfl | rfl | rfl | rfl | rfl | rfl | rfl | rfl | rfl | rfl | rfl | rfl | rfl <;> rfl
theorem un_some {nm : ByteArray} (h : memB nm unL = true) (a : Int) : (unF nm a).isSome = true := by
  unfold memB at h
  obtain ⟨p, h1, h2⟩ := List.any_eq_true.1 h
  have h2 : nm = p := by simpa using h2
  subst h2
  simp only [unL, List.mem_cons, List.not_mem_nil, or_false] at h1
  rcases h1 with rfl | rfl | rfl <;> rfl
theorem okX_cases {k : Int} {nm : ByteArray} {n : Nat} (h : okX k nm n = true) : (k = 1 ∧ n = 0) ∨ (k = 5 ∧ n = 0) ∨ (k = 2 ∧ n = 0) ∨ k = 3 ∨ (k = 4 ∧ n = 1) ∨ (k = 6 ∧ memB nm unL = true ∧ n = 1) ∨ (k = 7 ∧ isBin nm = true ∧ n = 2) := by
  unfold okX at h
  split at h
  · rename_i hk
    simp only [Bool.and_eq_true, decide_eq_true_eq] at h
    rcases hk with hk | hk
    · exact .inl ⟨hk, h.2⟩
    · exact .inr (.inl ⟨hk, h.2⟩)
  · split at h
    · rename_i hk
      simp only [Bool.and_eq_true, decide_eq_true_eq] at h
      exact .inr (.inr (.inl ⟨hk, h.2⟩))
    · split at h
      · rename_i hk
        exact .inr (.inr (.inr (.inl hk)))
      · split at h
        · rename_i hk
          simp only [Bool.and_eq_true, decide_eq_true_eq] at h
          exact .inr (.inr (.inr (.inr (.inl ⟨hk, h.2⟩))))
        · split at h
          · rename_i hk
            simp only [Bool.and_eq_true, decide_eq_true_eq] at h
            exact .inr (.inr (.inr (.inr (.inr (.inl ⟨hk, h.1, h.2⟩)))))
          · split at h
            · rename_i hk
              simp only [Bool.and_eq_true, decide_eq_true_eq] at h
              exact .inr (.inr (.inr (.inr (.inr (.inr ⟨hk, h.1, h.2⟩)))))
            · cases h
theorem call_fits {fs : List Tf} {ns : List ByteArray} {t : Tx} (h : nE fs ns t = 0) (hk : t.kind = 3) : ∃ f, ffind fs t.name = some f ∧ f.ps.length = t.kids.length := by
  cases hf : ffind fs t.name with
  | none => rw [nE_none hk hf] at h; cases h
  | some f =>
    rw [nE_some hk hf] at h
    refine ⟨f, rfl, ?_⟩
    split at h
    · assumption
    · cases h
mutual
theorem vx_of {fs : List Tf} {ns : List ByteArray} : ∀ t : Tx, GX t → rX t = true → eX fs ns t = 0 → VX fs t
  | .mk k n nm v kids, hg, hr, he => by
    have hr2 : (okX k nm kids.length && (decide (k = 1) || decide (n = 0)) && rXs kids) = true := hr
    simp only [Bool.and_eq_true] at hr2
    obtain ⟨⟨h1, _⟩, h3⟩ := hr2
    have he2 := eX_eq fs ns (.mk k n nm v kids)
    rw [he] at he2
    obtain ⟨e1, e2⟩ := fst_eq_zero.1 he2.symm
    have hc := okX_cases h1
    refine ⟨hg.1, hg.2.2.1, fun hk => by omega, fun hk => ?_, fun hk => ?_, fun k1 k2 k4 k5 k6 k7 => ?_, vxs_of kids hg.2.2.2 h3 e2⟩
    · have : memB nm unL = true ∧ kids.length = 1 := by
        rcases hc with hc | hc | hc | hc | hc | ⟨_, hc, hn⟩ | hc
        · omega
        · omega
        · omega
        · omega
        · omega
        · exact ⟨hc, hn⟩
        · omega
      exact ⟨by omega, un_some this.1⟩
    · have : isBin nm = true ∧ kids.length = 2 := by
        rcases hc with hc | hc | hc | hc | hc | hc | ⟨_, hc, hn⟩
        · omega
        · omega
        · omega
        · omega
        · omega
        · omega
        · exact ⟨hc, hn⟩
      exact ⟨by omega, bin_some this.1⟩
    · have hk : k = 3 := by omega
      obtain ⟨f, hf1, hf2⟩ := call_fits e1 hk
      exact ⟨f, hf1, by rw [hf2]; exact Nat.le_refl _⟩
theorem vxs_of {fs : List Tf} {ns : List ByteArray} : ∀ l : List Tx, GXs l → rXs l = true → eXs fs ns l = 0 → VXs fs l
  | [], _, _, _ => trivial
  | t :: r, hg, hr, he => by
    have hr2 : (rX t && rXs r) = true := hr
    rw [Bool.and_eq_true] at hr2
    obtain ⟨e1, e2⟩ := fst_eq_zero.1 he
    exact ⟨vx_of t hg.1 hr2.1 e1, vxs_of r hg.2 hr2.2 e2⟩
end
theorem okY_es {k : Int} {nm : ByteArray} {ne nb nl : Nat} (h : okY k nm ne nb nl = true) : 1 ≤ k ∧ k ≤ 8 ∧ ne = (if k = 3 then 2 else 1) ∧ (k = 4 ∨ k = 5 ∨ nb = 0) ∧ (k = 4 ∨ nl = 0) := by
  unfold okY at h
  simp only [Bool.and_eq_true, Bool.or_eq_true, decide_eq_true_eq] at h
  obtain ⟨⟨⟨⟨⟨h1, h2⟩, h3⟩, h4⟩, h5⟩, h6⟩ := h
  exact ⟨h1, h2, h3, by rcases h5 with (h | h) | h; exact .inl h; exact .inr (.inl h); exact .inr (.inr h), h6⟩
mutual
theorem vy_of {fs : List Tf} : ∀ (ns : List ByteArray) (t : Ty), GY t → rY t = true → (bY fs ns t).2 = 0 → VY fs t
  | ns, .mk k nm ve es vb body vl els, hg, hr, he => by
    have hr2 : (okY k nm es.length body.length els.length && rXs es && rYs body && rYs els) = true := hr
    simp only [Bool.and_eq_true] at hr2
    obtain ⟨⟨⟨h1, h2⟩, h3⟩, h4⟩ := hr2
    have hk := okY_es h1
    rw [bY_eq] at he
    obtain ⟨e1, he⟩ := fst_eq_zero.1 he
    obtain ⟨e2, he⟩ := fst_eq_zero.1 he
    obtain ⟨e3, he⟩ := fst_eq_zero.1 he
    obtain ⟨e4, e5⟩ := fst_eq_zero.1 he
    have hes : es.length = if k = 3 then 2 else 1 := hk.2.2.1
    exact ⟨⟨by rw [hes]; split <;> omega, hg.2.1.1, fun h3 => by rw [hes, if_pos h3]; exact Nat.le_refl _, vxs_of es hg.2.1.2 h2 e2⟩, ⟨hg.2.2.1.1, vys_of _ body hg.2.2.1.2 h3 e4⟩, hg.2.2.2.1, vys_of _ els hg.2.2.2.2 h4 e5⟩
theorem vys_of {fs : List Tf} : ∀ (ns : List ByteArray) (l : List Ty), GYs l → rYs l = true → (bYs fs ns l).2 = 0 → VYs fs l
  | _, [], _, _, _ => trivial
  | ns, t :: r, hg, hr, he => by
    have hr2 : (rY t && rYs r) = true := hr
    rw [Bool.and_eq_true] at hr2
    obtain ⟨e1, e2⟩ := fst_eq_zero.1 he
    exact ⟨vy_of ns t hg.1 hr2.1 e1, vys_of _ r hg.2 hr2.2 e2⟩
end
theorem chkFs_mem {fs : List Tf} : ∀ {l : List Tf}, chkFs fs l = 0 → ∀ f ∈ l, chkF fs f = 0
  | [], _, f, hf => by simp at hf
  | g :: r, h, f, hf => by
    obtain ⟨h1, h2⟩ := fst_eq_zero.1 h
    rcases List.mem_cons.1 hf with rfl | hf
    · exact h1
    · exact chkFs_mem h2 f hf
/-- What follows from a check without an error. -/
structure Fine (fs : List Tf) (f : Tf) : Prop where
  vf : VF fs
  main : ffind fs nMain = some f
  noP : f.ps = []
  len : fs.length ≤ 16
  once : ∀ (i : Nat) (f : Tf), fs[i]? = some f → fix fs f.name = (i : Int)
  each : ∀ f ∈ fs, chkF fs f = 0
theorem chk_fine {fs : List Tf} (hg : GP fs) (h : chk fs = 0) : ∃ f, Fine fs f := by
  unfold chk at h
  split at h
  · cases h
  · rename_i h1
    split at h
    · cases h
    · rename_i h2
      split at h
      · cases h
      · rename_i h3
        split at h
        · cases h
        · rename_i f hf
          split at h
          · cases h
          · rename_i h4
            have h1 : rP fs = true := by simpa using h1
            have h3 : once fs = true := by simpa using h3
            have hr := List.all_eq_true.1 h1
            have he := chkFs_mem h
            refine ⟨f, fun g hgm => ?_, hf, List.eq_nil_of_length_eq_zero (by omega), by omega, once_iff.1 h3, he⟩
            obtain ⟨g1, g2, g3, g4, g5, g6⟩ := hg.2 g hgm
            have hrg := hr g hgm
            unfold rF at hrg
            simp only [Bool.and_eq_true] at hrg
            have heg := he g hgm
            rw [chkF_eq] at heg
            have h6 := (fst_eq_zero.1 (fst_eq_zero.1 heg).2).2
            exact ⟨g3, g4, vys_of _ g.body g5 hrg.2 h6⟩
/-- The first state. -/
def ms0 (ins : List Int) (fuel : Int) : Ms := ⟨ins, [], fun _ => 0, fuel⟩
theorem ms0_ok {ins : List Int} {fuel : Int} (hi : ∀ x ∈ ins, oW x) (hf : fuel ≤ 1000000000000) : okMs (ms0 ins fuel) := ⟨hi, fun _ => oW0, by show fuel < _; omega, by show ((0 : Nat) : Int) + max fuel 0 ≤ _; omega⟩
/-- What Run gives: the error, the outputs, mem. -/
structure Ru where
  err : Int
  out : List Int
  mem : List Int
def ruOf : Re Int → Ru
  | .ok _ s => ⟨0, s.out, (List.range 256).map s.mem⟩
  | .err z => ⟨z, [], []⟩
/-- The result of Run. -/
inductive RunIs (fs : List Tf) (ins : List Int) (fuel : Int) : Ru → Prop where
  | bad (h : chk fs ≠ 0) : RunIs fs ins fuel ⟨chk fs, [], []⟩
  | run (f : Tf) (g : Nat) (r : Re Int) (h : chk fs = 0) (hf : ffind fs nMain = some f) (he : evC g fs 0 f [] (ms0 ins fuel) = some r) : RunIs fs ins fuel (ruOf r)
theorem runIs_ex {fs : List Tf} (hg : GP fs) {ins : List Int} {fuel : Int} (hi : ∀ x ∈ ins, oW x) (hf : fuel ≤ 1000000000000) : ∃ r, RunIs fs ins fuel r := by
  by_cases h : chk fs = 0
  · obtain ⟨f, hfn⟩ := chk_fine hg h
    have ht := tot hfn.vf fuel.toNat
    obtain ⟨g, r, hr⟩ := ht.c 0 f [] (ms0 ins fuel) (ffind_mem hfn.main) (by simp) (ms0_ok hi hf) (by show fuel ≤ _; omega)
    exact ⟨_, .run f g r h hfn.main hr⟩
  · exact ⟨_, .bad h⟩
theorem runIs_fun {fs : List Tf} {ins : List Int} {fuel : Int} {r r' : Ru} (h : RunIs fs ins fuel r) (h' : RunIs fs ins fuel r') : r = r' := by
  cases h with
  | bad h =>
    cases h' with
    | bad => rfl
    | run f g q h2 => exact absurd h2 h
  | run f g q h hf he =>
    cases h' with
    | bad h2 => exact absurd h h2
    | run f2 g2 q2 h2 hf2 he2 =>
      rw [hf] at hf2
      cases hf2
      have h3 := mono_c (Nat.le_max_left g g2) he
      have h4 := mono_c (Nat.le_max_right g g2) he2
      rw [h3] at h4
      cases h4
      rfl
end Go.Proofs.Ytdcbbkpdlcojfaa
