/-
  Leaving out what equals its neighbour. Condition: at most 1000 integers.
-/
import Derived.Test.YtfdbkclbcajkiaaV4
import Derived.Test.YtfdbkclbcajkiaaKB
namespace Go.Proofs.Ytfdbkclbcajkiaa
set_option linter.unusedSimpArgs false
set_option linter.unusedVariables false
open Go.RowKit

/-- No two neighbours are equal. -/
def NoPair (xs : List Int) : Prop := ∀ i, i + 1 < xs.length → xs.getD i 0 ≠ xs.getD (i + 1) 0

set_option maxRecDepth 100000 in
theorem compact_spec (v : SV) (xs : List Int) (hl : xs.length ≤ 1000) :
    Spec Try.prog 38 [sv v] [own 3 1 eI (sv v) xs] [] (X := (SV × List Int)) (fun x => x.2.length ≤ xs.length ∧ (x.2.length = xs.length ↔ NoPair xs)) (fun x => sv x.1) (fun x => [own 3 1 eI (sv x.1) x.2]) (fun _ => []) := by
  refine r_enter Try.func38 rfl Try.ntmps38 rfl fun w0 M H => ?_
  refine r_seq ?_
  refine r_region ?_
  refine r_p (p_assign rfl) rfl ?_
  refine r_nil ?_
  refine r_seq ?_
  refine r_seq ?_
  refine r_region ?_
  refine r_p (p_move rfl) rfl ?_
  refine r_p (p_len_sl Try.underlying22 rfl (hs_own (k := 0) rfl)) rfl ?_
  refine r_p (p_bin rfl rfl b_lt) rfl ?_
  refine r_nil ?_
  refine r_cond rfl (fun h1 => ?_) (fun h1 => ?_)
  · (try simp only [decide_eq_true_eq, decide_eq_false_iff_not, Bool.and_eq_true, Bool.or_eq_true, Bool.and_eq_false_iff, Bool.or_eq_false_iff, Bool.not_eq_true, Bool.not_eq_false, Bool.not_eq_true', Bool.not_eq_false', Bool.not_not, bne_iff_ne, beq_iff_eq] at h1)
    have hs : xs.length < 2 := by omega
    refine r_seq ?_
    refine r_region ?_
    refine r_p (p_move rfl) rfl ?_
    refine r_p (p_assign rfl) rfl ?_
    refine r_nil ?_
    refine r_cret ?_
    refine r_ret (v, xs) ⟨Nat.le_refl _, fun _ i hi => by omega, fun _ => rfl⟩ rfl (rs1 (rv_tmp rfl)) rfl [0] [] rfl rfl rfl
  · (try simp only [decide_eq_true_eq, decide_eq_false_iff_not, Bool.and_eq_true, Bool.or_eq_true, Bool.and_eq_false_iff, Bool.or_eq_false_iff, Bool.not_eq_true, Bool.not_eq_false, Bool.not_eq_true', Bool.not_eq_false', Bool.not_not, bne_iff_ne, beq_iff_eq] at h1)
    refine r_skip ?_
    refine r_seq ?_
    refine r_seq ?_
    refine r_region ?_
    refine r_p (p_assign rfl) rfl ?_
    refine r_nil ?_
    refine r_block ?_
    refine r_loop (X := Nat) (fun k => 1 ≤ k ∧ k ≤ xs.length ∧ ∀ i, i + 1 < k → xs.getD i 0 ≠ xs.getD (i + 1) 0) (fun k => [(0, sv v), (3, .int .i64 (k : Int))]) (fun k => [(0, own 3 1 eI (sv v) xs)]) (fun k => []) (fun k => xs.length - k) 1 ⟨Nat.le_refl _, by omega, fun i h => by omega⟩ rfl rfl rfl (fun k hk0 => ?_)
    obtain ⟨hk1, hk2, hk3⟩ := hk0
    refine r_seq ?_
    refine r_seq ?_
    refine r_region ?_
    refine r_p (p_move rfl) rfl ?_
    refine r_p (p_move rfl) rfl ?_
    refine r_p (p_len_sl Try.underlying22 rfl (hs_own (k := 0) rfl)) rfl ?_
    refine r_p (p_bin rfl rfl b_lt) rfl ?_
    refine r_nil ?_
    refine r_cond rfl (fun h2 => ?_) (fun h2 => ?_)
    · (try simp only [decide_eq_true_eq, decide_eq_false_iff_not, Bool.and_eq_true, Bool.or_eq_true, Bool.and_eq_false_iff, Bool.or_eq_false_iff, Bool.not_eq_true, Bool.not_eq_false, Bool.not_eq_true', Bool.not_eq_false', Bool.not_not, bne_iff_ne, beq_iff_eq] at h2)
      have hkl : k < xs.length := by omega
      refine r_skip ?_
      refine r_seq ?_
      refine r_block ?_
      refine r_seq ?_
      refine r_draw [16, 17, 18, 19, 20, 21, 22, 23, 24, 25] _ rfl (stg_end (V := [(0, 16, _), (1, 17, _), (2, 18, _), (3, 19, _), (4, 20, _), (5, 21, _), (6, 22, _), (7, 23, _), (8, 24, _), (9, 25, _)]) [0, 1, 2, 3, 4, 5, 6, 7, 8, 9] rfl rfl (prs_cons (pri rfl (p_move rfl)) (prs_cons (pri rfl (p_move rfl)) (prs_cons (pri rfl (p_idx_sl (j := k) Try.underlying22 t3 rfl rfl (hs_own (k := 0) rfl) (by omega) (by first | omega | (simp; omega)))) (prs_cons (pri rfl (p_load1 t3 rfl rfl (g_el' (hs_own (k := 0) rfl) (by intro _; rfl) (getD_get 0 (by first | omega | (simp; omega))) (by rfl)))) (prs_cons (pri rfl (p_move rfl)) (prs_cons (pri rfl (p_move rfl)) (prs_cons (pri rfl (p_bin rfl rfl (b_sub (by first | exact w_i64 (by omega) (by omega) | rfl)))) (prs_cons (pri rfl (p_idx_sl (j := (k - 1)) Try.underlying22 t3 rfl rfl (hs_own (k := 0) rfl) (by omega) (by first | omega | (simp; omega)))) (prs_cons (pri rfl (p_load1 t3 rfl rfl (g_el' (hs_own (k := 0) rfl) (by intro _; rfl) (getD_get 0 (by first | omega | (simp; omega))) (by rfl)))) (prs_cons (pri rfl (p_bin rfl rfl b_eq)) prs_nil)))))))))) rfl rfl rfl ?_)
      refine r_cond rfl (fun h3 => ?_) (fun h3 => ?_)
      · (try simp only [decide_eq_true_eq, decide_eq_false_iff_not, Bool.and_eq_true, Bool.or_eq_true, Bool.and_eq_false_iff, Bool.or_eq_false_iff, Bool.not_eq_true, Bool.not_eq_false, Bool.not_eq_true', Bool.not_eq_false', Bool.not_not, bne_iff_ne, beq_iff_eq] at h3)
        have heq : xs.getD k 0 = xs.getD (k - 1) 0 := h3
        refine r_seq ?_
        refine r_region ?_
        refine r_p (p_move rfl) rfl ?_
        refine r_p (p_move rfl) rfl ?_
        refine r_p (p_slice_lo (j := k) Try.underlying22 t3 rfl rfl (hs_own (k := 0) rfl) rfl (by omega)) rfl ?_
        refine r_p (p_assign rfl) rfl ?_
        refine r_nil ?_
        refine r_seq ?_
        refine r_seq ?_
        refine r_region ?_
        refine r_p (p_assign rfl) rfl ?_
        refine r_nil ?_
        refine r_block ?_
        refine r_loop (X := Nat × Nat × List Int) (fun x => 1 ≤ x.1 ∧ k ≤ x.2.1 ∧ x.2.1 < k + x.1 ∧ k + x.1 ≤ xs.length ∧ x.2.2.length = xs.length) (fun x => [(0, sv v), (3, .int .i64 (x.2.1 : Int)), (4, sv (loS v k 1)), (5, .int .i64 (x.1 : Int))]) (fun x => [(0, own 3 1 eI (sv v) x.2.2)]) (fun x => []) (fun x => xs.length - x.1) (1, k, xs) ⟨Nat.le_refl _, Nat.le_refl _, by dsimp only; omega, by dsimp only; omega, rfl⟩ rfl rfl rfl (fun ⟨i, q, ys⟩ hx2 => ?_)
        obtain ⟨g1, g2, g3, g4, g5⟩ := hx2
        dsimp only at g1 g2 g3 g4 g5 ⊢
        have g6 : (ys.drop k).length = xs.length - k := by rw [List.length_drop]; omega
        refine r_seq ?_
        refine r_seq ?_
        refine r_region ?_
        refine r_p (p_move rfl) rfl ?_
        refine r_p (p_move rfl) rfl ?_
        refine r_p (p_len_slS Try.underlying22 rfl ((SlS.of (hs_own (k := 0) rfl)).lo (by intro _; rfl) (by omega))) rfl ?_
        refine r_p (p_bin rfl rfl b_lt) rfl ?_
        refine r_nil ?_
        refine r_cond rfl (fun h4 => ?_) (fun h4 => ?_)
        · (try simp only [decide_eq_true_eq, decide_eq_false_iff_not, Bool.and_eq_true, Bool.or_eq_true, Bool.and_eq_false_iff, Bool.or_eq_false_iff, Bool.not_eq_true, Bool.not_eq_false, Bool.not_eq_true', Bool.not_eq_false', Bool.not_not, bne_iff_ne, beq_iff_eq] at h4)
          have hil : i < xs.length - k := by omega
          refine r_skip ?_
          refine r_seq ?_
          refine r_block ?_
          refine r_seq ?_
          refine r_draw [35, 36, 37, 38, 39, 40, 41, 42, 43, 44] _ rfl (stg_end (V := [(0, 35, _), (1, 36, _), (2, 37, _), (3, 38, _), (4, 39, _), (5, 40, _), (6, 41, _), (7, 42, _), (8, 43, _), (9, 44, _)]) [0, 1, 2, 3, 4, 5, 6, 7, 8, 9] rfl rfl (prs_cons (pri rfl (p_move rfl)) (prs_cons (pri rfl (p_move rfl)) (prs_cons (pri rfl (p_idx_slS (j := i) Try.underlying22 t3 rfl rfl ((SlS.of (hs_own (k := 0) rfl)).lo (by intro _; rfl) (by omega)) (by omega) (by rw [List.length_drop]; omega))) (prs_cons (pri rfl (p_load1 t3 rfl rfl (g_elS' ((SlS.of (hs_own (k := 0) rfl)).lo (by intro _; rfl) (by omega)) (by intro _; rfl) (getD_get 0 (by rw [List.length_drop]; omega)) (by rfl)))) (prs_cons (pri rfl (p_move rfl)) (prs_cons (pri rfl (p_move rfl)) (prs_cons (pri rfl (p_bin rfl rfl (b_sub (by first | exact w_i64 (by omega) (by omega) | rfl)))) (prs_cons (pri rfl (p_idx_slS (j := (i - 1)) Try.underlying22 t3 rfl rfl ((SlS.of (hs_own (k := 0) rfl)).lo (by intro _; rfl) (by omega)) (by omega) (by rw [List.length_drop]; omega))) (prs_cons (pri rfl (p_load1 t3 rfl rfl (g_elS' ((SlS.of (hs_own (k := 0) rfl)).lo (by intro _; rfl) (by omega)) (by intro _; rfl) (getD_get 0 (by rw [List.length_drop]; omega)) (by rfl)))) (prs_cons (pri rfl (p_bin rfl rfl b_ne)) prs_nil)))))))))) rfl rfl rfl ?_)
          refine r_cond rfl (fun h5 => ?_) (fun h5 => ?_)
          · (try simp only [decide_eq_true_eq, decide_eq_false_iff_not, Bool.and_eq_true, Bool.or_eq_true, Bool.and_eq_false_iff, Bool.or_eq_false_iff, Bool.not_eq_true, Bool.not_eq_false, Bool.not_eq_true', Bool.not_eq_false', Bool.not_not, bne_iff_ne, beq_iff_eq] at h5)
            refine r_seq ?_
            refine r_region ?_
            refine r_p (p_move rfl) rfl ?_
            refine r_p (p_move rfl) rfl ?_
            refine r_p (p_move rfl) rfl ?_
            refine r_p (p_move rfl) rfl ?_
            refine r_p (p_idx_slS (j := i) Try.underlying22 t3 rfl rfl ((SlS.of (hs_own (k := 0) rfl)).lo (by intro _; rfl) (by omega)) (by omega) (by rw [List.length_drop]; omega)) rfl ?_
            refine r_p (p_load1 t3 rfl rfl (g_elS' ((SlS.of (hs_own (k := 0) rfl)).lo (by intro _; rfl) (by omega)) (by intro _; rfl) (getD_get 0 (by rw [List.length_drop]; omega)) (by rfl))) rfl ?_
            refine r_p (p_idx_sl (j := q) Try.underlying22 t3 rfl rfl (hs_own (k := 0) rfl) (by omega) (by first | omega | (simp; omega))) rfl ?_
            refine r_store_el (k := 0) t3 rfl rfl rfl (by intro _; rfl) (getD_get 0 (by first | omega | (simp; omega))) rfl rfl ?_
            refine r_nil ?_
            refine r_region ?_
            refine r_p (p_move rfl) rfl ?_
            refine r_p (p_bin rfl rfl (b_add (by first | exact w_i64 (by omega) (by omega) | rfl))) rfl ?_
            refine r_p (p_assign rfl) rfl ?_
            refine r_nil ?_
            refine r_region ?_
            refine r_p (p_move rfl) rfl ?_
            refine r_p (p_bin rfl rfl (b_add (by first | exact w_i64 (by omega) (by omega) | rfl))) rfl ?_
            refine r_p (p_assign rfl) rfl ?_
            refine r_nil ?_
            refine r_here (i + 1, q + 1, _) ⟨⟨by dsimp only; omega, by dsimp only; omega, by dsimp only; omega, by dsimp only; omega, by dsimp only; first | exact g5 | (rw [List.length_set]; exact g5)⟩, by dsimp only; omega⟩ rfl rfl rfl
          · (try simp only [decide_eq_true_eq, decide_eq_false_iff_not, Bool.and_eq_true, Bool.or_eq_true, Bool.and_eq_false_iff, Bool.or_eq_false_iff, Bool.not_eq_true, Bool.not_eq_false, Bool.not_eq_true', Bool.not_eq_false', Bool.not_not, bne_iff_ne, beq_iff_eq] at h5)
            refine r_skip ?_
            refine r_region ?_
            refine r_p (p_move rfl) rfl ?_
            refine r_p (p_bin rfl rfl (b_add (by first | exact w_i64 (by omega) (by omega) | rfl))) rfl ?_
            refine r_p (p_assign rfl) rfl ?_
            refine r_nil ?_
            refine r_here (i + 1, q, _) ⟨⟨by dsimp only; omega, by dsimp only; omega, by dsimp only; omega, by dsimp only; omega, by dsimp only; first | exact g5 | (rw [List.length_set]; exact g5)⟩, by dsimp only; omega⟩ rfl rfl rfl
        · (try simp only [decide_eq_true_eq, decide_eq_false_iff_not, Bool.and_eq_true, Bool.or_eq_true, Bool.and_eq_false_iff, Bool.or_eq_false_iff, Bool.not_eq_true, Bool.not_eq_false, Bool.not_eq_true', Bool.not_eq_false', Bool.not_not, bne_iff_ne, beq_iff_eq] at h4)
          have hil : i = xs.length - k := by omega
          refine r_exit ?_
          refine r_seq ?_
          refine r_region ?_
          refine r_p (p_move rfl) rfl ?_
          refine r_p (p_move rfl) rfl ?_
          refine r_p (p_slice_lo (j := q) Try.underlying22 t3 rfl rfl (hs_own (k := 0) rfl) rfl (by omega)) rfl ?_
          refine r_clear (j := q) (k := 0) Try.underlying22 t3 rfl rfl (by omega) ?_
          refine r_nil ?_
          refine r_seq ?_
          refine r_region ?_
          refine r_p (p_move rfl) rfl ?_
          refine r_p (p_move rfl) rfl ?_
          refine r_p (p_slice_hi (j := q) Try.underlying22 t3 rfl rfl (hs_own (k := 0) rfl) rfl (by simp; omega)) rfl ?_
          refine r_p (p_assign rfl) rfl ?_
          refine r_nil ?_
          refine r_cret ?_
          refine r_conva (k := 0) rfl (own_hi (j := q) (by intro _; rfl) (by simp; omega)) ?_
          refine r_ret (hiS v q, _) ⟨?_, ?_⟩ rfl (rs1 (rv_tmp rfl)) rfl [0] [] rfl rfl rfl
          · simp; omega
          · constructor
            · intro h
              exfalso
              simp at h
              omega
            · intro h
              exact absurd (by rw [show k - 1 + 1 = k by omega]; exact heq.symm) (h (k - 1) (by omega))
      · (try simp only [decide_eq_true_eq, decide_eq_false_iff_not, Bool.and_eq_true, Bool.or_eq_true, Bool.and_eq_false_iff, Bool.or_eq_false_iff, Bool.not_eq_true, Bool.not_eq_false, Bool.not_eq_true', Bool.not_eq_false', Bool.not_not, bne_iff_ne, beq_iff_eq] at h3)
        have hne : ¬ xs.getD k 0 = xs.getD (k - 1) 0 := h3
        refine r_skip ?_
        refine r_region ?_
        refine r_p (p_move rfl) rfl ?_
        refine r_p (p_bin rfl rfl (b_add (by first | exact w_i64 (by omega) (by omega) | rfl))) rfl ?_
        refine r_p (p_assign rfl) rfl ?_
        refine r_nil ?_
        refine r_here (k + 1) ⟨⟨by omega, by omega, fun i hi => ?_⟩, by omega⟩ rfl rfl rfl
        by_cases e : i + 1 < k
        · exact hk3 i e
        · have e2 : i = k - 1 := by omega
          subst e2
          rw [show k - 1 + 1 = k by omega]
          exact fun h => hne h.symm
    · (try simp only [decide_eq_true_eq, decide_eq_false_iff_not, Bool.and_eq_true, Bool.or_eq_true, Bool.and_eq_false_iff, Bool.or_eq_false_iff, Bool.not_eq_true, Bool.not_eq_false, Bool.not_eq_true', Bool.not_eq_false', Bool.not_not, bne_iff_ne, beq_iff_eq] at h2)
      have hkl : k = xs.length := by omega
      subst hkl
      refine r_exit ?_
      refine r_seq ?_
      refine r_region ?_
      refine r_p (p_move rfl) rfl ?_
      refine r_p (p_assign rfl) rfl ?_
      refine r_nil ?_
      refine r_cret ?_
      refine r_ret (v, xs) ⟨Nat.le_refl _, fun _ => hk3, fun _ => rfl⟩ rfl (rs1 (rv_tmp rfl)) rfl [0] [] rfl rfl rfl

end Go.Proofs.Ytfdbkclbcajkiaa
