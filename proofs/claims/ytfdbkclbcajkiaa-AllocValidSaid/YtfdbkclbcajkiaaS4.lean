/-
  Insertion sort of a block. Conditions as for comparing.
-/
import Derived.Test.YtfdbkclbcajkiaaS3
namespace Go.Proofs.Ytfdbkclbcajkiaa
set_option linter.unusedSimpArgs false
set_option linter.unusedVariables false
open Go.RowKit

theorem rot_i (v : SV) (xs : List Int) (a m b : Int) (h0a : 0 ≤ a) (h0m : 0 ≤ m) (h0b : 0 ≤ b) (ha : a < m) (hb : m < b) (hbl : b ≤ xs.length) (hl : xs.length ≤ 1000) (B : Nat) (u : Nat → Int) :
    Spec Try.prog 59 [sv v, .int .i64 a, .int .i64 m, .int .i64 b, .func (.func 33) #[] #[.pointer (some ⟨B, 0, none⟩)]] [own 3 1 eI (sv v) xs, arr B 30 28 (vi u)] [] (X := Unit) (fun _ => True) (fun _ => .tuple #[]) (fun _ => [own 3 1 eI (sv v) (rot 0 (b - a).toNat xs m.toNat (m - a).toNat (b - m).toNat), arr B 30 28 (vi u)]) (fun _ => []) := by
  obtain ⟨a, rfl⟩ := Int.eq_ofNat_of_zero_le h0a
  obtain ⟨m, rfl⟩ := Int.eq_ofNat_of_zero_le h0m
  obtain ⟨b, rfl⟩ := Int.eq_ofNat_of_zero_le h0b
  have h := rot_spec v xs a m b (by omega) (by omega) (by omega) hl B u
  simp only [Int.toNat_natCast] at *
  rw [show ((b : Int) - a).toNat = b - a by omega, show ((m : Int) - a).toNat = m - a by omega, show ((b : Int) - m).toNat = b - m by omega]
  exact h

set_option maxRecDepth 100000 in
theorem ins_spec (v : SV) (xs : List Int) (a b : Nat) (hv : InV xs) (ha : a ≤ b) (hbl : b ≤ xs.length) (hl : xs.length ≤ 1000) (B : Nat) (u : Nat → Int) (hu : ∀ i, 0 ≤ u i ∧ u i ≤ 1000000) :
    Spec Try.prog 46 [sv v, .int .i64 (a : Int), .int .i64 (b : Int), .func (.func 33) #[] #[.pointer (some ⟨B, 0, none⟩)]] [own 3 1 eI (sv v) xs, arr B 30 28 (vi u)] [] (X := Unit) (fun _ => True) (fun _ => .tuple #[]) (fun _ => [own 3 1 eI (sv v) (insSort 0 (lessU u) xs a b), arr B 30 28 (vi u)]) (fun _ => []) := by
  refine r_enter Try.func46 rfl Try.ntmps46 rfl fun w0 M H => ?_
  refine r_seq ?_
  refine r_region ?_
  refine r_p (p_move rfl) rfl ?_
  refine r_p (p_bin rfl rfl (b_add (by first | exact w_i64 (by omega) (by omega) | rfl))) rfl ?_
  refine r_p (p_assign rfl) rfl ?_
  refine r_nil ?_
  refine r_block ?_
  refine r_loop (X := Nat × List Int) (fun x => a + 1 ≤ x.1 ∧ (x.1 ≤ b ∨ b = a) ∧ x.2.length = xs.length ∧ InV x.2 ∧ insOut 0 (lessU u) a (b - x.1) x.1 x.2 = insSort 0 (lessU u) xs a b) (fun x => [(0, sv v), (1, .int .i64 (a : Int)), (2, .int .i64 (b : Int)), (3, .func (.func 33) #[] #[.pointer (some ⟨B, 0, none⟩)]), (8, .int .i64 (x.1 : Int))]) (fun x => [(0, own 3 1 eI (sv v) x.2), (1, arr B 30 28 (vi u))]) (fun x => []) (fun x => b - x.1) (a + 1, xs) ⟨by dsimp only; omega, by dsimp only; omega, rfl, hv, rfl⟩ rfl rfl rfl (fun ⟨i, ys⟩ hx => ?_)
  obtain ⟨hi, hib, hy, hv1, hr⟩ := hx
  dsimp only at hi hib hy hv1 hr ⊢
  refine r_seq ?_
  refine r_seq ?_
  refine r_region ?_
  refine r_p (p_move rfl) rfl ?_
  refine r_p (p_move rfl) rfl ?_
  refine r_p (p_bin rfl rfl b_lt) rfl ?_
  refine r_nil ?_
  refine r_cond rfl (fun h1 => ?_) (fun h1 => ?_)
  · (try simp only [decide_eq_true_eq, decide_eq_false_iff_not, Bool.and_eq_true, Bool.or_eq_true, Bool.and_eq_false_iff, Bool.or_eq_false_iff, Bool.not_eq_true, Bool.not_eq_false, Bool.not_eq_true', Bool.not_eq_false', Bool.not_not, bne_iff_ne, beq_iff_eq] at h1)
    have hilt : i < b := by omega
    refine r_skip ?_
    refine r_seq ?_
    refine r_block ?_
    refine r_seq ?_
    refine r_region ?_
    refine r_p (p_move rfl) rfl ?_
    refine r_p (p_assign rfl) rfl ?_
    refine r_nil ?_
    refine r_block ?_
    refine r_loop (X := Nat × List Int) (fun x => a ≤ x.1 ∧ x.1 ≤ i ∧ x.2.length = xs.length ∧ InV x.2 ∧ insIn 0 (lessU u) a x.1 x.2 = insIn 0 (lessU u) a i ys) (fun x => [(0, sv v), (1, .int .i64 (a : Int)), (2, .int .i64 (b : Int)), (3, .func (.func 33) #[] #[.pointer (some ⟨B, 0, none⟩)]), (8, .int .i64 (i : Int)), (9, .int .i64 (x.1 : Int))]) (fun x => [(0, own 3 1 eI (sv v) x.2), (1, arr B 30 28 (vi u))]) (fun x => []) (fun x => x.1) (i, ys) ⟨by dsimp only; omega, Nat.le_refl _, hy, hv1, rfl⟩ rfl rfl rfl (fun ⟨j, zs⟩ hx2 => ?_)
    obtain ⟨hj, hji, hz, hv2, hin⟩ := hx2
    dsimp only at hj hji hz hv2 hin ⊢
    refine r_seq ?_
    refine r_seq ?_
    by_cases h2 : a < j
    · refine r_draw [18, 19, 20, 21, 22, 23, 24, 25, 26, 27, 28, 29, 30, 31, 32, 33, 34] _ rfl (stg_memg (V := [(0, 18, _), (1, 19, _), (2, 20, _), (3, 21, _), (4, 22, _), (5, 23, _), (6, 24, _), (7, 25, _), (8, 26, _), (9, 27, _), (10, 28, _), (11, 29, _), (12, 30, _), (13, 31, _)]) [0, 1, 2, 3, 4, 5, 6, 7, 8, 9, 10, 11, 12, 13] 14 [14, 13, 12, 11, 10, 9, 8, 7, 6, 5, 4, 3, 2, 1, 0] [15, 16] (fun x32 => [(15, 33, _), (16, 34, _)]) rfl rfl (prs_cons (pri rfl (p_move rfl)) (prs_cons (pri rfl (p_move rfl)) (prs_cons (pri rfl (p_bin rfl rfl b_gt)) (prs_cons (pri rfl (p_move rfl)) (prs_cons (prig_y rfl rfl rfl (decide_eq_true (by omega)) (p_move rfl)) (prs_cons (prig_y rfl rfl rfl (decide_eq_true (by omega)) (p_move rfl)) (prs_cons (prig_y rfl rfl rfl (decide_eq_true (by omega)) (p_move rfl)) (prs_cons (prig_y rfl rfl rfl (decide_eq_true (by omega)) (p_idx_sl (j := j) Try.underlying22 t3 rfl rfl (hs_own (k := 0) rfl) (by omega) (by first | omega | (simp; omega)))) (prs_cons (prig_y rfl rfl rfl (decide_eq_true (by omega)) (p_load1 t3 rfl rfl (g_el' (hs_own (k := 0) rfl) (by intro _; rfl) (getD_get 0 (by first | omega | (simp; omega))) (by rfl)))) (prs_cons (prig_y rfl rfl rfl (decide_eq_true (by omega)) (p_move rfl)) (prs_cons (prig_y rfl rfl rfl (decide_eq_true (by omega)) (p_move rfl)) (prs_cons (prig_y rfl rfl rfl (decide_eq_true (by omega)) (p_bin rfl rfl (b_sub (by first | exact w_i64 (by omega) (by omega) | rfl)))) (prs_cons (prig_y rfl rfl rfl (decide_eq_true (by omega)) (p_idx_sl (j := (j - 1)) Try.underlying22 t3 rfl rfl (hs_own (k := 0) rfl) (by omega) (by first | omega | (simp; omega)))) (prs_cons (prig_y rfl rfl rfl (decide_eq_true (by omega)) (p_load1 t3 rfl rfl (g_el' (hs_own (k := 0) rfl) (by intro _; rfl) (getD_get 0 (by first | omega | (simp; omega))) (by rfl)))) prs_nil)))))))))))))) rfl rfl rfl rfl rfl (decide_eq_true (by omega)) rfl rfl rfl rfl rfl rfl (fun _ _ => rfl) rfl (ms_call (xs := [.tmp 26, .tmp 31]) (cmp_spec _ _ (hv2.get (by omega)) (hv2.get (by omega)) B u hu) cb33 [1] [] [1] [] rfl rfl rfl rfl rfl rfl rfl rfl (fun _ _ => rfl) (fun _ _ _ => rfl)) (fun x32 hx32 => stg_end [15, 16] rfl rfl (prs_cons (prig_y rfl rfl rfl (decide_eq_true (by omega)) (p_bin rfl rfl b_lt)) (prs_cons (pri rfl (p_pick rfl rfl rfl (pick_t (decide_eq_true (by omega))))) prs_nil)) rfl rfl rfl ?_))
      refine r_cond rfl (fun h3 => ?_) (fun h3 => ?_)
      · (try simp only [decide_eq_true_eq, decide_eq_false_iff_not, Bool.and_eq_true, Bool.or_eq_true, Bool.and_eq_false_iff, Bool.or_eq_false_iff, Bool.not_eq_true, Bool.not_eq_false, Bool.not_eq_true', Bool.not_eq_false', Bool.not_not, bne_iff_ne, beq_iff_eq] at h3)
        have hless : lessU u (zs.getD j 0) (zs.getD (j - 1) 0) = true := by unfold lessU; simp only [decide_eq_true_eq]; omega
        refine r_skip ?_
        refine r_seq ?_
        refine r_block ?_
        refine r_drawM [0, 1, 2, 3, 4, 5, 6, 7, 8, 9, 10, 11, 12, 13, 14, 15, 16, 17] [0, 1, 13, 14, 15, 2, 3, 4, 5, 6, 7, 8, 9, 10, 11, 12, 16, 17] [37, 38, 39, 40, 41, 42, 43, 44, 45, 46, 47, 48, 49, 50, 51, 52] _ rfl rfl rfl (stg_mem0 (V := [(0, 37, _), (1, 38, _), (2, 39, _), (3, 40, _), (4, 41, _), (5, 42, _), (6, 43, _), (7, 44, _), (8, 45, _), (9, 46, _), (10, 47, _), (11, 48, _), (12, 49, _), (13, 50, _), (14, 51, _)]) [0, 1, 2, 3, 4, 5, 6, 7, 8, 9, 10, 11, 12, 13, 14] 15 [15, 14, 13, 12, 11, 10, 9, 8, 7, 6, 5, 1, 0] [16] (fun _ => [(16, 52, _)]) rfl rfl (prs_cons (pri rfl (p_move rfl)) (prs_cons (pri rfl (p_move rfl)) (prs_cons (pri rfl (p_move rfl)) (prs_cons (pri rfl (p_move rfl)) (prs_cons (pri rfl (p_bin rfl rfl (b_sub (by first | exact w_i64 (by omega) (by omega) | rfl)))) (prs_cons (pri rfl (p_move rfl)) (prs_cons (pri rfl (p_move rfl)) (prs_cons (pri rfl (p_bin rfl rfl (b_sub (by first | exact w_i64 (by omega) (by omega) | rfl)))) (prs_cons (pri rfl (p_idx_sl (j := (j - 1)) Try.underlying22 t3 rfl rfl (hs_own (k := 0) rfl) (by omega) (by first | omega | (simp; omega)))) (prs_cons (pri rfl (p_load1 t3 rfl rfl (g_el' (hs_own (k := 0) rfl) (by intro _; rfl) (getD_get 0 (by first | omega | (simp; omega))) (by rfl)))) (prs_cons (pri rfl (p_move rfl)) (prs_cons (pri rfl (p_move rfl)) (prs_cons (pri rfl (p_idx_sl (j := j) Try.underlying22 t3 rfl rfl (hs_own (k := 0) rfl) (by omega) (by first | omega | (simp; omega)))) (prs_cons (pri rfl (p_load1 t3 rfl rfl (g_el' (hs_own (k := 0) rfl) (by intro _; rfl) (getD_get 0 (by first | omega | (simp; omega))) (by rfl)))) (prs_cons (pri rfl (p_idx_sl (j := j) Try.underlying22 t3 rfl rfl (hs_own (k := 0) rfl) (by omega) (by first | omega | (simp; omega)))) prs_nil))))))))))))))) rfl rfl rfl rfl rfl rfl rfl rfl rfl (fun _ _ => rfl) rfl (ms_store_el (k := 0) t3 rfl rfl rfl (by intro _; rfl) (getD_get 0 (by first | omega | (simp; omega))) rfl rfl) (fun _ _ => stg_mem0 [16, 2, 3, 4] 17 [17, 16, 15, 14, 13, 12, 11, 10, 9, 8, 7, 6, 5, 4, 3, 2, 1, 0] [] (fun _ => []) rfl rfl (prs_cons (pri rfl (p_idx_sl (j := (j - 1)) Try.underlying22 t3 rfl rfl (hs_own (k := 0) rfl) (by omega) (by first | omega | (simp; omega)))) (prs_cons (pri rfl (p_move rfl)) (prs_cons (pri rfl (p_move rfl)) (prs_cons (pri rfl (p_bin rfl rfl (b_sub (by first | exact w_i64 (by omega) (by omega) | rfl)))) prs_nil)))) rfl rfl rfl rfl rfl rfl rfl rfl rfl (fun _ _ => rfl) rfl (ms_store_el (k := 0) t3 rfl rfl rfl (by intro _; rfl) (getD_get 0 (by first | omega | (simp; omega))) rfl rfl) (fun _ _ => stg_end [] rfl rfl prs_nil rfl rfl rfl ?_)))
        refine r_region ?_
        refine r_p (p_move rfl) rfl ?_
        refine r_p (p_bin rfl rfl (b_sub (by first | exact w_i64 (by omega) (by omega) | rfl))) rfl ?_
        refine r_p (p_assign rfl) rfl ?_
        refine r_nil ?_
        refine r_here (j - 1, sw 0 zs j (j - 1)) ⟨⟨by dsimp only; omega, by dsimp only; omega, by simp only [sw_len, hz], hv2.sw (by omega) (by omega), ?_⟩, by dsimp only; omega⟩ (by rw [show ((j - 1 : Nat) : Int) = j - 1 by omega]; rfl) rfl rfl
        dsimp only
        rw [← hin, insIn_go 0 (lessU u) (by omega) hless]
      · (try simp only [decide_eq_true_eq, decide_eq_false_iff_not, Bool.and_eq_true, Bool.or_eq_true, Bool.and_eq_false_iff, Bool.or_eq_false_iff, Bool.not_eq_true, Bool.not_eq_false, Bool.not_eq_true', Bool.not_eq_false', Bool.not_not, bne_iff_ne, beq_iff_eq] at h3)
        have hstop : ¬ (a < j ∧ lessU u (zs.getD j 0) (zs.getD (j - 1) 0) = true) := by unfold lessU; simp only [decide_eq_true_eq]; omega
        refine r_exit ?_
        refine r_region ?_
        refine r_p (p_move rfl) rfl ?_
        refine r_p (p_bin rfl rfl (b_add (by first | exact w_i64 (by omega) (by omega) | rfl))) rfl ?_
        refine r_p (p_assign rfl) rfl ?_
        refine r_nil ?_
        refine r_here (i + 1, zs) ⟨⟨by dsimp only; omega, by dsimp only; omega, hz, hv2, ?_⟩, by dsimp only; omega⟩ rfl rfl rfl
        dsimp only
        rw [← hr, show b - i = (b - (i + 1)) + 1 by omega, insOut, ← hin, insIn_stop 0 _ hstop]
    · refine r_draw [18, 19, 20, 21, 22, 23, 24, 25, 26, 27, 28, 29, 30, 31, 32, 33, 34] _ rfl (stg_end (V := [(0, 18, _), (1, 19, _), (2, 20, _), (3, 21, _), (4, 22, _), (5, 23, _), (6, 24, _), (7, 25, _), (8, 26, _), (9, 27, _), (10, 28, _), (11, 29, _), (12, 30, _), (13, 31, _), (14, 32, _), (15, 33, _), (16, 34, _)]) [0, 1, 2, 3, 4, 5, 6, 7, 8, 9, 10, 11, 12, 13, 14, 15, 16] rfl rfl (prs_cons (pri rfl (p_move rfl)) (prs_cons (pri rfl (p_move rfl)) (prs_cons (pri rfl (p_bin rfl rfl b_gt)) (prs_cons (pri rfl (p_move rfl)) (prs_cons (prig_n rfl rfl rfl (decide_eq_false (by omega))) (prs_cons (prig_n rfl rfl rfl (decide_eq_false (by omega))) (prs_cons (prig_n rfl rfl rfl (decide_eq_false (by omega))) (prs_cons (prig_n rfl rfl rfl (decide_eq_false (by omega))) (prs_cons (prig_n rfl rfl rfl (decide_eq_false (by omega))) (prs_cons (prig_n rfl rfl rfl (decide_eq_false (by omega))) (prs_cons (prig_n rfl rfl rfl (decide_eq_false (by omega))) (prs_cons (prig_n rfl rfl rfl (decide_eq_false (by omega))) (prs_cons (prig_n rfl rfl rfl (decide_eq_false (by omega))) (prs_cons (prig_n rfl rfl rfl (decide_eq_false (by omega))) (prs_cons (prig_n rfl rfl rfl (decide_eq_false (by omega))) (prs_cons (prig_n rfl rfl rfl (decide_eq_false (by omega))) (prs_cons (pri rfl (p_pick rfl rfl rfl (pick_f (decide_eq_false (by omega))))) prs_nil))))))))))))))))) rfl rfl rfl ?_)
      refine r_cond rfl (fun h4 => ?_) (fun h4 => ?_)
      · exact absurd h4 (by simp)
      · (try simp only [decide_eq_true_eq, decide_eq_false_iff_not, Bool.and_eq_true, Bool.or_eq_true, Bool.and_eq_false_iff, Bool.or_eq_false_iff, Bool.not_eq_true, Bool.not_eq_false, Bool.not_eq_true', Bool.not_eq_false', Bool.not_not, bne_iff_ne, beq_iff_eq] at h4)
        have hstop : ¬ (a < j ∧ lessU u (zs.getD j 0) (zs.getD (j - 1) 0) = true) := by omega
        refine r_exit ?_
        refine r_region ?_
        refine r_p (p_move rfl) rfl ?_
        refine r_p (p_bin rfl rfl (b_add (by first | exact w_i64 (by omega) (by omega) | rfl))) rfl ?_
        refine r_p (p_assign rfl) rfl ?_
        refine r_nil ?_
        refine r_here (i + 1, zs) ⟨⟨by dsimp only; omega, by dsimp only; omega, hz, hv2, ?_⟩, by dsimp only; omega⟩ rfl rfl rfl
        dsimp only
        rw [← hr, show b - i = (b - (i + 1)) + 1 by omega, insOut, ← hin, insIn_stop 0 _ hstop]
  · (try simp only [decide_eq_true_eq, decide_eq_false_iff_not, Bool.and_eq_true, Bool.or_eq_true, Bool.and_eq_false_iff, Bool.or_eq_false_iff, Bool.not_eq_true, Bool.not_eq_false, Bool.not_eq_true', Bool.not_eq_false', Bool.not_not, bne_iff_ne, beq_iff_eq] at h1)
    have hb0 : b - i = 0 := by omega
    rw [hb0, insOut] at hr
    refine r_exit ?_
    refine r_end () trivial rfl rs0 rfl [0, 1] [] rfl ?_ rfl
    rw [← hr]
    rfl

end Go.Proofs.Ytfdbkclbcajkiaa
