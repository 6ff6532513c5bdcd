/-
  The merge by rotations. Conditions as for comparing.
-/
import Derived.Test.YtfdbkclbcajkiaaS4
namespace Go.Proofs.Ytfdbkclbcajkiaa
set_option linter.unusedSimpArgs false
set_option linter.unusedVariables false
open Go.RowKit

theorem inv_rot {xs : List Int} (h : InV xs) (f m i j : Nat) : InV (rot 0 f xs m i j) := rot_all 0 (by decide) f xs m i j h
theorem inv_sw' {xs : List Int} (h : InV xs) (i j : Nat) : InV (sw 0 xs i j) := sw_all 0 (by decide) h i j
theorem half_nat (i j : Nat) : ((i : Int) + j) / 2 ^ (1 : Int).toNat = (((i + j) / 2 : Nat) : Int) := by simp
set_option maxRecDepth 100000 in
set_option maxHeartbeats 4000000 in
theorem symm_spec (u : Nat → Int) (hu : ∀ i, 0 ≤ u i ∧ u i ≤ 1000000) : ∀ (f : Nat) (v : SV) (xs : List Int) (a m b B : Nat) (hv : InV xs) (ha : a < m) (hb : m < b) (hbl : b ≤ xs.length) (hl : xs.length ≤ 1000) (hf : b - a ≤ f),
    Spec Try.prog 47 [sv v, .int .i64 (a : Int), .int .i64 (m : Int), .int .i64 (b : Int), .func (.func 33) #[] #[.pointer (some ⟨B, 0, none⟩)]] [own 3 1 eI (sv v) xs, arr B 30 28 (vi u)] [] (X := Unit) (fun _ => True) (fun _ => .tuple #[]) (fun _ => [own 3 1 eI (sv v) (symM 0 (lessU u) f xs a m b), arr B 30 28 (vi u)]) (fun _ => []) := by
  intro f
  induction f with
  | zero => intro v xs a m b B hv ha hb hbl hl hf; omega
  | succ f ih =>
  intro v xs a m b B hv ha hb hbl hl hf
  have ihi : ∀ (ys : List Int) (a' m' b' : Int), InV ys → 0 ≤ a' → a' < m' → m' < b' → b' ≤ ys.length → ys.length ≤ 1000 → b' - a' ≤ f → Spec Try.prog 47 [sv v, .int .i64 a', .int .i64 m', .int .i64 b', .func (.func 33) #[] #[.pointer (some ⟨B, 0, none⟩)]] [own 3 1 eI (sv v) ys, arr B 30 28 (vi u)] [] (X := Unit) (fun _ => True) (fun _ => .tuple #[]) (fun _ => [own 3 1 eI (sv v) (symM 0 (lessU u) f ys a'.toNat m'.toNat b'.toNat), arr B 30 28 (vi u)]) (fun _ => []) := by
    intro ys a' m' b' h1 h2 h3 h4 h5 h6 h7
    obtain ⟨a', rfl⟩ := Int.eq_ofNat_of_zero_le h2
    obtain ⟨m', rfl⟩ := Int.eq_ofNat_of_zero_le (show 0 ≤ m' by omega)
    obtain ⟨b', rfl⟩ := Int.eq_ofNat_of_zero_le (show 0 ≤ b' by omega)
    simp only [Int.toNat_natCast]
    exact ih v ys a' m' b' B h1 (by omega) (by omega) (by omega) h6 (by omega)
  refine r_enter Try.func47 rfl Try.ntmps47 rfl fun w0 M H => ?_
  refine r_seq ?_
  refine r_seq ?_
  refine r_region ?_
  refine r_p (p_move rfl) rfl ?_
  refine r_p (p_move rfl) rfl ?_
  refine r_p (p_bin rfl rfl (b_sub (by first | exact w_i64 (by omega) (by omega) | rfl))) rfl ?_
  refine r_p (p_bin rfl rfl b_eq) rfl ?_
  refine r_nil ?_
  refine r_cond rfl (fun h1 => ?_) (fun h1 => ?_)
  · (try simp only [decide_eq_true_eq, decide_eq_false_iff_not, Bool.and_eq_true, Bool.or_eq_true, Bool.and_eq_false_iff, Bool.or_eq_false_iff, Bool.not_eq_true, Bool.not_eq_false, Bool.not_eq_true', Bool.not_eq_false', Bool.not_not, bne_iff_ne, beq_iff_eq] at h1)
    have hm1 : m - a = 1 := by omega
    refine r_seq ?_
    refine r_region ?_
    refine r_p (p_move rfl) rfl ?_
    refine r_p (p_assign rfl) rfl ?_
    refine r_nil ?_
    refine r_seq ?_
    refine r_region ?_
    refine r_p (p_move rfl) rfl ?_
    refine r_p (p_assign rfl) rfl ?_
    refine r_nil ?_
    refine r_seq ?_
    refine r_block ?_
    refine r_loop (X := Nat × Nat) (fun x => m ≤ x.1 ∧ x.1 ≤ x.2 ∧ x.2 ≤ b ∧ ∃ n, x.2 - x.1 ≤ n ∧ bsr (fun h => lessU u (xs.getD h 0) (xs.getD a 0)) n x.1 x.2 = bsr (fun h => lessU u (xs.getD h 0) (xs.getD a 0)) (b - m) m b) (fun x => [(0, sv v), (1, .int .i64 (a : Int)), (2, .int .i64 (m : Int)), (3, .int .i64 (b : Int)), (4, .func (.func 33) #[] #[.pointer (some ⟨B, 0, none⟩)]), (10, .int .i64 (x.1 : Int)), (11, .int .i64 (x.2 : Int))]) (fun x => [(0, own 3 1 eI (sv v) xs), (1, arr B 30 28 (vi u))]) (fun x => []) (fun x => x.2 - x.1) (m, b) ⟨Nat.le_refl _, by dsimp only; omega, Nat.le_refl _, b - m, Nat.le_refl _, rfl⟩ rfl rfl rfl (fun ⟨i, j⟩ hx => ?_)
    obtain ⟨hi, hij, hj, n, hn, hr⟩ := hx
    dsimp only at hi hij hj hn hr ⊢
    refine r_seq ?_
    refine r_seq ?_
    refine r_region ?_
    refine r_p (p_move rfl) rfl ?_
    refine r_p (p_move rfl) rfl ?_
    refine r_p (p_bin rfl rfl b_lt) rfl ?_
    refine r_nil ?_
    refine r_cond rfl (fun h2 => ?_) (fun h2 => ?_)
    · (try simp only [decide_eq_true_eq, decide_eq_false_iff_not, Bool.and_eq_true, Bool.or_eq_true, Bool.and_eq_false_iff, Bool.or_eq_false_iff, Bool.not_eq_true, Bool.not_eq_false, Bool.not_eq_true', Bool.not_eq_false', Bool.not_not, bne_iff_ne, beq_iff_eq] at h2)
      have hlt : i < j := by omega
      refine r_skip ?_
      refine r_block ?_
      refine r_seq ?_
      refine r_region ?_
      refine r_p (p_move rfl) rfl ?_
      refine r_p (p_move rfl) rfl ?_
      refine r_p (p_bin rfl rfl (b_add (by first | exact w_i64 (by omega) (by omega) | rfl))) rfl ?_
      refine r_p (p_conv Try.underlying3 Try.underlying80 rfl (by first | exact w_u64 (by omega) (by omega) | rfl)) rfl ?_
      refine r_p (p_bin rfl rfl (b_shr (by decide) (by decide) (half_nat i j))) rfl ?_
      refine r_p (p_conv Try.underlying80 Try.underlying3 rfl (by first | exact w_i64 (by omega) (by omega) | rfl)) rfl ?_
      refine r_p (p_assign rfl) rfl ?_
      refine r_nil ?_
      refine r_seq ?_
      refine r_draw [40, 41, 42, 43, 44, 45, 46, 47, 48, 49, 50] _ rfl (stg_mem (V := [(0, 40, _), (1, 41, _), (2, 42, _), (3, 43, _), (4, 44, _), (5, 45, _), (6, 46, _), (7, 47, _), (8, 48, _)]) [0, 1, 2, 3, 4, 5, 6, 7, 8] 9 [9, 8, 7, 6, 5, 4, 3, 2, 1, 0] [10] (fun x49 => [(10, 50, _)]) rfl rfl (prs_cons (pri rfl (p_move rfl)) (prs_cons (pri rfl (p_move rfl)) (prs_cons (pri rfl (p_move rfl)) (prs_cons (pri rfl (p_idx_sl (j := ((i + j) / 2)) Try.underlying22 t3 rfl rfl (hs_own (k := 0) rfl) (by omega) (by first | omega | (simp; omega)))) (prs_cons (pri rfl (p_load1 t3 rfl rfl (g_el' (hs_own (k := 0) rfl) (by intro _; rfl) (getD_get 0 (by first | omega | (simp; omega))) (by rfl)))) (prs_cons (pri rfl (p_move rfl)) (prs_cons (pri rfl (p_move rfl)) (prs_cons (pri rfl (p_idx_sl (j := a) Try.underlying22 t3 rfl rfl (hs_own (k := 0) rfl) (by omega) (by first | omega | (simp; omega)))) (prs_cons (pri rfl (p_load1 t3 rfl rfl (g_el' (hs_own (k := 0) rfl) (by intro _; rfl) (getD_get 0 (by first | omega | (simp; omega))) (by rfl)))) prs_nil))))))))) rfl rfl rfl rfl rfl rfl rfl rfl rfl rfl rfl (fun _ _ => rfl) rfl (ms_call (xs := [.tmp 44, .tmp 48]) (cmp_spec _ _ (InV.get hv (by omega)) (InV.get hv (by omega)) B u hu) cb33 [1] [] [1] [] rfl rfl rfl rfl rfl rfl rfl rfl (fun _ _ => rfl) (fun _ _ _ => rfl)) (fun x49 hx49 => stg_end [10] rfl rfl (prs_cons (pri rfl (p_bin rfl rfl b_lt)) prs_nil) rfl rfl rfl ?_))
      refine r_cond rfl (fun h3 => ?_) (fun h3 => ?_)
      · (try simp only [decide_eq_true_eq, decide_eq_false_iff_not, Bool.and_eq_true, Bool.or_eq_true, Bool.and_eq_false_iff, Bool.or_eq_false_iff, Bool.not_eq_true, Bool.not_eq_false, Bool.not_eq_true', Bool.not_eq_false', Bool.not_not, bne_iff_ne, beq_iff_eq] at h3)
        have hf1 : (fun h => lessU u (xs.getD h 0) (xs.getD a 0)) ((i + j) / 2) = true := by dsimp only; unfold lessU; simp only [Bool.not_eq_true', decide_eq_true_eq, decide_eq_false_iff_not]; omega
        refine r_region ?_
        refine r_p (p_move rfl) rfl ?_
        refine r_p (p_bin rfl rfl (b_add (by first | exact w_i64 (by omega) (by omega) | rfl))) rfl ?_
        refine r_p (p_assign rfl) rfl ?_
        refine r_nil ?_
        refine r_here ((i + j) / 2 + 1, j) ⟨⟨by dsimp only; omega, by dsimp only; omega, by dsimp only; omega, n - 1, by dsimp only; omega, ?_⟩, by dsimp only; omega⟩ rfl rfl rfl
        dsimp only
        rw [← hr, bsr_T hlt hn hf1]
      · (try simp only [decide_eq_true_eq, decide_eq_false_iff_not, Bool.and_eq_true, Bool.or_eq_true, Bool.and_eq_false_iff, Bool.or_eq_false_iff, Bool.not_eq_true, Bool.not_eq_false, Bool.not_eq_true', Bool.not_eq_false', Bool.not_not, bne_iff_ne, beq_iff_eq] at h3)
        have hf1 : (fun h => lessU u (xs.getD h 0) (xs.getD a 0)) ((i + j) / 2) = false := by dsimp only; unfold lessU; simp only [Bool.not_eq_false', decide_eq_true_eq, decide_eq_false_iff_not]; omega
        refine r_region ?_
        refine r_p (p_move rfl) rfl ?_
        refine r_p (p_assign rfl) rfl ?_
        refine r_nil ?_
        refine r_here (i, (i + j) / 2) ⟨⟨by dsimp only; omega, by dsimp only; omega, by dsimp only; omega, n - 1, by dsimp only; omega, ?_⟩, by dsimp only; omega⟩ rfl rfl rfl
        dsimp only
        rw [← hr, bsr_F hlt hn hf1]
    · (try simp only [decide_eq_true_eq, decide_eq_false_iff_not, Bool.and_eq_true, Bool.or_eq_true, Bool.and_eq_false_iff, Bool.or_eq_false_iff, Bool.not_eq_true, Bool.not_eq_false, Bool.not_eq_true', Bool.not_eq_false', Bool.not_not, bne_iff_ne, beq_iff_eq] at h2)
      rw [bsr_done (by omega)] at hr
      have hri := bsr_range (f := fun h => lessU u (xs.getD h 0) (xs.getD a 0)) (b - m) m b (by omega)
      refine r_exit ?_
      refine r_seq ?_
      refine r_seq ?_
      refine r_region ?_
      refine r_p (p_move rfl) rfl ?_
      refine r_p (p_assign rfl) rfl ?_
      refine r_nil ?_
      refine r_block ?_
      refine r_loop (X := Nat × List Int) (fun x => a ≤ x.1 ∧ x.1 ≤ i - 1 ∧ x.2.length = xs.length ∧ up 0 x.2 x.1 (i - 1 - x.1) = up 0 xs a (i - 1 - a)) (fun x => [(0, sv v), (1, .int .i64 (a : Int)), (2, .int .i64 (m : Int)), (3, .int .i64 (b : Int)), (4, .func (.func 33) #[] #[.pointer (some ⟨B, 0, none⟩)]), (10, .int .i64 (i : Int)), (13, .int .i64 (x.1 : Int))]) (fun x => [(0, own 3 1 eI (sv v) x.2), (1, arr B 30 28 (vi u))]) (fun x => []) (fun x => i - 1 - x.1) (a, xs) ⟨Nat.le_refl _, by dsimp only; omega, rfl, rfl⟩ rfl rfl rfl (fun ⟨k, ys⟩ hx2 => ?_)
      obtain ⟨hk, hki, hy, hks⟩ := hx2
      dsimp only at hk hki hy hks ⊢
      refine r_seq ?_
      refine r_seq ?_
      refine r_region ?_
      refine r_p (p_move rfl) rfl ?_
      refine r_p (p_move rfl) rfl ?_
      refine r_p (p_bin rfl rfl (b_sub (by first | exact w_i64 (by omega) (by omega) | rfl))) rfl ?_
      refine r_p (p_bin rfl rfl b_lt) rfl ?_
      refine r_nil ?_
      refine r_cond rfl (fun h4 => ?_) (fun h4 => ?_)
      · (try simp only [decide_eq_true_eq, decide_eq_false_iff_not, Bool.and_eq_true, Bool.or_eq_true, Bool.and_eq_false_iff, Bool.or_eq_false_iff, Bool.not_eq_true, Bool.not_eq_false, Bool.not_eq_true', Bool.not_eq_false', Bool.not_not, bne_iff_ne, beq_iff_eq] at h4)
        have hk1 : k < i - 1 := by omega
        refine r_skip ?_
        refine r_seq ?_
        refine r_block ?_
        refine r_drawM [0, 1, 2, 3, 4, 5, 6, 7, 8, 9, 10, 11, 12, 13, 14, 15, 16, 17] [0, 1, 13, 14, 15, 2, 3, 4, 5, 6, 7, 8, 9, 10, 11, 12, 16, 17] [61, 62, 63, 64, 65, 66, 67, 68, 69, 70, 71, 72, 73, 74, 75, 76] _ rfl rfl rfl (stg_mem0 (V := [(0, 61, _), (1, 62, _), (2, 63, _), (3, 64, _), (4, 65, _), (5, 66, _), (6, 67, _), (7, 68, _), (8, 69, _), (9, 70, _), (10, 71, _), (11, 72, _), (12, 73, _), (13, 74, _), (14, 75, _)]) [0, 1, 2, 3, 4, 5, 6, 7, 8, 9, 10, 11, 12, 13, 14] 15 [15, 14, 13, 12, 11, 10, 9, 8, 7, 6, 5, 1, 0] [16] (fun _ => [(16, 76, _)]) rfl rfl (prs_cons (pri rfl (p_move rfl)) (prs_cons (pri rfl (p_move rfl)) (prs_cons (pri rfl (p_move rfl)) (prs_cons (pri rfl (p_move rfl)) (prs_cons (pri rfl (p_bin rfl rfl (b_add (by first | exact w_i64 (by omega) (by omega) | rfl)))) (prs_cons (pri rfl (p_move rfl)) (prs_cons (pri rfl (p_move rfl)) (prs_cons (pri rfl (p_bin rfl rfl (b_add (by first | exact w_i64 (by omega) (by omega) | rfl)))) (prs_cons (pri rfl (p_idx_sl (j := (k + 1)) Try.underlying22 t3 rfl rfl (hs_own (k := 0) rfl) (by omega) (by first | omega | (simp; omega)))) (prs_cons (pri rfl (p_load1 t3 rfl rfl (g_el' (hs_own (k := 0) rfl) (by intro _; rfl) (getD_get 0 (by first | omega | (simp; omega))) (by rfl)))) (prs_cons (pri rfl (p_move rfl)) (prs_cons (pri rfl (p_move rfl)) (prs_cons (pri rfl (p_idx_sl (j := k) Try.underlying22 t3 rfl rfl (hs_own (k := 0) rfl) (by omega) (by first | omega | (simp; omega)))) (prs_cons (pri rfl (p_load1 t3 rfl rfl (g_el' (hs_own (k := 0) rfl) (by intro _; rfl) (getD_get 0 (by first | omega | (simp; omega))) (by rfl)))) (prs_cons (pri rfl (p_idx_sl (j := k) Try.underlying22 t3 rfl rfl (hs_own (k := 0) rfl) (by omega) (by first | omega | (simp; omega)))) prs_nil))))))))))))))) rfl rfl rfl rfl rfl rfl rfl rfl rfl (fun _ _ => rfl) rfl (ms_store_el (k := 0) t3 rfl rfl rfl (by intro _; rfl) (getD_get 0 (by first | omega | (simp; omega))) rfl rfl) (fun _ _ => stg_mem0 [16, 2, 3, 4] 17 [17, 16, 15, 14, 13, 12, 11, 10, 9, 8, 7, 6, 5, 4, 3, 2, 1, 0] [] (fun _ => []) rfl rfl (prs_cons (pri rfl (p_idx_sl (j := (k + 1)) Try.underlying22 t3 rfl rfl (hs_own (k := 0) rfl) (by omega) (by first | omega | (simp; omega)))) (prs_cons (pri rfl (p_move rfl)) (prs_cons (pri rfl (p_move rfl)) (prs_cons (pri rfl (p_bin rfl rfl (b_add (by first | exact w_i64 (by omega) (by omega) | rfl)))) prs_nil)))) rfl rfl rfl rfl rfl rfl rfl rfl rfl (fun _ _ => rfl) rfl (ms_store_el (k := 0) t3 rfl rfl rfl (by intro _; rfl) (getD_get 0 (by first | omega | (simp; omega))) rfl rfl) (fun _ _ => stg_end [] rfl rfl prs_nil rfl rfl rfl ?_)))
        refine r_region ?_
        refine r_p (p_move rfl) rfl ?_
        refine r_p (p_bin rfl rfl (b_add (by first | exact w_i64 (by omega) (by omega) | rfl))) rfl ?_
        refine r_p (p_assign rfl) rfl ?_
        refine r_nil ?_
        refine r_here (k + 1, sw 0 ys k (k + 1)) ⟨⟨by dsimp only; omega, by dsimp only; omega, by simp only [sw_len, hy], ?_⟩, by dsimp only; omega⟩ rfl rfl rfl
        dsimp only
        rw [← hks, show i - 1 - k = (i - 1 - (k + 1)) + 1 by omega, up]
      · (try simp only [decide_eq_true_eq, decide_eq_false_iff_not, Bool.and_eq_true, Bool.or_eq_true, Bool.and_eq_false_iff, Bool.or_eq_false_iff, Bool.not_eq_true, Bool.not_eq_false, Bool.not_eq_true', Bool.not_eq_false', Bool.not_not, bne_iff_ne, beq_iff_eq] at h4)
        have hk1 : i - 1 - k = 0 := by omega
        rw [hk1, up] at hks
        refine r_exit ?_
        refine r_cret ?_
        refine r_ret () trivial rfl rs0 rfl [0, 1] [] rfl ?_ rfl
        rw [symM_1 0 (lessU u) hm1, ← hr, ← hks]
        rfl
  · (try simp only [decide_eq_true_eq, decide_eq_false_iff_not, Bool.and_eq_true, Bool.or_eq_true, Bool.and_eq_false_iff, Bool.or_eq_false_iff, Bool.not_eq_true, Bool.not_eq_false, Bool.not_eq_true', Bool.not_eq_false', Bool.not_not, bne_iff_ne, beq_iff_eq] at h1)
    have hm1 : ¬ m - a = 1 := by omega
    refine r_skip ?_
    refine r_seq ?_
    refine r_seq ?_
    refine r_region ?_
    refine r_p (p_move rfl) rfl ?_
    refine r_p (p_move rfl) rfl ?_
    refine r_p (p_bin rfl rfl (b_sub (by first | exact w_i64 (by omega) (by omega) | rfl))) rfl ?_
    refine r_p (p_bin rfl rfl b_eq) rfl ?_
    refine r_nil ?_
    refine r_cond rfl (fun h5 => ?_) (fun h5 => ?_)
    · (try simp only [decide_eq_true_eq, decide_eq_false_iff_not, Bool.and_eq_true, Bool.or_eq_true, Bool.and_eq_false_iff, Bool.or_eq_false_iff, Bool.not_eq_true, Bool.not_eq_false, Bool.not_eq_true', Bool.not_eq_false', Bool.not_not, bne_iff_ne, beq_iff_eq] at h5)
      have hm2 : b - m = 1 := by omega
      refine r_seq ?_
      refine r_region ?_
      refine r_p (p_move rfl) rfl ?_
      refine r_p (p_assign rfl) rfl ?_
      refine r_nil ?_
      refine r_seq ?_
      refine r_region ?_
      refine r_p (p_move rfl) rfl ?_
      refine r_p (p_assign rfl) rfl ?_
      refine r_nil ?_
      refine r_seq ?_
      refine r_block ?_
      refine r_loop (X := Nat × Nat) (fun x => a ≤ x.1 ∧ x.1 ≤ x.2 ∧ x.2 ≤ m ∧ ∃ n, x.2 - x.1 ≤ n ∧ bsr (fun h => !lessU u (xs.getD m 0) (xs.getD h 0)) n x.1 x.2 = bsr (fun h => !lessU u (xs.getD m 0) (xs.getD h 0)) (m - a) a m) (fun x => [(0, sv v), (1, .int .i64 (a : Int)), (2, .int .i64 (m : Int)), (3, .int .i64 (b : Int)), (4, .func (.func 33) #[] #[.pointer (some ⟨B, 0, none⟩)]), (14, .int .i64 (x.1 : Int)), (15, .int .i64 (x.2 : Int))]) (fun x => [(0, own 3 1 eI (sv v) xs), (1, arr B 30 28 (vi u))]) (fun x => []) (fun x => x.2 - x.1) (a, m) ⟨Nat.le_refl _, by dsimp only; omega, Nat.le_refl _, m - a, Nat.le_refl _, rfl⟩ rfl rfl rfl (fun ⟨i, j⟩ hx => ?_)
      obtain ⟨hi, hij, hj, n, hn, hr⟩ := hx
      dsimp only at hi hij hj hn hr ⊢
      refine r_seq ?_
      refine r_seq ?_
      refine r_region ?_
      refine r_p (p_move rfl) rfl ?_
      refine r_p (p_move rfl) rfl ?_
      refine r_p (p_bin rfl rfl b_lt) rfl ?_
      refine r_nil ?_
      refine r_cond rfl (fun h6 => ?_) (fun h6 => ?_)
      · (try simp only [decide_eq_true_eq, decide_eq_false_iff_not, Bool.and_eq_true, Bool.or_eq_true, Bool.and_eq_false_iff, Bool.or_eq_false_iff, Bool.not_eq_true, Bool.not_eq_false, Bool.not_eq_true', Bool.not_eq_false', Bool.not_not, bne_iff_ne, beq_iff_eq] at h6)
        have hlt : i < j := by omega
        refine r_skip ?_
        refine r_block ?_
        refine r_seq ?_
        refine r_region ?_
        refine r_p (p_move rfl) rfl ?_
        refine r_p (p_move rfl) rfl ?_
        refine r_p (p_bin rfl rfl (b_add (by first | exact w_i64 (by omega) (by omega) | rfl))) rfl ?_
        refine r_p (p_conv Try.underlying3 Try.underlying80 rfl (by first | exact w_u64 (by omega) (by omega) | rfl)) rfl ?_
        refine r_p (p_bin rfl rfl (b_shr (by decide) (by decide) (half_nat i j))) rfl ?_
        refine r_p (p_conv Try.underlying80 Try.underlying3 rfl (by first | exact w_i64 (by omega) (by omega) | rfl)) rfl ?_
        refine r_p (p_assign rfl) rfl ?_
        refine r_nil ?_
        refine r_seq ?_
        refine r_draw [92, 93, 94, 95, 96, 97, 98, 99, 100, 101, 102, 103] _ rfl (stg_mem (V := [(0, 92, _), (1, 93, _), (2, 94, _), (3, 95, _), (4, 96, _), (5, 97, _), (6, 98, _), (7, 99, _), (8, 100, _)]) [0, 1, 2, 3, 4, 5, 6, 7, 8] 9 [9, 8, 7, 6, 5, 4, 3, 2, 1, 0] [10, 11] (fun x101 => [(10, 102, _), (11, 103, _)]) rfl rfl (prs_cons (pri rfl (p_move rfl)) (prs_cons (pri rfl (p_move rfl)) (prs_cons (pri rfl (p_move rfl)) (prs_cons (pri rfl (p_idx_sl (j := m) Try.underlying22 t3 rfl rfl (hs_own (k := 0) rfl) (by omega) (by first | omega | (simp; omega)))) (prs_cons (pri rfl (p_load1 t3 rfl rfl (g_el' (hs_own (k := 0) rfl) (by intro _; rfl) (getD_get 0 (by first | omega | (simp; omega))) (by rfl)))) (prs_cons (pri rfl (p_move rfl)) (prs_cons (pri rfl (p_move rfl)) (prs_cons (pri rfl (p_idx_sl (j := ((i + j) / 2)) Try.underlying22 t3 rfl rfl (hs_own (k := 0) rfl) (by omega) (by first | omega | (simp; omega)))) (prs_cons (pri rfl (p_load1 t3 rfl rfl (g_el' (hs_own (k := 0) rfl) (by intro _; rfl) (getD_get 0 (by first | omega | (simp; omega))) (by rfl)))) prs_nil))))))))) rfl rfl rfl rfl rfl rfl rfl rfl rfl rfl rfl (fun _ _ => rfl) rfl (ms_call (xs := [.tmp 96, .tmp 100]) (cmp_spec _ _ (InV.get hv (by omega)) (InV.get hv (by omega)) B u hu) cb33 [1] [] [1] [] rfl rfl rfl rfl rfl rfl rfl rfl (fun _ _ => rfl) (fun _ _ _ => rfl)) (fun x101 hx101 => stg_end [10, 11] rfl rfl (prs_cons (pri rfl (p_bin rfl rfl b_lt)) (prs_cons (pri rfl (p_not rfl)) prs_nil)) rfl rfl rfl ?_))
        refine r_cond rfl (fun h7 => ?_) (fun h7 => ?_)
        · (try simp only [decide_eq_true_eq, decide_eq_false_iff_not, Bool.and_eq_true, Bool.or_eq_true, Bool.and_eq_false_iff, Bool.or_eq_false_iff, Bool.not_eq_true, Bool.not_eq_false, Bool.not_eq_true', Bool.not_eq_false', Bool.not_not, bne_iff_ne, beq_iff_eq] at h7)
          have hf1 : (fun h => !lessU u (xs.getD m 0) (xs.getD h 0)) ((i + j) / 2) = true := by dsimp only; unfold lessU; simp only [Bool.not_eq_true', decide_eq_true_eq, decide_eq_false_iff_not]; omega
          refine r_region ?_
          refine r_p (p_move rfl) rfl ?_
          refine r_p (p_bin rfl rfl (b_add (by first | exact w_i64 (by omega) (by omega) | rfl))) rfl ?_
          refine r_p (p_assign rfl) rfl ?_
          refine r_nil ?_
          refine r_here ((i + j) / 2 + 1, j) ⟨⟨by dsimp only; omega, by dsimp only; omega, by dsimp only; omega, n - 1, by dsimp only; omega, ?_⟩, by dsimp only; omega⟩ rfl rfl rfl
          dsimp only
          rw [← hr, bsr_T hlt hn hf1]
        · (try simp only [decide_eq_true_eq, decide_eq_false_iff_not, Bool.and_eq_true, Bool.or_eq_true, Bool.and_eq_false_iff, Bool.or_eq_false_iff, Bool.not_eq_true, Bool.not_eq_false, Bool.not_eq_true', Bool.not_eq_false', Bool.not_not, bne_iff_ne, beq_iff_eq] at h7)
          have hf1 : (fun h => !lessU u (xs.getD m 0) (xs.getD h 0)) ((i + j) / 2) = false := by dsimp only; unfold lessU; simp only [Bool.not_eq_false', decide_eq_true_eq, decide_eq_false_iff_not]; omega
          refine r_region ?_
          refine r_p (p_move rfl) rfl ?_
          refine r_p (p_assign rfl) rfl ?_
          refine r_nil ?_
          refine r_here (i, (i + j) / 2) ⟨⟨by dsimp only; omega, by dsimp only; omega, by dsimp only; omega, n - 1, by dsimp only; omega, ?_⟩, by dsimp only; omega⟩ rfl rfl rfl
          dsimp only
          rw [← hr, bsr_F hlt hn hf1]
      · (try simp only [decide_eq_true_eq, decide_eq_false_iff_not, Bool.and_eq_true, Bool.or_eq_true, Bool.and_eq_false_iff, Bool.or_eq_false_iff, Bool.not_eq_true, Bool.not_eq_false, Bool.not_eq_true', Bool.not_eq_false', Bool.not_not, bne_iff_ne, beq_iff_eq] at h6)
        rw [bsr_done (by omega)] at hr
        have hri := bsr_range (f := fun h => !lessU u (xs.getD m 0) (xs.getD h 0)) (m - a) a m (by omega)
        refine r_exit ?_
        refine r_seq ?_
        refine r_seq ?_
        refine r_region ?_
        refine r_p (p_move rfl) rfl ?_
        refine r_p (p_assign rfl) rfl ?_
        refine r_nil ?_
        refine r_block ?_
        refine r_loop (X := Nat × List Int) (fun x => i ≤ x.1 ∧ x.1 ≤ m ∧ x.2.length = xs.length ∧ down 0 x.2 x.1 (x.1 - i) = down 0 xs m (m - i)) (fun x => [(0, sv v), (1, .int .i64 (a : Int)), (2, .int .i64 (m : Int)), (3, .int .i64 (b : Int)), (4, .func (.func 33) #[] #[.pointer (some ⟨B, 0, none⟩)]), (14, .int .i64 (i : Int)), (17, .int .i64 (x.1 : Int))]) (fun x => [(0, own 3 1 eI (sv v) x.2), (1, arr B 30 28 (vi u))]) (fun x => []) (fun x => x.1 - i) (m, xs) ⟨by dsimp only; omega, Nat.le_refl _, rfl, rfl⟩ rfl rfl rfl (fun ⟨k, ys⟩ hx2 => ?_)
        obtain ⟨hk, hki, hy, hks⟩ := hx2
        dsimp only at hk hki hy hks ⊢
        refine r_seq ?_
        refine r_seq ?_
        refine r_region ?_
        refine r_p (p_move rfl) rfl ?_
        refine r_p (p_move rfl) rfl ?_
        refine r_p (p_bin rfl rfl b_gt) rfl ?_
        refine r_nil ?_
        refine r_cond rfl (fun h8 => ?_) (fun h8 => ?_)
        · (try simp only [decide_eq_true_eq, decide_eq_false_iff_not, Bool.and_eq_true, Bool.or_eq_true, Bool.and_eq_false_iff, Bool.or_eq_false_iff, Bool.not_eq_true, Bool.not_eq_false, Bool.not_eq_true', Bool.not_eq_false', Bool.not_not, bne_iff_ne, beq_iff_eq] at h8)
          have hk1 : i < k := by omega
          refine r_skip ?_
          refine r_seq ?_
          refine r_block ?_
          refine r_drawM [0, 1, 2, 3, 4, 5, 6, 7, 8, 9, 10, 11, 12, 13, 14, 15, 16, 17] [0, 1, 13, 14, 15, 2, 3, 4, 5, 6, 7, 8, 9, 10, 11, 12, 16, 17] [113, 114, 115, 116, 117, 118, 119, 120, 121, 122, 123, 124, 125, 126, 127, 128] _ rfl rfl rfl (stg_mem0 (V := [(0, 113, _), (1, 114, _), (2, 115, _), (3, 116, _), (4, 117, _), (5, 118, _), (6, 119, _), (7, 120, _), (8, 121, _), (9, 122, _), (10, 123, _), (11, 124, _), (12, 125, _), (13, 126, _), (14, 127, _)]) [0, 1, 2, 3, 4, 5, 6, 7, 8, 9, 10, 11, 12, 13, 14] 15 [15, 14, 13, 12, 11, 10, 9, 8, 7, 6, 5, 1, 0] [16] (fun _ => [(16, 128, _)]) rfl rfl (prs_cons (pri rfl (p_move rfl)) (prs_cons (pri rfl (p_move rfl)) (prs_cons (pri rfl (p_move rfl)) (prs_cons (pri rfl (p_move rfl)) (prs_cons (pri rfl (p_bin rfl rfl (b_sub (by first | exact w_i64 (by omega) (by omega) | rfl)))) (prs_cons (pri rfl (p_move rfl)) (prs_cons (pri rfl (p_move rfl)) (prs_cons (pri rfl (p_bin rfl rfl (b_sub (by first | exact w_i64 (by omega) (by omega) | rfl)))) (prs_cons (pri rfl (p_idx_sl (j := (k - 1)) Try.underlying22 t3 rfl rfl (hs_own (k := 0) rfl) (by omega) (by first | omega | (simp; omega)))) (prs_cons (pri rfl (p_load1 t3 rfl rfl (g_el' (hs_own (k := 0) rfl) (by intro _; rfl) (getD_get 0 (by first | omega | (simp; omega))) (by rfl)))) (prs_cons (pri rfl (p_move rfl)) (prs_cons (pri rfl (p_move rfl)) (prs_cons (pri rfl (p_idx_sl (j := k) Try.underlying22 t3 rfl rfl (hs_own (k := 0) rfl) (by omega) (by first | omega | (simp; omega)))) (prs_cons (pri rfl (p_load1 t3 rfl rfl (g_el' (hs_own (k := 0) rfl) (by intro _; rfl) (getD_get 0 (by first | omega | (simp; omega))) (by rfl)))) (prs_cons (pri rfl (p_idx_sl (j := k) Try.underlying22 t3 rfl rfl (hs_own (k := 0) rfl) (by omega) (by first | omega | (simp; omega)))) prs_nil))))))))))))))) rfl rfl rfl rfl rfl rfl rfl rfl rfl (fun _ _ => rfl) rfl (ms_store_el (k := 0) t3 rfl rfl rfl (by intro _; rfl) (getD_get 0 (by first | omega | (simp; omega))) rfl rfl) (fun _ _ => stg_mem0 [16, 2, 3, 4] 17 [17, 16, 15, 14, 13, 12, 11, 10, 9, 8, 7, 6, 5, 4, 3, 2, 1, 0] [] (fun _ => []) rfl rfl (prs_cons (pri rfl (p_idx_sl (j := (k - 1)) Try.underlying22 t3 rfl rfl (hs_own (k := 0) rfl) (by omega) (by first | omega | (simp; omega)))) (prs_cons (pri rfl (p_move rfl)) (prs_cons (pri rfl (p_move rfl)) (prs_cons (pri rfl (p_bin rfl rfl (b_sub (by first | exact w_i64 (by omega) (by omega) | rfl)))) prs_nil)))) rfl rfl rfl rfl rfl rfl rfl rfl rfl (fun _ _ => rfl) rfl (ms_store_el (k := 0) t3 rfl rfl rfl (by intro _; rfl) (getD_get 0 (by first | omega | (simp; omega))) rfl rfl) (fun _ _ => stg_end [] rfl rfl prs_nil rfl rfl rfl ?_)))
          refine r_region ?_
          refine r_p (p_move rfl) rfl ?_
          refine r_p (p_bin rfl rfl (b_sub (by first | exact w_i64 (by omega) (by omega) | rfl))) rfl ?_
          refine r_p (p_assign rfl) rfl ?_
          refine r_nil ?_
          refine r_here (k - 1, sw 0 ys k (k - 1)) ⟨⟨by dsimp only; omega, by dsimp only; omega, by simp only [sw_len, hy], ?_⟩, by dsimp only; omega⟩ (by rw [show ((k - 1 : Nat) : Int) = k - 1 by omega]; rfl) rfl rfl
          dsimp only
          rw [← hks, show k - i = (k - 1 - i) + 1 by omega, down]
        · (try simp only [decide_eq_true_eq, decide_eq_false_iff_not, Bool.and_eq_true, Bool.or_eq_true, Bool.and_eq_false_iff, Bool.or_eq_false_iff, Bool.not_eq_true, Bool.not_eq_false, Bool.not_eq_true', Bool.not_eq_false', Bool.not_not, bne_iff_ne, beq_iff_eq] at h8)
          have hk1 : k - i = 0 := by omega
          rw [hk1, down] at hks
          refine r_exit ?_
          refine r_cret ?_
          refine r_ret () trivial rfl rs0 rfl [0, 1] [] rfl ?_ rfl
          rw [symM_2 0 (lessU u) hm1 hm2, ← hr, ← hks]
          rfl
    · (try simp only [decide_eq_true_eq, decide_eq_false_iff_not, Bool.and_eq_true, Bool.or_eq_true, Bool.and_eq_false_iff, Bool.or_eq_false_iff, Bool.not_eq_true, Bool.not_eq_false, Bool.not_eq_true', Bool.not_eq_false', Bool.not_not, bne_iff_ne, beq_iff_eq] at h5)
      have hm2 : ¬ b - m = 1 := by omega
      obtain ⟨mid, hmid⟩ : ∃ mid, mid = (a + b) / 2 := ⟨_, rfl⟩
      obtain ⟨s0, hs0⟩ : ∃ s0, s0 = if mid < m then mid + m - b else a := ⟨_, rfl⟩
      obtain ⟨r0, hr0⟩ : ∃ r0, r0 = if mid < m then mid else m := ⟨_, rfl⟩
      have hsr : a ≤ s0 ∧ s0 ≤ r0 ∧ r0 ≤ m ∧ r0 ≤ mid ∧ mid + m ≤ b + s0 ∧ a < mid ∧ mid < b := by subst hs0 hr0 hmid; split <;> omega
      obtain ⟨hsr1, hsr2, hsr3, hsr4, hsr5, hsr6, hsr7⟩ := hsr
      refine r_skip ?_
      refine r_seq ?_
      refine r_region ?_
      refine r_p (p_move rfl) rfl ?_
      refine r_p (p_move rfl) rfl ?_
      refine r_p (p_bin rfl rfl (b_add (by first | exact w_i64 (by omega) (by omega) | rfl))) rfl ?_
      refine r_p (p_conv Try.underlying3 Try.underlying80 rfl (by first | exact w_u64 (by omega) (by omega) | rfl)) rfl ?_
      refine r_p (p_bin rfl rfl (b_shr (by decide) (by decide) (show ((a : Int) + b) / 2 ^ (1 : Int).toNat = (mid : Int) by rw [half_nat, hmid]))) rfl ?_
      refine r_p (p_conv Try.underlying80 Try.underlying3 rfl (by first | exact w_i64 (by omega) (by omega) | rfl)) rfl ?_
      refine r_p (p_assign rfl) rfl ?_
      refine r_nil ?_
      refine r_seq ?_
      refine r_region ?_
      refine r_p (p_move rfl) rfl ?_
      refine r_p (p_move rfl) rfl ?_
      refine r_p (p_bin rfl rfl (b_add (by first | exact w_i64 (by omega) (by omega) | rfl))) rfl ?_
      refine r_p (p_assign rfl) rfl ?_
      refine r_nil ?_
      refine r_seq ?_
      refine r_region ?_
      refine r_p (p_assign rfl) rfl ?_
      refine r_p (p_assign rfl) rfl ?_
      refine r_nil ?_
      refine r_seq_cut (X := Unit) (fun _ => True) (fun _ => [(0, sv v), (1, .int .i64 (a : Int)), (2, .int .i64 (m : Int)), (3, .int .i64 (b : Int)), (4, .func (.func 33) #[] #[.pointer (some ⟨B, 0, none⟩)]), (18, .int .i64 (mid : Int)), (19, .int .i64 ((mid : Int) + m)), (20, .int .i64 (s0 : Int)), (21, .int .i64 (r0 : Int))]) (fun _ => [(0, own 3 1 eI (sv v) xs), (1, arr B 30 28 (vi u))]) (fun _ => []) ?_ (fun _ _ => ?_)
      · refine r_seq ?_
        refine r_region ?_
        refine r_p (p_move rfl) rfl ?_
        refine r_p (p_move rfl) rfl ?_
        refine r_p (p_bin rfl rfl b_gt) rfl ?_
        refine r_nil ?_
        refine r_cond rfl (fun h9 => ?_) (fun h9 => ?_)
        · (try simp only [decide_eq_true_eq, decide_eq_false_iff_not, Bool.and_eq_true, Bool.or_eq_true, Bool.and_eq_false_iff, Bool.or_eq_false_iff, Bool.not_eq_true, Bool.not_eq_false, Bool.not_eq_true', Bool.not_eq_false', Bool.not_not, bne_iff_ne, beq_iff_eq] at h9)
          refine r_seq ?_
          refine r_region ?_
          refine r_p (p_move rfl) rfl ?_
          refine r_p (p_move rfl) rfl ?_
          refine r_p (p_bin rfl rfl (b_sub (by first | exact w_i64 (by omega) (by omega) | rfl))) rfl ?_
          refine r_p (p_assign rfl) rfl ?_
          refine r_nil ?_
          refine r_region ?_
          refine r_p (p_move rfl) rfl ?_
          refine r_p (p_assign rfl) rfl ?_
          refine r_nil ?_
          refine r_here () trivial (by rw [show (s0 : Int) = (mid : Int) + m - b by rw [hs0]; split <;> omega, show (r0 : Int) = (mid : Int) by rw [hr0]; split <;> omega]; rfl) rfl rfl
        · (try simp only [decide_eq_true_eq, decide_eq_false_iff_not, Bool.and_eq_true, Bool.or_eq_true, Bool.and_eq_false_iff, Bool.or_eq_false_iff, Bool.not_eq_true, Bool.not_eq_false, Bool.not_eq_true', Bool.not_eq_false', Bool.not_not, bne_iff_ne, beq_iff_eq] at h9)
          refine r_seq ?_
          refine r_region ?_
          refine r_p (p_move rfl) rfl ?_
          refine r_p (p_assign rfl) rfl ?_
          refine r_nil ?_
          refine r_region ?_
          refine r_p (p_move rfl) rfl ?_
          refine r_p (p_assign rfl) rfl ?_
          refine r_nil ?_
          refine r_here () trivial (by rw [show (s0 : Int) = (a : Int) by rw [hs0]; split <;> omega, show (r0 : Int) = (m : Int) by rw [hr0]; split <;> omega]; rfl) rfl rfl
      · refine r_seq ?_
        refine r_region ?_
        refine r_p (p_move rfl) rfl ?_
        refine r_p (p_bin rfl rfl (b_sub (by first | exact w_i64 (by omega) (by omega) | rfl))) rfl ?_
        refine r_p (p_assign rfl) rfl ?_
        refine r_nil ?_
        refine r_seq ?_
        refine r_block ?_
        refine r_loop (X := Nat × Nat) (fun x => s0 ≤ x.1 ∧ x.1 ≤ x.2 ∧ x.2 ≤ r0 ∧ ∃ n, x.2 - x.1 ≤ n ∧ bsr (fun c => !lessU u (xs.getD (mid + m - 1 - c) 0) (xs.getD c 0)) n x.1 x.2 = bsr (fun c => !lessU u (xs.getD (mid + m - 1 - c) 0) (xs.getD c 0)) (r0 - s0) s0 r0) (fun x => [(0, sv v), (1, .int .i64 (a : Int)), (2, .int .i64 (m : Int)), (3, .int .i64 (b : Int)), (4, .func (.func 33) #[] #[.pointer (some ⟨B, 0, none⟩)]), (20, .int .i64 (x.1 : Int)), (21, .int .i64 (x.2 : Int)), (18, .int .i64 (mid : Int)), (19, .int .i64 ((mid : Int) + m)), (22, .int .i64 ((mid : Int) + m - 1))]) (fun x => [(0, own 3 1 eI (sv v) xs), (1, arr B 30 28 (vi u))]) (fun x => []) (fun x => x.2 - x.1) (s0, r0) ⟨Nat.le_refl _, by dsimp only; omega, Nat.le_refl _, r0 - s0, Nat.le_refl _, rfl⟩ rfl rfl rfl (fun ⟨i, j⟩ hx => ?_)
        obtain ⟨hi, hij, hj, n, hn, hr⟩ := hx
        dsimp only at hi hij hj hn hr ⊢
        refine r_seq ?_
        refine r_seq ?_
        refine r_region ?_
        refine r_p (p_move rfl) rfl ?_
        refine r_p (p_move rfl) rfl ?_
        refine r_p (p_bin rfl rfl b_lt) rfl ?_
        refine r_nil ?_
        refine r_cond rfl (fun h10 => ?_) (fun h10 => ?_)
        · (try simp only [decide_eq_true_eq, decide_eq_false_iff_not, Bool.and_eq_true, Bool.or_eq_true, Bool.and_eq_false_iff, Bool.or_eq_false_iff, Bool.not_eq_true, Bool.not_eq_false, Bool.not_eq_true', Bool.not_eq_false', Bool.not_not, bne_iff_ne, beq_iff_eq] at h10)
          have hlt : i < j := by omega
          refine r_skip ?_
          refine r_block ?_
          refine r_seq ?_
          refine r_region ?_
          refine r_p (p_move rfl) rfl ?_
          refine r_p (p_move rfl) rfl ?_
          refine r_p (p_bin rfl rfl (b_add (by first | exact w_i64 (by omega) (by omega) | rfl))) rfl ?_
          refine r_p (p_conv Try.underlying3 Try.underlying80 rfl (by first | exact w_u64 (by omega) (by omega) | rfl)) rfl ?_
          refine r_p (p_bin rfl rfl (b_shr (by decide) (by decide) (half_nat i j))) rfl ?_
          refine r_p (p_conv Try.underlying80 Try.underlying3 rfl (by first | exact w_i64 (by omega) (by omega) | rfl)) rfl ?_
          refine r_p (p_assign rfl) rfl ?_
          refine r_nil ?_
          refine r_seq ?_
          refine r_draw [158, 159, 160, 161, 162, 163, 164, 165, 166, 167, 168, 169, 170, 171] _ rfl (stg_mem (V := [(0, 158, _), (1, 159, _), (2, 160, _), (3, 161, _), (4, 162, _), (5, 163, _), (6, 164, _), (7, 165, _), (8, 166, _), (9, 167, _), (10, 168, _)]) [0, 1, 2, 3, 4, 5, 6, 7, 8, 9, 10] 11 [11, 10, 9, 8, 7, 6, 5, 4, 3, 2, 1, 0] [12, 13] (fun x169 => [(12, 170, _), (13, 171, _)]) rfl rfl (prs_cons (pri rfl (p_move rfl)) (prs_cons (pri rfl (p_move rfl)) (prs_cons (pri rfl (p_move rfl)) (prs_cons (pri rfl (p_move rfl)) (prs_cons (pri rfl (p_bin rfl rfl (b_sub (by first | exact w_i64 (by omega) (by omega) | rfl)))) (prs_cons (pri rfl (p_idx_sl (j := (mid + m - 1 - (i + j) / 2)) Try.underlying22 t3 rfl rfl (hs_own (k := 0) rfl) (by omega) (by first | omega | (simp; omega)))) (prs_cons (pri rfl (p_load1 t3 rfl rfl (g_el' (hs_own (k := 0) rfl) (by intro _; rfl) (getD_get 0 (by first | omega | (simp; omega))) (by rfl)))) (prs_cons (pri rfl (p_move rfl)) (prs_cons (pri rfl (p_move rfl)) (prs_cons (pri rfl (p_idx_sl (j := ((i + j) / 2)) Try.underlying22 t3 rfl rfl (hs_own (k := 0) rfl) (by omega) (by first | omega | (simp; omega)))) (prs_cons (pri rfl (p_load1 t3 rfl rfl (g_el' (hs_own (k := 0) rfl) (by intro _; rfl) (getD_get 0 (by first | omega | (simp; omega))) (by rfl)))) prs_nil))))))))))) rfl rfl rfl rfl rfl rfl rfl rfl rfl rfl rfl (fun _ _ => rfl) rfl (ms_call (xs := [.tmp 164, .tmp 168]) (cmp_spec _ _ (InV.get hv (by omega)) (InV.get hv (by omega)) B u hu) cb33 [1] [] [1] [] rfl rfl rfl rfl rfl rfl rfl rfl (fun _ _ => rfl) (fun _ _ _ => rfl)) (fun x169 hx169 => stg_end [12, 13] rfl rfl (prs_cons (pri rfl (p_bin rfl rfl b_lt)) (prs_cons (pri rfl (p_not rfl)) prs_nil)) rfl rfl rfl ?_))
          refine r_cond rfl (fun h11 => ?_) (fun h11 => ?_)
          · (try simp only [decide_eq_true_eq, decide_eq_false_iff_not, Bool.and_eq_true, Bool.or_eq_true, Bool.and_eq_false_iff, Bool.or_eq_false_iff, Bool.not_eq_true, Bool.not_eq_false, Bool.not_eq_true', Bool.not_eq_false', Bool.not_not, bne_iff_ne, beq_iff_eq] at h11)
            have hf1 : (fun c => !lessU u (xs.getD (mid + m - 1 - c) 0) (xs.getD c 0)) ((i + j) / 2) = true := by dsimp only; unfold lessU; simp only [Bool.not_eq_true', decide_eq_true_eq, decide_eq_false_iff_not]; omega
            refine r_region ?_
            refine r_p (p_move rfl) rfl ?_
            refine r_p (p_bin rfl rfl (b_add (by first | exact w_i64 (by omega) (by omega) | rfl))) rfl ?_
            refine r_p (p_assign rfl) rfl ?_
            refine r_nil ?_
            refine r_here ((i + j) / 2 + 1, j) ⟨⟨by dsimp only; omega, by dsimp only; omega, by dsimp only; omega, n - 1, by dsimp only; omega, ?_⟩, by dsimp only; omega⟩ rfl rfl rfl
            dsimp only
            rw [← hr, bsr_T hlt hn hf1]
          · (try simp only [decide_eq_true_eq, decide_eq_false_iff_not, Bool.and_eq_true, Bool.or_eq_true, Bool.and_eq_false_iff, Bool.or_eq_false_iff, Bool.not_eq_true, Bool.not_eq_false, Bool.not_eq_true', Bool.not_eq_false', Bool.not_not, bne_iff_ne, beq_iff_eq] at h11)
            have hf1 : (fun c => !lessU u (xs.getD (mid + m - 1 - c) 0) (xs.getD c 0)) ((i + j) / 2) = false := by dsimp only; unfold lessU; simp only [Bool.not_eq_false', decide_eq_true_eq, decide_eq_false_iff_not]; omega
            refine r_region ?_
            refine r_p (p_move rfl) rfl ?_
            refine r_p (p_assign rfl) rfl ?_
            refine r_nil ?_
            refine r_here (i, (i + j) / 2) ⟨⟨by dsimp only; omega, by dsimp only; omega, by dsimp only; omega, n - 1, by dsimp only; omega, ?_⟩, by dsimp only; omega⟩ rfl rfl rfl
            dsimp only
            rw [← hr, bsr_F hlt hn hf1]
        · (try simp only [decide_eq_true_eq, decide_eq_false_iff_not, Bool.and_eq_true, Bool.or_eq_true, Bool.and_eq_false_iff, Bool.or_eq_false_iff, Bool.not_eq_true, Bool.not_eq_false, Bool.not_eq_true', Bool.not_eq_false', Bool.not_not, bne_iff_ne, beq_iff_eq] at h10)
          rw [bsr_done (by omega)] at hr
          have hri := bsr_range (f := fun c => !lessU u (xs.getD (mid + m - 1 - c) 0) (xs.getD c 0)) (r0 - s0) s0 r0 (by omega)
          obtain ⟨start, hst⟩ : ∃ start, start = bsr (fun c => !lessU u (xs.getD (mid + m - 1 - c) 0) (xs.getD c 0)) (r0 - s0) s0 r0 := ⟨_, rfl⟩
          rw [← hst] at hr hri
          have hr2 : start = i := hr.symm
          subst hr2
          obtain ⟨e, he⟩ : ∃ e, e = mid + m - start := ⟨_, rfl⟩
          obtain ⟨xs1, hx1⟩ : ∃ xs1, xs1 = if start < m ∧ m < e then rot 0 (e - start) xs m (m - start) (e - m) else xs := ⟨_, rfl⟩
          obtain ⟨xs2, hx2⟩ : ∃ xs2, xs2 = if a < start ∧ start < mid then symM 0 (lessU u) f xs1 a start mid else xs1 := ⟨_, rfl⟩
          have hv1 : xs1.length = xs.length ∧ InV xs1 := by
            rw [hx1]
            split
            · exact ⟨rot_len 0 _ _ _ _ _, inv_rot hv _ _ _ _⟩
            · exact ⟨rfl, hv⟩
          have hv2 : xs2.length = xs.length ∧ InV xs2 := by
            rw [hx2]
            split
            · have h2 := symM_both 0 (lessU u) (p := fun x => 0 ≤ x ∧ x < 28) (by decide) f xs1 a start mid hv1.2
              exact ⟨h2.1.trans hv1.1, h2.2⟩
            · exact hv1
          obtain ⟨hl1, hv1⟩ := hv1
          obtain ⟨hl2, hv2⟩ := hv2
          have hei : (e : Int) = mid + m - start := by omega
          
          refine r_exit ?_
          refine r_seq ?_
          refine r_region ?_
          refine r_p (p_move rfl) rfl ?_
          refine r_p (p_move rfl) rfl ?_
          refine r_p (p_bin rfl rfl (b_sub (by first | exact w_i64 (by omega) (by omega) | rfl))) rfl ?_
          refine r_p (p_assign rfl) rfl ?_
          refine r_nil ?_
          refine r_seq_cut (X := Unit) (fun _ => True) (fun _ => [(0, sv v), (1, .int .i64 (a : Int)), (2, .int .i64 (m : Int)), (3, .int .i64 (b : Int)), (4, .func (.func 33) #[] #[.pointer (some ⟨B, 0, none⟩)]), (18, .int .i64 (mid : Int)), (20, .int .i64 (start : Int)), (24, .int .i64 (e : Int))]) (fun _ => [(0, own 3 1 eI (sv v) xs1), (1, arr B 30 28 (vi u))]) (fun _ => []) ?_ (fun _ _ => ?_)
          · refine r_seq ?_
            refine r_region ?_
            refine r_p (p_move rfl) rfl ?_
            refine r_p (p_move rfl) rfl ?_
            refine r_p (p_bin rfl rfl b_lt) rfl ?_
            refine r_p (p_move rfl) rfl ?_
            refine r_gp [] rfl rfl trivial (fun hg12 => p_move rfl) rfl ?_
            refine r_gp [(182, _)] rfl rfl ⟨rfl, trivial⟩ (fun hg13 => p_move rfl) rfl ?_
            refine r_gp [(182, _), (183, _)] rfl rfl ⟨rfl, rfl, trivial⟩ (fun hg14 => p_bin rfl rfl b_lt) rfl ?_
            refine r_p (p_pick rfl rfl rfl (by first | exact pick_and | exact pick_or |  rfl)) rfl ?_
            refine r_nil ?_
            refine r_cond rfl (fun h15 => ?_) (fun h15 => ?_)
            · (try simp only [decide_eq_true_eq, decide_eq_false_iff_not, Bool.and_eq_true, Bool.or_eq_true, Bool.and_eq_false_iff, Bool.or_eq_false_iff, Bool.not_eq_true, Bool.not_eq_false, Bool.not_eq_true', Bool.not_eq_false', Bool.not_not, bne_iff_ne, beq_iff_eq] at h15)
              have hc12 : start < m ∧ m < e := by omega
              refine r_region ?_
              refine r_p (p_move rfl) rfl ?_
              refine r_p (p_move rfl) rfl ?_
              refine r_p (p_move rfl) rfl ?_
              refine r_p (p_move rfl) rfl ?_
              refine r_p (p_move rfl) rfl ?_
              refine r_call (xs := [.tmp 186, .tmp 187, .tmp 188, .tmp 189, .tmp 190]) (rot_i v xs start m (mid + m - start) (by omega) (by omega) (by omega) (by omega) (by omega) (by omega) hl B u) cb59 [0, 1] [] [0, 1] [] rfl rfl rfl rfl rfl rfl rfl rfl (fun _ _ => rfl) (fun _ _ _ => rfl) rfl (fun _ _ => ?_)
              refine r_nil ?_
              refine r_here () trivial (by rw [hei]; rfl) (by rw [hx1, if_pos hc12, show e - start = ((mid : Int) + m - start - start).toNat by omega, show m - start = ((m : Int) - start).toNat by omega, show e - m = ((mid : Int) + m - start - m).toNat by omega]; rfl) rfl
            · (try simp only [decide_eq_true_eq, decide_eq_false_iff_not, Bool.and_eq_true, Bool.or_eq_true, Bool.and_eq_false_iff, Bool.or_eq_false_iff, Bool.not_eq_true, Bool.not_eq_false, Bool.not_eq_true', Bool.not_eq_false', Bool.not_not, bne_iff_ne, beq_iff_eq] at h15)
              have hc12 : ¬ (start < m ∧ m < e) := by omega
              refine r_skip ?_
              refine r_here () trivial (by rw [hei]; rfl) (by rw [hx1, if_neg hc12]; rfl) rfl
          · refine r_seq_cut (X := Unit) (fun _ => True) (fun _ => [(0, sv v), (1, .int .i64 (a : Int)), (2, .int .i64 (m : Int)), (3, .int .i64 (b : Int)), (4, .func (.func 33) #[] #[.pointer (some ⟨B, 0, none⟩)]), (18, .int .i64 (mid : Int)), (20, .int .i64 (start : Int)), (24, .int .i64 (e : Int))]) (fun _ => [(0, own 3 1 eI (sv v) xs2), (1, arr B 30 28 (vi u))]) (fun _ => []) ?_ (fun _ _ => ?_)
            · refine r_seq ?_
              refine r_region ?_
              refine r_p (p_move rfl) rfl ?_
              refine r_p (p_move rfl) rfl ?_
              refine r_p (p_bin rfl rfl b_lt) rfl ?_
              refine r_p (p_move rfl) rfl ?_
              refine r_gp [] rfl rfl trivial (fun hg16 => p_move rfl) rfl ?_
              refine r_gp [(196, _)] rfl rfl ⟨rfl, trivial⟩ (fun hg17 => p_move rfl) rfl ?_
              refine r_gp [(196, _), (197, _)] rfl rfl ⟨rfl, rfl, trivial⟩ (fun hg18 => p_bin rfl rfl b_lt) rfl ?_
              refine r_p (p_pick rfl rfl rfl (by first | exact pick_and | exact pick_or |  rfl)) rfl ?_
              refine r_nil ?_
              refine r_cond rfl (fun h19 => ?_) (fun h19 => ?_)
              · (try simp only [decide_eq_true_eq, decide_eq_false_iff_not, Bool.and_eq_true, Bool.or_eq_true, Bool.and_eq_false_iff, Bool.or_eq_false_iff, Bool.not_eq_true, Bool.not_eq_false, Bool.not_eq_true', Bool.not_eq_false', Bool.not_not, bne_iff_ne, beq_iff_eq] at h19)
                have hc13 : a < start ∧ start < mid := by omega
                refine r_region ?_
                refine r_p (p_move rfl) rfl ?_
                refine r_p (p_move rfl) rfl ?_
                refine r_p (p_move rfl) rfl ?_
                refine r_p (p_move rfl) rfl ?_
                refine r_p (p_move rfl) rfl ?_
                refine r_call (xs := [.tmp 200, .tmp 201, .tmp 202, .tmp 203, .tmp 204]) (ihi xs1 a start mid hv1 (by omega) (by omega) (by omega) (by omega) (by omega) (by omega)) cb47 [0, 1] [] [0, 1] [] rfl rfl rfl rfl rfl rfl rfl rfl (fun _ _ => rfl) (fun _ _ _ => rfl) rfl (fun _ _ => ?_)
                refine r_nil ?_
                refine r_here () trivial rfl (by rw [hx2, if_pos hc13]; rfl) rfl
              · (try simp only [decide_eq_true_eq, decide_eq_false_iff_not, Bool.and_eq_true, Bool.or_eq_true, Bool.and_eq_false_iff, Bool.or_eq_false_iff, Bool.not_eq_true, Bool.not_eq_false, Bool.not_eq_true', Bool.not_eq_false', Bool.not_not, bne_iff_ne, beq_iff_eq] at h19)
                have hc13 : ¬ (a < start ∧ start < mid) := by omega
                refine r_skip ?_
                refine r_here () trivial rfl (by rw [hx2, if_neg hc13]; rfl) rfl
            · refine r_seq ?_
              refine r_region ?_
              refine r_p (p_move rfl) rfl ?_
              refine r_p (p_move rfl) rfl ?_
              refine r_p (p_bin rfl rfl b_lt) rfl ?_
              refine r_p (p_move rfl) rfl ?_
              refine r_gp [] rfl rfl trivial (fun hg20 => p_move rfl) rfl ?_
              refine r_gp [(210, _)] rfl rfl ⟨rfl, trivial⟩ (fun hg21 => p_move rfl) rfl ?_
              refine r_gp [(210, _), (211, _)] rfl rfl ⟨rfl, rfl, trivial⟩ (fun hg22 => p_bin rfl rfl b_lt) rfl ?_
              refine r_p (p_pick rfl rfl rfl (by first | exact pick_and | exact pick_or |  rfl)) rfl ?_
              refine r_nil ?_
              refine r_cond rfl (fun h23 => ?_) (fun h23 => ?_)
              · (try simp only [decide_eq_true_eq, decide_eq_false_iff_not, Bool.and_eq_true, Bool.or_eq_true, Bool.and_eq_false_iff, Bool.or_eq_false_iff, Bool.not_eq_true, Bool.not_eq_false, Bool.not_eq_true', Bool.not_eq_false', Bool.not_not, bne_iff_ne, beq_iff_eq] at h23)
                have hc14 : mid < e ∧ e < b := by omega
                refine r_region ?_
                refine r_p (p_move rfl) rfl ?_
                refine r_p (p_move rfl) rfl ?_
                refine r_p (p_move rfl) rfl ?_
                refine r_p (p_move rfl) rfl ?_
                refine r_p (p_move rfl) rfl ?_
                refine r_call (xs := [.tmp 214, .tmp 215, .tmp 216, .tmp 217, .tmp 218]) (ihi xs2 mid e b hv2 (by omega) (by omega) (by omega) (by omega) (by omega) (by omega)) cb47 [0, 1] [] [0, 1] [] rfl rfl rfl rfl rfl rfl rfl rfl (fun _ _ => rfl) (fun _ _ _ => rfl) rfl (fun _ _ => ?_)
                refine r_nil ?_
                refine r_end () trivial rfl rs0 rfl [0, 1] [] rfl ?_ rfl
                rw [symM_3 0 (lessU u) hm1 hm2 hmid hs0 hr0 hst he hx1 hx2, if_pos hc14]
                rfl
              · (try simp only [decide_eq_true_eq, decide_eq_false_iff_not, Bool.and_eq_true, Bool.or_eq_true, Bool.and_eq_false_iff, Bool.or_eq_false_iff, Bool.not_eq_true, Bool.not_eq_false, Bool.not_eq_true', Bool.not_eq_false', Bool.not_not, bne_iff_ne, beq_iff_eq] at h23)
                have hc14 : ¬ (mid < e ∧ e < b) := by omega
                refine r_skip ?_
                refine r_end () trivial rfl rs0 rfl [0, 1] [] rfl ?_ rfl
                rw [symM_3 0 (lessU u) hm1 hm2 hmid hs0 hr0 hst he hx1 hx2, if_neg hc14]
                rfl

end Go.Proofs.Ytfdbkclbcajkiaa
