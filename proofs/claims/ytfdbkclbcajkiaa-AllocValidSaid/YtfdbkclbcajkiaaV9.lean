/-
  ref.Valid. No condition.
-/
import Derived.Test.YtfdbkclbcajkiaaV8
namespace Go.Proofs.Ytfdbkclbcajkiaa
set_option linter.unusedSimpArgs false
set_option linter.unusedVariables false
open Go.RowKit

/-- The state of the other check behind k variables. -/
structure VR (a : Nat → Int) (regs : Int) (k : Nat) : Prop where
  rng : ∀ i, i < k → -1 ≤ a i ∧ (0 ≤ a i → a i < regs)
  inj : ∀ i j, i < j → j < k → 0 ≤ a i → a i ≠ a j
theorem VR.zero (a : Nat → Int) (regs : Int) : VR a regs 0 := ⟨fun i h => by omega, fun i j h h2 => by omega⟩
theorem VR.succ {a : Nat → Int} {regs : Int} {k : Nat} (h : VR a regs k) (hr : -1 ≤ a k ∧ (0 ≤ a k → a k < regs)) (hi : ∀ i, i < k → 0 ≤ a i → a i ≠ a k) : VR a regs (k + 1) :=
  ⟨fun i h1 => by
    rcases Nat.lt_or_eq_of_le (Nat.le_of_lt_succ h1) with h2 | h2
    · exact h.rng i h2
    · subst h2; exact hr, fun i j h1 h2 h0 => by
    rcases Nat.lt_or_eq_of_le (Nat.le_of_lt_succ h2) with h3 | h3
    · exact h.inj i j h1 h3 h0
    · subst h3; exact hi i h1 h0⟩

set_option maxRecDepth 100000 in
set_option maxHeartbeats 1000000 in
theorem rvalid_spec (a : Nat → Int) (regs : Int) :
    Spec Try.prog 25 [uA a, .int .i64 regs] [] [] (X := Bool) (fun b => b = true ↔ ValidP a regs) (fun b => .bool b) (fun _ => []) (fun _ => []) := by
  refine r_enter Try.func25 rfl Try.ntmps25 rfl fun w0 M H => ?_
  refine r_seq ?_
  refine r_region ?_
  refine r_box_arr rfl rfl fun b2 => ?_
  refine r_p (p_assign rfl) rfl ?_
  refine r_nil ?_
  refine r_seq ?_
  refine r_seq ?_
  refine r_region ?_
  refine r_p (p_assign rfl) rfl ?_
  refine r_nil ?_
  refine r_block ?_
  refine r_loop (X := Nat) (fun k => k ≤ 28 ∧ VR a regs k) (fun k => [(1, .int .i64 regs), (2, .pointer (some ⟨b2, 0, none⟩)), (5, .int .i64 (k : Int))]) (fun k => [(2, arr b2 33 28 (vi a))]) (fun k => []) (fun k => 28 - k) 0 ⟨Nat.zero_le _, VR.zero a regs⟩ rfl rfl rfl (fun k hk0 => ?_)
  obtain ⟨hk0, hst⟩ := hk0
  refine r_seq ?_
  refine r_seq ?_
  refine r_region ?_
  refine r_p (p_move rfl) rfl ?_
  refine r_p (p_bin rfl rfl b_lt) rfl ?_
  refine r_nil ?_
  refine r_cond rfl (fun h1 => ?_) (fun h1 => ?_)
  · (try simp only [decide_eq_true_eq, decide_eq_false_iff_not, Bool.and_eq_true, Bool.or_eq_true, Bool.and_eq_false_iff, Bool.or_eq_false_iff, Bool.not_eq_true, Bool.not_eq_false, Bool.not_eq_true', Bool.not_eq_false', Bool.not_not, bne_iff_ne, beq_iff_eq] at h1)
    have hk : k < 28 := by omega
    refine r_skip ?_
    refine r_seq ?_
    refine r_block ?_
    refine r_seq ?_
    refine r_seq ?_
    refine r_region ?_
    refine r_p (p_move rfl) rfl ?_
    refine r_p (p_idx_arr1 (j := k) Try.underlying33 t3 rfl rfl (by first | rfl | omega) (by first | omega | (simp; done) | (simp; omega))) rfl ?_
    refine r_p (p_load1 t3 rfl rfl (g_arr1 (k := 2) rfl (by omega))) rfl ?_
    refine r_p (p_bin rfl rfl b_lt) rfl ?_
    refine r_p (p_move rfl) rfl ?_
    refine r_gp [] rfl rfl trivial (fun hg2 => p_move rfl) rfl ?_
    refine r_gp [(16, _)] rfl rfl ⟨rfl, trivial⟩ (fun hg3 => p_idx_arr1 (j := k) Try.underlying33 t3 rfl rfl (by first | rfl | omega) (by first | omega | (simp; done) | (simp; omega))) rfl ?_
    refine r_gp [(16, _), (17, _)] rfl rfl ⟨rfl, rfl, trivial⟩ (fun hg4 => p_load1 t3 rfl rfl (g_arr1 (k := 2) rfl (by omega))) rfl ?_
    refine r_gp [(16, _), (17, _), (18, _)] rfl rfl ⟨rfl, rfl, rfl, trivial⟩ (fun hg5 => p_bin rfl rfl b_ge) rfl ?_
    refine r_gp [(16, _), (17, _), (18, _), (19, _)] rfl rfl ⟨rfl, rfl, rfl, rfl, trivial⟩ (fun hg6 => p_move rfl) rfl ?_
    refine r_gp2 [] [(16, _), (17, _), (18, _), (19, _), (20, _)] rfl rfl trivial ⟨rfl, rfl, rfl, rfl, rfl, trivial⟩ (fun hg7 hg7' => p_move rfl) rfl ?_
    refine r_gp2 [(21, _)] [(16, _), (17, _), (18, _), (19, _), (20, _)] rfl rfl ⟨rfl, trivial⟩ ⟨rfl, rfl, rfl, rfl, rfl, trivial⟩ (fun hg8 hg8' => p_idx_arr1 (j := k) Try.underlying33 t3 rfl rfl (by first | rfl | omega) (by first | omega | (simp; done) | (simp; omega))) rfl ?_
    refine r_gp2 [(21, _), (22, _)] [(16, _), (17, _), (18, _), (19, _), (20, _)] rfl rfl ⟨rfl, rfl, trivial⟩ ⟨rfl, rfl, rfl, rfl, rfl, trivial⟩ (fun hg9 hg9' => p_load1 t3 rfl rfl (g_arr1 (k := 2) rfl (by omega))) rfl ?_
    refine r_gp2 [(21, _), (22, _), (23, _)] [(16, _), (17, _), (18, _), (19, _), (20, _)] rfl rfl ⟨rfl, rfl, rfl, trivial⟩ ⟨rfl, rfl, rfl, rfl, rfl, trivial⟩ (fun hg10 hg10' => p_move rfl) rfl ?_
    refine r_gp2 [(21, _), (22, _), (23, _), (24, _)] [(16, _), (17, _), (18, _), (19, _), (20, _)] rfl rfl ⟨rfl, rfl, rfl, rfl, trivial⟩ ⟨rfl, rfl, rfl, rfl, rfl, trivial⟩ (fun hg11 hg11' => p_bin rfl rfl b_ge) rfl ?_
    refine r_gp [(16, _), (17, _), (18, _), (19, _), (20, _)] rfl rfl ⟨rfl, rfl, rfl, rfl, rfl, trivial⟩ (fun hg12 => p_pick rfl rfl rfl (by first | exact pick_and | exact pick_or | exact pick_and2 hg12 | exact pick_or2 hg12 | rfl)) rfl ?_
    refine r_p (p_pick rfl rfl rfl (by first | exact pick_and | exact pick_or |  rfl)) rfl ?_
    refine r_nil ?_
    refine r_cond rfl (fun h13 => ?_) (fun h13 => ?_)
    · (try simp only [decide_eq_true_eq, decide_eq_false_iff_not, Bool.and_eq_true, Bool.or_eq_true, Bool.and_eq_false_iff, Bool.or_eq_false_iff, Bool.not_eq_true, Bool.not_eq_false, Bool.not_eq_true', Bool.not_eq_false', Bool.not_not, bne_iff_ne, beq_iff_eq] at h13)
      have hbad : a k < -1 ∨ (0 ≤ a k ∧ regs ≤ a k) := by simp [vi] at h13; omega
      refine r_seq ?_
      refine r_region ?_
      refine r_p (p_assign rfl) rfl ?_
      refine r_nil ?_
      refine r_cret ?_
      refine r_ret false ⟨fun h => (by cases h), fun h => (by exfalso; have := h.1 k hk; omega)⟩ rfl (rs1 (rv_tmp rfl)) rfl [] [] rfl rfl rfl
    · (try simp only [decide_eq_true_eq, decide_eq_false_iff_not, Bool.and_eq_true, Bool.or_eq_true, Bool.and_eq_false_iff, Bool.or_eq_false_iff, Bool.not_eq_true, Bool.not_eq_false, Bool.not_eq_true', Bool.not_eq_false', Bool.not_not, bne_iff_ne, beq_iff_eq] at h13)
      have hrg : -1 ≤ a k ∧ (0 ≤ a k → a k < regs) := by simp [vi] at h13; omega
      refine r_skip ?_
      refine r_seq ?_
      refine r_region ?_
      refine r_p (p_assign rfl) rfl ?_
      refine r_nil ?_
      refine r_block ?_
      refine r_loop (X := Nat) (fun j => j ≤ k ∧ ∀ i, i < j → 0 ≤ a i → a i ≠ a k) (fun j => [(1, .int .i64 regs), (2, .pointer (some ⟨b2, 0, none⟩)), (5, .int .i64 (k : Int)), (6, .int .i64 (j : Int))]) (fun j => [(2, arr b2 33 28 (vi a))]) (fun j => []) (fun j => k - j) 0 ⟨Nat.zero_le _, fun i hi => by omega⟩ rfl rfl rfl (fun j hj0 => ?_)
      obtain ⟨hj0, hns⟩ := hj0
      refine r_seq ?_
      refine r_seq ?_
      refine r_region ?_
      refine r_p (p_move rfl) rfl ?_
      refine r_p (p_move rfl) rfl ?_
      refine r_p (p_bin rfl rfl b_lt) rfl ?_
      refine r_nil ?_
      refine r_cond rfl (fun h14 => ?_) (fun h14 => ?_)
      · (try simp only [decide_eq_true_eq, decide_eq_false_iff_not, Bool.and_eq_true, Bool.or_eq_true, Bool.and_eq_false_iff, Bool.or_eq_false_iff, Bool.not_eq_true, Bool.not_eq_false, Bool.not_eq_true', Bool.not_eq_false', Bool.not_not, bne_iff_ne, beq_iff_eq] at h14)
        have hj : j < k := by omega
        refine r_skip ?_
        refine r_seq ?_
        refine r_block ?_
        refine r_seq ?_
        refine r_draw [33, 34, 35, 36, 37, 38, 39, 40, 41, 42, 43, 44, 45] _ rfl (stg_end (V := [(0, 33, _), (1, 34, _), (2, 35, _), (3, 36, _), (4, 37, _), (5, 38, _), (6, 39, _), (7, 40, _), (8, 41, _), (9, 42, _), (10, 43, _), (11, 44, _), (12, 45, _)]) [0, 1, 2, 3, 4, 5, 6, 7, 8, 9, 10, 11, 12] rfl rfl (prs_cons (pri rfl (p_move rfl)) (prs_cons (pri rfl (p_idx_arr1 (j := j) Try.underlying33 t3 rfl rfl (by first | rfl | omega) (by first | omega | (simp; done) | (simp; omega)))) (prs_cons (pri rfl (p_load1 t3 rfl rfl (g_arr1 (k := 2) rfl (by omega)))) (prs_cons (pri rfl (p_bin rfl rfl b_ge)) (prs_cons (pri rfl (p_move rfl)) (prs_cons (prig_s [] rfl rfl rfl trivial (fun hg15 => p_move rfl)) (prs_cons (prig_s [(38, _)] rfl rfl rfl ⟨rfl, trivial⟩ (fun hg16 => p_idx_arr1 (j := j) Try.underlying33 t3 rfl rfl (by first | rfl | omega) (by first | omega | (simp; done) | (simp; omega)))) (prs_cons (prig_s [(39, _)] rfl rfl rfl ⟨rfl, trivial⟩ (fun hg17 => p_load1 t3 rfl rfl (g_arr1 (k := 2) rfl (by omega)))) (prs_cons (prig_s [] rfl rfl rfl trivial (fun hg18 => p_move rfl)) (prs_cons (prig_s [(41, _)] rfl rfl rfl ⟨rfl, trivial⟩ (fun hg19 => p_idx_arr1 (j := k) Try.underlying33 t3 rfl rfl (by first | rfl | omega) (by first | omega | (simp; done) | (simp; omega)))) (prs_cons (prig_s [(42, _)] rfl rfl rfl ⟨rfl, trivial⟩ (fun hg20 => p_load1 t3 rfl rfl (g_arr1 (k := 2) rfl (by omega)))) (prs_cons (prig_s [(40, _), (43, _)] rfl rfl rfl ⟨rfl, rfl, trivial⟩ (fun hg21 => p_bin rfl rfl b_eq)) (prs_cons (pri rfl (p_pick rfl rfl rfl (by first | exact pick_and | exact pick_or |  rfl))) prs_nil))))))))))))) rfl rfl rfl ?_)
        refine r_cond rfl (fun h22 => ?_) (fun h22 => ?_)
        · (try simp only [decide_eq_true_eq, decide_eq_false_iff_not, Bool.and_eq_true, Bool.or_eq_true, Bool.and_eq_false_iff, Bool.or_eq_false_iff, Bool.not_eq_true, Bool.not_eq_false, Bool.not_eq_true', Bool.not_eq_false', Bool.not_not, bne_iff_ne, beq_iff_eq] at h22)
          have hdup : 0 ≤ a j ∧ a j = a k := by simpa [vi] using h22
          refine r_seq ?_
          refine r_region ?_
          refine r_p (p_assign rfl) rfl ?_
          refine r_nil ?_
          refine r_cret ?_
          refine r_ret false ⟨fun h => (by cases h), fun h => (by exfalso; exact h.2 j k hj hk hdup.1 hdup.2)⟩ rfl (rs1 (rv_tmp rfl)) rfl [] [] rfl rfl rfl
        · (try simp only [decide_eq_true_eq, decide_eq_false_iff_not, Bool.and_eq_true, Bool.or_eq_true, Bool.and_eq_false_iff, Bool.or_eq_false_iff, Bool.not_eq_true, Bool.not_eq_false, Bool.not_eq_true', Bool.not_eq_false', Bool.not_not, bne_iff_ne, beq_iff_eq] at h22)
          have hdup : 0 ≤ a j → a j ≠ a k := by simp [vi] at h22; omega
          refine r_skip ?_
          refine r_region ?_
          refine r_p (p_move rfl) rfl ?_
          refine r_p (p_bin rfl rfl (b_add (by first | exact w_i64 (by omega) (by omega) | rfl))) rfl ?_
          refine r_p (p_assign rfl) rfl ?_
          refine r_nil ?_
          refine r_here (j + 1) ⟨⟨by omega, fun i hi h0 => (by
            rcases Nat.lt_or_eq_of_le (Nat.le_of_lt_succ hi) with h2 | h2
            · exact hns i h2 h0
            · subst h2; omega)⟩, by omega⟩ rfl rfl rfl
      · (try simp only [decide_eq_true_eq, decide_eq_false_iff_not, Bool.and_eq_true, Bool.or_eq_true, Bool.and_eq_false_iff, Bool.or_eq_false_iff, Bool.not_eq_true, Bool.not_eq_false, Bool.not_eq_true', Bool.not_eq_false', Bool.not_not, bne_iff_ne, beq_iff_eq] at h14)
        have hj : j = k := by omega
        refine r_exit ?_
        refine r_region ?_
        refine r_p (p_move rfl) rfl ?_
        refine r_p (p_bin rfl rfl (b_add (by first | exact w_i64 (by omega) (by omega) | rfl))) rfl ?_
        refine r_p (p_assign rfl) rfl ?_
        refine r_nil ?_
        refine r_here (k + 1) ⟨⟨by omega, hst.succ hrg (fun i hi => hns i (by omega))⟩, by omega⟩ rfl rfl rfl
  · (try simp only [decide_eq_true_eq, decide_eq_false_iff_not, Bool.and_eq_true, Bool.or_eq_true, Bool.and_eq_false_iff, Bool.or_eq_false_iff, Bool.not_eq_true, Bool.not_eq_false, Bool.not_eq_true', Bool.not_eq_false', Bool.not_not, bne_iff_ne, beq_iff_eq] at h1)
    have hk : k = 28 := by omega
    subst hk
    refine r_exit ?_
    refine r_seq ?_
    refine r_region ?_
    refine r_p (p_idx_arr1 (j := 19) Try.underlying33 t3 rfl rfl (by rfl) (by decide)) rfl ?_
    refine r_p (p_load1 t3 rfl rfl (g_arr1 (k := 2) rfl (by omega))) rfl ?_
    refine r_p (p_bin rfl rfl b_eq) rfl ?_
    refine r_p (p_assign rfl) rfl ?_
    refine r_nil ?_
    refine r_cret ?_
    refine r_ret (decide (a 19 = -1)) (by
      rw [decide_eq_true_eq]
      exact ⟨fun h => ⟨fun i hi => ⟨(hst.rng i hi).1, (hst.rng i hi).2, fun e => e ▸ h⟩, hst.inj⟩, fun h => (h.1 19 (by omega)).2.2 rfl⟩) rfl (rs1 (rv_tmp rfl)) rfl [] [] rfl rfl rfl

end Go.Proofs.Ytfdbkclbcajkiaa
