/-
  alloc.Valid. Condition: the spilled numbers can be sorted.
-/
import Derived.Test.YtfdbkclbcajkiaaV7
namespace Go.Proofs.Ytfdbkclbcajkiaa
set_option linter.unusedSimpArgs false
set_option linter.unusedVariables false
open Go.RowKit

set_option maxRecDepth 100000 in
set_option maxHeartbeats 1000000 in
theorem valid_spec (a : Nat → Int) (regs : Int) (K : Nat) (hK : (spills a 28).length ≤ K) (hsort : ∀ v xs, xs.length ≤ K → SortOk v xs) :
    Spec Try.prog 24 [uA a, .int .i64 regs] [] [] (X := Bool) (fun b => b = true ↔ ValidP a regs) (fun b => .bool b) (fun _ => []) (fun _ => []) := by
  refine r_enter Try.func24 rfl Try.ntmps24 rfl fun w0 M H => ?_
  refine r_seq ?_
  refine r_region ?_
  refine r_box_arr rfl rfl fun b2 => ?_
  refine r_p (p_assign rfl) rfl ?_
  refine r_nil ?_
  refine r_seq ?_
  refine r_seq ?_
  refine r_draw [9, 10, 11] _ rfl (stg_mem (V := [(0, 9, _)]) [0] 1 [1] [2] (fun _ => [(2, 11, _)]) rfl rfl (prs_cons (pri rfl (p_loadA t33 rfl rfl (by simp) (g_arr (k := 2) rfl))) prs_nil) rfl rfl rfl rfl rfl rfl rfl rfl rfl rfl rfl (fun _ _ => rfl) rfl (ms_call (xs := []) none_spec cb23 [] [] [] [] rfl rfl rfl rfl rfl rfl rfl rfl (fun _ _ => rfl) (fun _ _ _ => rfl)) (fun _ _ => stg_end [2, 0] rfl rfl (prs_cons (pri rfl (p_bin rfl rfl (b_eqA Try.underlying33 t3 (by kernel_rfl)))) (prs_cons (pri rfl (p_loadA t33 rfl rfl (by simp) (g_arr (k := 2) rfl))) prs_nil)) rfl rfl rfl ?_))
  refine r_cond rfl (fun h1 => ?_) (fun h1 => ?_)
  · (try simp only [decide_eq_true_eq, decide_eq_false_iff_not, Bool.and_eq_true, Bool.or_eq_true, Bool.and_eq_false_iff, Bool.or_eq_false_iff, Bool.not_eq_true, Bool.not_eq_false, Bool.not_eq_true', Bool.not_eq_false', Bool.not_not, bne_iff_ne, beq_iff_eq] at h1)
    have hall : ∀ i, i < 28 → a i = -1 := fun i hi => by
      have := List.all_eq_true.1 h1 i (by simpa using hi)
      exact of_decide_eq_true this
    refine r_seq ?_
    refine r_region ?_
    refine r_p (p_assign rfl) rfl ?_
    refine r_nil ?_
    refine r_cret ?_
    refine r_ret true ⟨fun _ => ⟨fun i hi => (by have := hall i hi; omega), fun i j h1 h2 h0 => (by have := hall i (by omega); omega)⟩, fun _ => rfl⟩ rfl (rs1 (rv_tmp rfl)) rfl [] [] rfl rfl rfl
  · (try simp only [decide_eq_true_eq, decide_eq_false_iff_not, Bool.and_eq_true, Bool.or_eq_true, Bool.and_eq_false_iff, Bool.or_eq_false_iff, Bool.not_eq_true, Bool.not_eq_false, Bool.not_eq_true', Bool.not_eq_false', Bool.not_not, bne_iff_ne, beq_iff_eq] at h1)
    refine r_skip ?_
    refine r_seq ?_
    refine r_region ?_
    refine r_alloc_arr (n := 28) (u := (.bool false)) t67 rfl rfl fun b5 => ?_
    refine r_nil ?_
    refine r_seq ?_
    refine r_region ?_
    refine r_bslice0 eI Try.underlying22 t3 rfl fun v12 => ?_
    refine r_p (p_assign rfl) rfl ?_
    refine r_nil ?_
    refine r_seq ?_
    refine r_seq ?_
    refine r_region ?_
    refine r_p (p_loadA t33 rfl rfl (by simp) (g_arr (k := 2) rfl)) rfl ?_
    refine r_p (p_move rfl) rfl ?_
    refine r_nil ?_
    refine r_block ?_
    refine r_loop (X := Nat × SV) (fun x => x.1 ≤ 28 ∧ VSt a regs x.1) (fun x => [(1, .int .i64 regs), (5, .pointer (some ⟨b5, 0, none⟩)), (6, sv x.2), (13, uA a), (14, .int .i64 (x.1 : Int))]) (fun x => [(5, arr b5 67 28 (vbo (seenB a x.1))), (12, own 3 1 eI (sv x.2) (spills a x.1))]) (fun x => []) (fun x => 28 - x.1) (0, v12) ⟨Nat.zero_le _, VSt.zero a regs⟩ rfl rfl rfl (fun ⟨k, v6⟩ hk0 => ?_)
    obtain ⟨hk0, hst⟩ := hk0
    dsimp only at hk0 hst ⊢
    refine r_seq ?_
    refine r_region ?_
    refine r_p (p_bin rfl rfl b_lt) rfl ?_
    refine r_nil ?_
    refine r_seq ?_
    refine r_cond rfl (fun h2 => ?_) (fun h2 => ?_)
    · (try simp only [decide_eq_true_eq, decide_eq_false_iff_not, Bool.and_eq_true, Bool.or_eq_true, Bool.and_eq_false_iff, Bool.or_eq_false_iff, Bool.not_eq_true, Bool.not_eq_false, Bool.not_eq_true', Bool.not_eq_false', Bool.not_not, bne_iff_ne, beq_iff_eq] at h2)
      have hk : k < 28 := by omega
      refine r_skip ?_
      refine r_seq ?_
      refine r_block ?_
      refine r_seq ?_
      refine r_region ?_
      refine r_p (p_move rfl) rfl ?_
      refine r_p (p_vindex (j := k) Try.underlying33 t3 rfl rfl (by first | rfl | omega) (by omega) (show _ = some (Value.int .i64 (a k)) by simp [aggD, vi, hk])) rfl ?_
      refine r_p (p_assign rfl) rfl ?_
      refine r_p (p_assign rfl) rfl ?_
      refine r_nil ?_
      refine r_block ?_
      refine r_seq ?_
      refine r_region ?_
      refine r_p (p_move rfl) rfl ?_
      refine r_p (p_bin rfl rfl b_lt) rfl ?_
      refine r_p (p_move rfl) rfl ?_
      refine r_gp [] rfl rfl trivial (fun hg3 => p_move rfl) rfl ?_
      refine r_gp [(22, _)] rfl rfl ⟨rfl, trivial⟩ (fun hg4 => p_move rfl) rfl ?_
      refine r_gp [(22, _), (23, _)] rfl rfl ⟨rfl, rfl, trivial⟩ (fun hg5 => p_max rfl rfl rfl) rfl ?_
      refine r_gp [(22, _), (23, _), (24, _)] rfl rfl ⟨rfl, rfl, rfl, trivial⟩ (fun hg6 => p_bin rfl rfl b_ge) rfl ?_
      refine r_p (p_pick rfl rfl rfl (by first | exact pick_and | exact pick_or |  rfl)) rfl ?_
      refine r_p (p_move rfl) rfl ?_
      refine r_gp [] rfl rfl trivial (fun hg7 => p_move rfl) rfl ?_
      refine r_gp [(28, _)] rfl rfl ⟨rfl, trivial⟩ (fun hg8 => p_bin rfl rfl b_eq) rfl ?_
      refine r_gp [(28, _), (29, _)] rfl rfl ⟨rfl, rfl, trivial⟩ (fun hg9 => p_move rfl) rfl ?_
      refine r_gp2 [] [(28, _), (29, _), (30, _)] rfl rfl trivial ⟨rfl, rfl, rfl, trivial⟩ (fun hg10 hg10' => p_move rfl) rfl ?_
      refine r_gp2 [(31, _)] [(28, _), (29, _), (30, _)] rfl rfl ⟨rfl, trivial⟩ ⟨rfl, rfl, rfl, trivial⟩ (fun hg11 hg11' => p_bin rfl rfl b_ne) rfl ?_
      refine r_gp [(28, _), (29, _), (30, _)] rfl rfl ⟨rfl, rfl, rfl, trivial⟩ (fun hg12 => p_pick rfl rfl rfl (by first | exact pick_and | exact pick_or | exact pick_and2 hg12 | exact pick_or2 hg12 | rfl)) rfl ?_
      refine r_p (p_pick rfl rfl rfl (by first | exact pick_and | exact pick_or |  rfl)) rfl ?_
      refine r_p (p_assign rfl) rfl ?_
      refine r_nil ?_
      refine r_cond rfl (fun h13 => ?_) (fun h13 => ?_)
      · (try simp only [decide_eq_true_eq, decide_eq_false_iff_not, Bool.and_eq_true, Bool.or_eq_true, Bool.and_eq_false_iff, Bool.or_eq_false_iff, Bool.not_eq_true, Bool.not_eq_false, Bool.not_eq_true', Bool.not_eq_false', Bool.not_not, bne_iff_ne, beq_iff_eq] at h13)
        refine r_seq ?_
        refine r_region ?_
        refine r_p (p_assign rfl) rfl ?_
        refine r_nil ?_
        refine r_cret ?_
        refine r_ret false ⟨fun h => (by cases h), fun h => (by exfalso; have := h.rng (i := k) hk; omega)⟩ rfl (rs1 (rv_tmp rfl)) rfl [] [] rfl rfl rfl
      · (try simp only [decide_eq_true_eq, decide_eq_false_iff_not, Bool.and_eq_true, Bool.or_eq_true, Bool.and_eq_false_iff, Bool.or_eq_false_iff, Bool.not_eq_true, Bool.not_eq_false, Bool.not_eq_true', Bool.not_eq_false', Bool.not_not, bne_iff_ne, beq_iff_eq] at h13)
        have hrg : -1 ≤ a k ∧ a k < max regs 0 ∧ (k = 19 → a k = -1) := by omega
        refine r_seq ?_
        refine r_region ?_
        refine r_p (p_move rfl) rfl ?_
        refine r_p (p_bin rfl rfl b_ge) rfl ?_
        refine r_p (p_assign rfl) rfl ?_
        refine r_nil ?_
        refine r_cond rfl (fun h14 => ?_) (fun h14 => ?_)
        · (try simp only [decide_eq_true_eq, decide_eq_false_iff_not, Bool.and_eq_true, Bool.or_eq_true, Bool.and_eq_false_iff, Bool.or_eq_false_iff, Bool.not_eq_true, Bool.not_eq_false, Bool.not_eq_true', Bool.not_eq_false', Bool.not_not, bne_iff_ne, beq_iff_eq] at h14)
          refine r_region ?_
          refine r_p (p_move rfl) rfl ?_
          refine r_p (p_move rfl) rfl ?_
          refine r_bslice1 eI (a k) Try.underlying22 t3 rfl (by decide) (by decide) rfl rfl rfl rfl fun v40 => ?_
          refine r_append 12 Try.underlying22 t3 rfl (by decide) (fun _ => rfl) (fun _ => rfl) rfl rfl rfl (hs_own (k := 40) rfl) (by have := spills_len a k; simp; omega) (by have := spills_len a k; unfold maxLen; simp; omega) rfl fun v41 => ?_
          refine r_p (p_assign rfl) rfl ?_
          refine r_nil ?_
          refine r_region ?_
          refine r_p (p_bin rfl rfl (b_add (by first | exact w_i64 (by omega) (by omega) | rfl))) rfl ?_
          refine r_p (p_move rfl) rfl ?_
          refine r_nil ?_
          refine r_conva (k := 5) rfl (arr_fg (seenB_same (.inr (by omega)))) ?_
          refine r_here (k + 1, _) ⟨⟨by dsimp only; omega, hst.succ hrg (fun i hi h0 h1 => by omega)⟩, by dsimp only; omega⟩ rfl (by rw [spills_succ, if_pos (by omega)]; rfl) rfl
        · (try simp only [decide_eq_true_eq, decide_eq_false_iff_not, Bool.and_eq_true, Bool.or_eq_true, Bool.and_eq_false_iff, Bool.or_eq_false_iff, Bool.not_eq_true, Bool.not_eq_false, Bool.not_eq_true', Bool.not_eq_false', Bool.not_not, bne_iff_ne, beq_iff_eq] at h14)
          refine r_seq ?_
          refine r_region ?_
          refine r_p (p_move rfl) rfl ?_
          refine r_p (p_bin rfl rfl b_ge) rfl ?_
          refine r_p (p_assign rfl) rfl ?_
          refine r_nil ?_
          refine r_cond rfl (fun h15 => ?_) (fun h15 => ?_)
          · (try simp only [decide_eq_true_eq, decide_eq_false_iff_not, Bool.and_eq_true, Bool.or_eq_true, Bool.and_eq_false_iff, Bool.or_eq_false_iff, Bool.not_eq_true, Bool.not_eq_false, Bool.not_eq_true', Bool.not_eq_false', Bool.not_not, bne_iff_ne, beq_iff_eq] at h15)
            refine r_seq ?_
            refine r_seq ?_
            refine r_region ?_
            refine r_p (p_move rfl) rfl ?_
            refine r_p (p_idx_arr1 (j := (a k).toNat) Try.underlying67 t4 rfl rfl (by first | rfl | omega) (by first | omega | (simp; done) | (simp; omega))) rfl ?_
            refine r_p (p_load1 t4 rfl rfl (g_arr1 (k := 5) rfl (by omega))) rfl ?_
            refine r_nil ?_
            refine r_cond rfl (fun h16 => ?_) (fun h16 => ?_)
            · (try simp only [decide_eq_true_eq, decide_eq_false_iff_not, Bool.and_eq_true, Bool.or_eq_true, Bool.and_eq_false_iff, Bool.or_eq_false_iff, Bool.not_eq_true, Bool.not_eq_false, Bool.not_eq_true', Bool.not_eq_false', Bool.not_not, bne_iff_ne, beq_iff_eq] at h16)
              have hse := (seenB_iff a k (a k).toNat).1 h16
              refine r_seq ?_
              refine r_region ?_
              refine r_p (p_assign rfl) rfl ?_
              refine r_nil ?_
              refine r_cret ?_
              refine r_ret false ⟨fun h => (by cases h), fun h => (by exfalso; obtain ⟨i, hi, e⟩ := hse; exact h.2 i k hi hk (by omega) (by omega))⟩ rfl (rs1 (rv_tmp rfl)) rfl [] [] rfl rfl rfl
            · (try simp only [decide_eq_true_eq, decide_eq_false_iff_not, Bool.and_eq_true, Bool.or_eq_true, Bool.and_eq_false_iff, Bool.or_eq_false_iff, Bool.not_eq_true, Bool.not_eq_false, Bool.not_eq_true', Bool.not_eq_false', Bool.not_not, bne_iff_ne, beq_iff_eq] at h16)
              have hns : ∀ i, i < k → 0 ≤ a i → a i < 28 → a i ≠ a k := fun i hi h0 h1 e => by
                rw [(seenB_iff a k (a k).toNat).2 ⟨i, hi, by omega⟩] at h16
                simp at h16
              refine r_skip ?_
              refine r_region ?_
              refine r_p (p_move rfl) rfl ?_
              refine r_p (p_idx_arr1 (j := (a k).toNat) Try.underlying67 t4 rfl rfl (by first | rfl | omega) (by first | omega | (simp; done) | (simp; omega))) rfl ?_
              refine r_store_arr (k := 5) t4 rfl rfl rfl rfl rfl (by omega) ?_
              refine r_nil ?_
              refine r_region ?_
              refine r_p (p_bin rfl rfl (b_add (by first | exact w_i64 (by omega) (by omega) | rfl))) rfl ?_
              refine r_p (p_move rfl) rfl ?_
              refine r_nil ?_
              refine r_here (k + 1, _) ⟨⟨by dsimp only; omega, hst.succ hrg hns⟩, by dsimp only; omega⟩ rfl (by rw [spills_succ, if_neg (by omega), List.append_nil, ← seenB_set (n := (a k).toNat) (by omega)]; rfl) rfl
          · (try simp only [decide_eq_true_eq, decide_eq_false_iff_not, Bool.and_eq_true, Bool.or_eq_true, Bool.and_eq_false_iff, Bool.or_eq_false_iff, Bool.not_eq_true, Bool.not_eq_false, Bool.not_eq_true', Bool.not_eq_false', Bool.not_not, bne_iff_ne, beq_iff_eq] at h15)
            refine r_skip ?_
            refine r_region ?_
            refine r_p (p_bin rfl rfl (b_add (by first | exact w_i64 (by omega) (by omega) | rfl))) rfl ?_
            refine r_p (p_move rfl) rfl ?_
            refine r_nil ?_
            refine r_conva (k := 5) rfl (arr_fg (seenB_same (.inl (by omega)))) ?_
            refine r_here (k + 1, _) ⟨⟨by dsimp only; omega, hst.succ hrg (fun i hi h0 h1 => by omega)⟩, by dsimp only; omega⟩ rfl (by rw [spills_succ, if_neg (by omega), List.append_nil]; rfl) rfl
    · (try simp only [decide_eq_true_eq, decide_eq_false_iff_not, Bool.and_eq_true, Bool.or_eq_true, Bool.and_eq_false_iff, Bool.or_eq_false_iff, Bool.not_eq_true, Bool.not_eq_false, Bool.not_eq_true', Bool.not_eq_false', Bool.not_not, bne_iff_ne, beq_iff_eq] at h2)
      have hk : k = 28 := by omega
      subst hk
      refine r_exit ?_
      refine r_seq ?_
      refine r_region ?_
      refine r_p (p_move rfl) rfl ?_
      refine r_call (xs := [.tmp 51]) (hsort _ _ hK) cb37 [12] [] [12] [] rfl rfl rfl rfl rfl rfl rfl rfl (fun _ _ => rfl) (fun _ _ _ => rfl) rfl (fun ys hys => ?_)
      have hyl := hys.1.length_eq
      have hsl := spills_len a 28
      refine r_nil ?_
      refine r_seq ?_
      refine r_region ?_
      refine r_p (p_move rfl) rfl ?_
      refine r_call (xs := [.tmp 53]) ((clone_spec _ ys (by omega)).ro1 (own_to_sl (T := 3))) cb39 [] [(true, 12)] [54] [] rfl rfl rfl rfl rfl rfl rfl rfl (fun _ _ => rfl) (fun _ _ _ => rfl) rfl (fun v54 _ => ?_)
      refine r_call (xs := [.tmp 54]) (compact_spec _ ys (by omega)) cb38 [54] [] [54] [] rfl rfl rfl rfl rfl rfl rfl rfl (fun _ _ => rfl) (fun _ _ _ => rfl) rfl (fun x55 hx55 => ?_)
      refine r_p (p_len_sl Try.underlying22 rfl (hs_own (k := 54) rfl)) rfl ?_
      refine r_p (p_move rfl) rfl ?_
      refine r_p (p_len_sl Try.underlying22 rfl (hs_own (k := 12) rfl)) rfl ?_
      refine r_p (p_bin rfl rfl b_eq) rfl ?_
      refine r_p (p_assign rfl) rfl ?_
      refine r_nil ?_
      refine r_cret ?_
      refine r_ret _ (by rw [← valid_end hst hys.1 hys.2, ← hx55.2, decide_eq_true_eq]; omega) rfl (rs1 (rv_tmp rfl)) rfl [] [] rfl rfl rfl

end Go.Proofs.Ytfdbkclbcajkiaa
