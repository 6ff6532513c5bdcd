/-
  The registers by the other road. Condition: at most 100,000 operations.
-/
import Derived.Test.YtfdbkclbcajkiaaD9
namespace Go.Proofs.Ytfdbkclbcajkiaa
set_option linter.unusedSimpArgs false
set_option linter.unusedVariables false
open Go.RowKit

set_option maxRecDepth 100000 in
set_option maxHeartbeats 1000000 in
theorem rassign_spec (va vp vo : SV) (ops : List OpR) (hl : ops.length ≤ 100000) (regs : Int) :
    Spec Try.prog 18 [.agg #[sv va, sv vp, sv vo], .int .i64 regs] [] [sl 5 eOp (sv vo) ops] (X := Unit) (fun _ => True) (fun _ => uA (asgU (uses ops) regs)) (fun _ => []) (fun _ => []) := by
  refine r_enter Try.func18 rfl Try.ntmps18 rfl fun w0 M H => ?_
  have hol := occ_len (uses ops) 28
  have hsl := srt_len (uses ops)
  have hub := uses_bd ops hl
  refine r_seq ?_
  refine r_region ?_
  refine r_boxA rfl rfl fun b2 => ?_
  refine r_alloc_arr (n := 28) (u := (.int .i64 0)) t33 rfl rfl fun b4 => ?_
  refine r_nil ?_
  refine r_seq ?_
  refine r_region ?_
  refine r_p (p_loadA t28 rfl rfl rfl (g_all (k := 2) rfl)) rfl ?_
  refine r_call (xs := [.tmp 10]) (ruses_spec va vp vo ops hl) cb16 [] [(false, 0)] [] [] rfl rfl rfl rfl rfl rfl rfl rfl (fun _ _ => rfl) (fun _ _ _ => rfl) rfl (fun _ _ => ?_)
  refine r_alloc_arr (n := 28) (u := (.int .i64 0)) t30 rfl rfl fun b5 => ?_
  refine r_store_arrAll (k := 5) t30 rfl rfl rfl (vi_one _) rfl ?_
  refine r_nil ?_
  refine r_seq ?_
  refine r_region ?_
  refine r_call (xs := []) rnone_spec cb34 [] [] [] [] rfl rfl rfl rfl rfl rfl rfl rfl (fun _ _ => rfl) (fun _ _ _ => rfl) rfl (fun _ _ => ?_)
  refine r_alloc_arr (n := 28) (u := (.int .i64 0)) t33 rfl rfl fun b6 => ?_
  refine r_store_arrAll (k := 6) t33 rfl rfl rfl (vi_one _) rfl ?_
  refine r_nil ?_
  refine r_seq ?_
  refine r_seq ?_
  refine r_region ?_
  refine r_p (p_assign rfl) rfl ?_
  refine r_nil ?_
  refine r_block ?_
  refine r_loop (X := Nat) (fun r => r ≤ (srt (uses ops)).length ∧ (r : Int) ≤ max 0 regs) (fun r => [(1, .int .i64 regs), (4, .pointer (some ⟨b4, 0, none⟩)), (5, .pointer (some ⟨b5, 0, none⟩)), (6, .pointer (some ⟨b6, 0, none⟩)), (7, .int .i64 (r : Int))]) (fun r => [(4, arr b4 33 28 (fun _ => .int .i64 0)), (5, arr b5 30 28 (vi (uses ops))), (6, arr b6 33 28 (vi (asg (srt (uses ops)) r)))]) (fun r => []) (fun r => (srt (uses ops)).length + 1 - r) 0 ⟨Nat.zero_le _, by omega⟩ rfl rfl rfl (fun r hr0 => ?_)
  refine r_seq ?_
  refine r_seq ?_
  refine r_region ?_
  refine r_p (p_move rfl) rfl ?_
  refine r_p (p_move rfl) rfl ?_
  refine r_p (p_bin rfl rfl b_lt) rfl ?_
  refine r_p (p_move rfl) rfl ?_
  refine r_gp [] rfl rfl trivial (fun hg1 => p_move rfl) rfl ?_
  refine r_gp [(17, _)] rfl rfl ⟨rfl, trivial⟩ (fun hg2 => p_bin rfl rfl b_lt) rfl ?_
  refine r_p (p_pick rfl rfl rfl (by first | exact pick_and | exact pick_or |  rfl)) rfl ?_
  refine r_nil ?_
  refine r_cond rfl (fun h3 => ?_) (fun h3 => ?_)
  · (try simp only [decide_eq_true_eq, decide_eq_false_iff_not, Bool.and_eq_true, Bool.or_eq_true, Bool.and_eq_false_iff, Bool.or_eq_false_iff, Bool.not_eq_true, Bool.not_eq_false, Bool.not_eq_true', Bool.not_eq_false', Bool.not_not, bne_iff_ne, beq_iff_eq] at h3)
    have hrr : (r : Int) < regs ∧ r < 28 := by omega
    refine r_skip ?_
    refine r_seq ?_
    refine r_block ?_
    refine r_seq ?_
    refine r_region ?_
    refine r_p (p_assign rfl) rfl ?_
    refine r_nil ?_
    refine r_seq ?_
    refine r_seq ?_
    refine r_region ?_
    refine r_p (p_assign rfl) rfl ?_
    refine r_nil ?_
    refine r_block ?_
    refine r_loop (X := Nat × Int) (fun x => x.1 ≤ 28 ∧ Best (uses ops) r x.1 x.2) (fun x => [(1, .int .i64 regs), (4, .pointer (some ⟨b4, 0, none⟩)), (5, .pointer (some ⟨b5, 0, none⟩)), (6, .pointer (some ⟨b6, 0, none⟩)), (7, .int .i64 (r : Int)), (8, .int .i64 x.2), (9, .int .i64 (x.1 : Int))]) (fun x => [(4, arr b4 33 28 (fun _ => .int .i64 0)), (5, arr b5 30 28 (vi (uses ops))), (6, arr b6 33 28 (vi (asg (srt (uses ops)) r)))]) (fun x => []) (fun x => 28 - x.1) (0, -1) ⟨Nat.zero_le _, Best.zero _ _⟩ rfl rfl rfl (fun ⟨v, b⟩ hv0 => ?_)
    obtain ⟨hv0, hb0⟩ := hv0
    dsimp only at hv0 hb0 ⊢
    have hbd := hb0.bd
    refine r_seq ?_
    refine r_seq ?_
    refine r_region ?_
    refine r_p (p_move rfl) rfl ?_
    refine r_p (p_bin rfl rfl b_lt) rfl ?_
    refine r_nil ?_
    refine r_cond rfl (fun h4 => ?_) (fun h4 => ?_)
    · (try simp only [decide_eq_true_eq, decide_eq_false_iff_not, Bool.and_eq_true, Bool.or_eq_true, Bool.and_eq_false_iff, Bool.or_eq_false_iff, Bool.not_eq_true, Bool.not_eq_false, Bool.not_eq_true', Bool.not_eq_false', Bool.not_not, bne_iff_ne, beq_iff_eq] at h4)
      have hv : v < 28 := by omega
      refine r_skip ?_
      refine r_seq ?_
      refine r_block ?_
      refine r_seq ?_
      refine r_draw [26, 27, 28, 29, 30, 31, 32, 33, 34, 35, 36, 37, 38, 39, 40, 41, 42, 43, 44, 45, 46, 47, 48] _ rfl (stg_end (V := [(0, 26, _), (1, 27, _), (2, 28, _), (3, 29, _), (4, 30, _), (5, 31, _), (6, 32, _), (7, 33, _), (8, 34, _), (9, 35, _), (10, 36, _), (11, 37, _), (12, 38, _), (13, 39, _), (14, 40, _), (15, 41, _), (16, 42, _), (17, 43, _), (18, 44, _), (19, 45, _), (20, 46, _), (21, 47, _), (22, 48, _)]) [0, 1, 2, 3, 4, 5, 6, 7, 8, 9, 10, 11, 12, 13, 14, 15, 16, 17, 18, 19, 20, 21, 22] rfl rfl (prs_cons (pri rfl (p_move rfl)) (prs_cons (pri rfl (p_idx_arr1 (j := v) Try.underlying33 t3 rfl rfl (by first | rfl | omega) (by first | omega | (simp; done) | (simp; omega)))) (prs_cons (pri rfl (p_load1 t3 rfl rfl (g_arr1 (k := 6) rfl (by omega)))) (prs_cons (pri rfl (p_bin rfl rfl b_lt)) (prs_cons (pri rfl (p_move rfl)) (prs_cons (prig_s [] rfl rfl rfl trivial (fun hg5 => p_move rfl)) (prs_cons (prig_s [(31, _)] rfl rfl rfl ⟨rfl, trivial⟩ (fun hg6 => p_idx_arr1 (j := v) Try.underlying30 t3 rfl rfl (by first | rfl | omega) (by first | omega | (simp; done) | (simp; omega)))) (prs_cons (prig_s [(32, _)] rfl rfl rfl ⟨rfl, trivial⟩ (fun hg7 => p_load1 t3 rfl rfl (g_arr1 (k := 5) rfl (by omega)))) (prs_cons (prig_s [(33, _)] rfl rfl rfl ⟨rfl, trivial⟩ (fun hg8 => p_bin rfl rfl b_gt)) (prs_cons (pri rfl (p_pick rfl rfl rfl (by first | exact pick_and | exact pick_or |  rfl))) (prs_cons (pri rfl (p_move rfl)) (prs_cons (prig_s [] rfl rfl rfl trivial (fun hg9 => p_move rfl)) (prs_cons (prig_s [(37, _)] rfl rfl rfl ⟨rfl, trivial⟩ (fun hg10 => p_bin rfl rfl b_lt)) (prs_cons (prig_s [(38, _)] rfl rfl rfl ⟨rfl, trivial⟩ (fun hg11 => p_move rfl)) (prs_cons (prig_s2 [] [(39, _)] rfl rfl rfl trivial ⟨rfl, trivial⟩ (fun hg12 hg12' => p_move rfl)) (prs_cons (prig_s2 [(40, _)] [(39, _)] rfl rfl rfl ⟨rfl, trivial⟩ ⟨rfl, trivial⟩ (fun hg13 hg13' => p_idx_arr1 (j := v) Try.underlying30 t3 rfl rfl (by first | rfl | omega) (by first | omega | (simp; done) | (simp; omega)))) (prs_cons (prig_s2 [(41, _)] [(39, _)] rfl rfl rfl ⟨rfl, trivial⟩ ⟨rfl, trivial⟩ (fun hg14 hg14' => p_load1 t3 rfl rfl (g_arr1 (k := 5) rfl (by omega)))) (prs_cons (prig_s2 [] [(39, _)] rfl rfl rfl trivial ⟨rfl, trivial⟩ (fun hg15 hg15' => p_move rfl)) (prs_cons (prig_s2 [(43, _)] [(39, _)] rfl rfl rfl ⟨rfl, trivial⟩ ⟨rfl, trivial⟩ (fun hg16 hg16' => p_idx_arr1 (j := b.toNat) Try.underlying30 t3 rfl rfl (by have hg0 := hg16'; simp [gb] at hg0; omega) (by have hg0 := hg16'; simp [gb] at hg0; omega))) (prs_cons (prig_s2 [(44, _)] [(39, _)] rfl rfl rfl ⟨rfl, trivial⟩ ⟨rfl, trivial⟩ (fun hg17 hg17' => p_load1 t3 rfl rfl (g_arr1 (k := 5) rfl (by omega)))) (prs_cons (prig_s2 [(42, _), (45, _)] [(39, _)] rfl rfl rfl ⟨rfl, rfl, trivial⟩ ⟨rfl, trivial⟩ (fun hg18 hg18' => p_bin rfl rfl b_gt)) (prs_cons (prig_s [(39, _)] rfl rfl rfl ⟨rfl, trivial⟩ (fun hg19 => p_pick rfl rfl rfl (by first | exact pick_and | exact pick_or | exact pick_and2 hg19 | exact pick_or2 hg19 | rfl))) (prs_cons (pri rfl (p_pick rfl rfl rfl (by first | exact pick_and | exact pick_or |  rfl))) prs_nil))))))))))))))))))))))) rfl rfl rfl ?_)
      refine r_cond rfl (fun h20 => ?_) (fun h20 => ?_)
      · (try simp only [decide_eq_true_eq, decide_eq_false_iff_not, Bool.and_eq_true, Bool.or_eq_true, Bool.and_eq_false_iff, Bool.or_eq_false_iff, Bool.not_eq_true, Bool.not_eq_false, Bool.not_eq_true', Bool.not_eq_false', Bool.not_not, bne_iff_ne, beq_iff_eq] at h20)
        have hc3 : asg (srt (uses ops)) r v < 0 ∧ 0 < uses ops v ∧ (b < 0 ∨ uses ops v > uses ops b.toNat) := by simpa [vi, and_assoc] using h20
        refine r_region ?_
        refine r_p (p_move rfl) rfl ?_
        refine r_p (p_assign rfl) rfl ?_
        refine r_nil ?_
        refine r_region ?_
        refine r_p (p_move rfl) rfl ?_
        refine r_p (p_bin rfl rfl (b_add (by first | exact w_i64 (by omega) (by omega) | rfl))) rfl ?_
        refine r_p (p_assign rfl) rfl ?_
        refine r_nil ?_
        refine r_here (v + 1, _) ⟨⟨by dsimp only; omega, hb0.take hc3.1 hc3.2.1 hc3.2.2⟩, by dsimp only; omega⟩ rfl rfl rfl
      · (try simp only [decide_eq_true_eq, decide_eq_false_iff_not, Bool.and_eq_true, Bool.or_eq_true, Bool.and_eq_false_iff, Bool.or_eq_false_iff, Bool.not_eq_true, Bool.not_eq_false, Bool.not_eq_true', Bool.not_eq_false', Bool.not_not, bne_iff_ne, beq_iff_eq] at h20)
        have hc3 : ¬ (asg (srt (uses ops)) r v < 0 ∧ 0 < uses ops v ∧ (b < 0 ∨ uses ops v > uses ops b.toNat)) := by
          simp [vi] at h20
          omega
        refine r_skip ?_
        refine r_region ?_
        refine r_p (p_move rfl) rfl ?_
        refine r_p (p_bin rfl rfl (b_add (by first | exact w_i64 (by omega) (by omega) | rfl))) rfl ?_
        refine r_p (p_assign rfl) rfl ?_
        refine r_nil ?_
        refine r_here (v + 1, _) ⟨⟨by dsimp only; omega, hb0.skip hc3⟩, by dsimp only; omega⟩ rfl rfl rfl
    · (try simp only [decide_eq_true_eq, decide_eq_false_iff_not, Bool.and_eq_true, Bool.or_eq_true, Bool.and_eq_false_iff, Bool.or_eq_false_iff, Bool.not_eq_true, Bool.not_eq_false, Bool.not_eq_true', Bool.not_eq_false', Bool.not_not, bne_iff_ne, beq_iff_eq] at h4)
      have hv : v = 28 := by omega
      subst hv
      have hdn := hb0.done hr0.1
      refine r_exit ?_
      refine r_seq ?_
      refine r_seq ?_
      refine r_region ?_
      refine r_p (p_move rfl) rfl ?_
      refine r_p (p_bin rfl rfl b_lt) rfl ?_
      refine r_nil ?_
      refine r_cond rfl (fun h21 => ?_) (fun h21 => ?_)
      · (try simp only [decide_eq_true_eq, decide_eq_false_iff_not, Bool.and_eq_true, Bool.or_eq_true, Bool.and_eq_false_iff, Bool.or_eq_false_iff, Bool.not_eq_true, Bool.not_eq_false, Bool.not_eq_true', Bool.not_eq_false', Bool.not_not, bne_iff_ne, beq_iff_eq] at h21)
        have hr9 : r = cut regs (srt (uses ops)).length := by
          rcases Nat.lt_or_eq_of_le hr0.1 with h9 | h9
          · have := hdn.1 h9
            have := (srt_in (uses ops)).get (j := r) h9
            omega
          · unfold cut; omega
        subst hr9
        refine r_exit ?_
        refine r_seq ?_
        refine r_region ?_
        refine r_p (p_loadA t33 rfl rfl (by simp) (g_arr (k := 6) rfl)) rfl ?_
        refine r_store_arrAll (k := 4) t33 rfl rfl rfl (vi_one _) rfl ?_
        refine r_nil ?_
        refine r_cret ?_
        refine r_ret () trivial rfl (rs1 (rv_cellA t33 rfl rfl (by simp) (g_arr (k := 4) rfl))) rfl [] [] rfl rfl rfl
      · (try simp only [decide_eq_true_eq, decide_eq_false_iff_not, Bool.and_eq_true, Bool.or_eq_true, Bool.and_eq_false_iff, Bool.or_eq_false_iff, Bool.not_eq_true, Bool.not_eq_false, Bool.not_eq_true', Bool.not_eq_false', Bool.not_not, bne_iff_ne, beq_iff_eq] at h21)
        have hlt : r < (srt (uses ops)).length := by
          rcases Nat.lt_or_eq_of_le hr0.1 with h9 | h9
          · exact h9
          · have := hdn.2 h9
            omega
        have hbe := hdn.1 hlt
        subst hbe
        have hin := (srt_in (uses ops)).get (j := r) hlt
        refine r_skip ?_
        refine r_region ?_
        refine r_p (p_move rfl) rfl ?_
        refine r_p (p_move rfl) rfl ?_
        refine r_p (p_idx_arr1 (j := ((srt (uses ops)).getD r 0).toNat) Try.underlying33 t3 rfl rfl (by omega) (by omega)) rfl ?_
        refine r_store_arr (k := 6) t3 rfl rfl rfl rfl rfl (by omega) ?_
        refine r_nil ?_
        refine r_region ?_
        refine r_p (p_move rfl) rfl ?_
        refine r_p (p_bin rfl rfl (b_add (by first | exact w_i64 (by omega) (by omega) | rfl))) rfl ?_
        refine r_p (p_assign rfl) rfl ?_
        refine r_nil ?_
        refine r_here (r + 1) ⟨⟨by omega, by omega⟩, by omega⟩ rfl (by rw [← asg_succ]; rfl) rfl
  · (try simp only [decide_eq_true_eq, decide_eq_false_iff_not, Bool.and_eq_true, Bool.or_eq_true, Bool.and_eq_false_iff, Bool.or_eq_false_iff, Bool.not_eq_true, Bool.not_eq_false, Bool.not_eq_true', Bool.not_eq_false', Bool.not_not, bne_iff_ne, beq_iff_eq] at h3)
    have hr9 : r = cut regs (srt (uses ops)).length := by unfold cut; omega
    subst hr9
    refine r_exit ?_
    refine r_seq ?_
    refine r_region ?_
    refine r_p (p_loadA t33 rfl rfl (by simp) (g_arr (k := 6) rfl)) rfl ?_
    refine r_store_arrAll (k := 4) t33 rfl rfl rfl (vi_one _) rfl ?_
    refine r_nil ?_
    refine r_cret ?_
    refine r_ret () trivial rfl (rs1 (rv_cellA t33 rfl rfl (by simp) (g_arr (k := 4) rfl))) rfl [] [] rfl rfl rfl

end Go.Proofs.Ytfdbkclbcajkiaa
