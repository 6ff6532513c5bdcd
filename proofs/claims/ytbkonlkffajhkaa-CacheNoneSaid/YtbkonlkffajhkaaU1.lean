/-
  Insertion sort of integers. No condition.
-/
import Derived.Test.YtbkonlkffajhkaaS9
import Derived.Test.YtbkonlkffajhkaaF
import Derived.Test.YtbkonlkffajhkaaKB
namespace Go.Proofs.Ytbkonlkffajhkaa
set_option linter.unusedSimpArgs false
set_option linter.unusedVariables false
open Go.RowKit

def eU (x : Int) : List Value := [.int .u32 x]
def ltI (x y : Int) : Bool := decide (x < y)

set_option maxRecDepth 100000 in
theorem nan_spec (x : Int) :
    Spec Try.prog 95 [.int .u32 x] [] [] (X := Unit) (fun _ => True) (fun _ => .bool false) (fun _ => []) (fun _ => []) := by
  refine r_enter Try.func95 rfl Try.ntmps95 rfl fun w0 M H => ?_
  refine r_seq ?_
  refine r_region ?_
  refine r_p (p_assign rfl) rfl ?_
  refine r_nil ?_
  refine r_seq ?_
  refine r_region ?_
  refine r_p (p_move rfl) rfl ?_
  refine r_p (p_move rfl) rfl ?_
  refine r_p (p_bin rfl rfl b_ne) rfl ?_
  refine r_p (p_assign rfl) rfl ?_
  refine r_nil ?_
  refine r_cret ?_
  refine r_ret () trivial rfl (rs1 (rv_tmp rfl)) (congrArg Value.bool (by simp)) [] [] rfl rfl rfl
set_option maxRecDepth 100000 in
theorem less_spec (x y : Int) :
    Spec Try.prog 87 [.int .u32 x, .int .u32 y] [] [] (X := Unit) (fun _ => True) (fun _ => .bool (ltI x y)) (fun _ => []) (fun _ => []) := by
  refine r_enter Try.func87 rfl Try.ntmps87 rfl fun w0 M H => ?_
  refine r_seq ?_
  refine r_region ?_
  refine r_p (p_assign rfl) rfl ?_
  refine r_nil ?_
  refine r_seq ?_
  refine r_region ?_
  refine r_p (p_move rfl) rfl ?_
  refine r_call (xs := [.tmp 5]) (nan_spec x) cb95 [] [] [] [] rfl rfl rfl rfl rfl rfl rfl rfl (fun _ _ => rfl) (fun _ _ _ => rfl) rfl (fun _ _ => ?_)
  refine r_p (p_move rfl) rfl ?_
  refine r_split (t := 7) rfl (fun h1 => ?_) (fun h1 => ?_)
  · (try simp only [decide_eq_true_eq, decide_eq_false_iff_not, Bool.and_eq_true, Bool.or_eq_true, Bool.and_eq_false_iff, Bool.or_eq_false_iff, Bool.not_eq_true, Bool.not_eq_false, Bool.not_eq_true', Bool.not_eq_false', Bool.not_not, bne_iff_ne, beq_iff_eq] at h1)
    refine r_gyes rfl rfl ?_
    refine r_p (p_move rfl) rfl ?_
    refine r_gyes rfl rfl ?_
    refine r_call (xs := [.tmp 8]) (nan_spec y) cb95 [] [] [] [] rfl rfl rfl rfl rfl rfl rfl rfl (fun _ _ => rfl) (fun _ _ _ => rfl) rfl (fun _ _ => ?_)
    refine r_gyes rfl rfl ?_
    refine r_p (p_not rfl) rfl ?_
    refine r_p (p_pick rfl rfl rfl (by first | exact pick_and | exact pick_or |  rfl)) rfl ?_
    refine r_p (p_move rfl) rfl ?_
    refine r_gp [] rfl rfl trivial (fun hg2 => p_move rfl) rfl ?_
    refine r_gp [(13, _)] rfl rfl ⟨rfl, trivial⟩ (fun hg3 => p_move rfl) rfl ?_
    refine r_gp [(13, _), (14, _)] rfl rfl ⟨rfl, rfl, trivial⟩ (fun hg4 => p_bin rfl rfl b_lt) rfl ?_
    refine r_p (p_pick rfl rfl rfl (by first | exact pick_and | exact pick_or |  rfl)) rfl ?_
    refine r_p (p_assign rfl) rfl ?_
    refine r_nil ?_
    refine r_cret ?_
    refine r_ret () trivial rfl (rs1 (rv_tmp rfl)) (congrArg Value.bool (by first | contradiction | simp [ltI])) [] [] rfl rfl rfl
  · (try simp only [decide_eq_true_eq, decide_eq_false_iff_not, Bool.and_eq_true, Bool.or_eq_true, Bool.and_eq_false_iff, Bool.or_eq_false_iff, Bool.not_eq_true, Bool.not_eq_false, Bool.not_eq_true', Bool.not_eq_false', Bool.not_not, bne_iff_ne, beq_iff_eq] at h1)
    refine r_gno rfl rfl rfl rfl ?_
    refine r_gno rfl rfl rfl rfl ?_
    refine r_gno rfl rfl rfl rfl ?_
    refine r_p (p_pick rfl rfl rfl (by first | exact pick_and | exact pick_or |  rfl)) rfl ?_
    refine r_p (p_move rfl) rfl ?_
    refine r_gp [] rfl rfl trivial (fun hg5 => p_move rfl) rfl ?_
    refine r_gp [(13, _)] rfl rfl ⟨rfl, trivial⟩ (fun hg6 => p_move rfl) rfl ?_
    refine r_gp [(13, _), (14, _)] rfl rfl ⟨rfl, rfl, trivial⟩ (fun hg7 => p_bin rfl rfl b_lt) rfl ?_
    refine r_p (p_pick rfl rfl rfl (by first | exact pick_and | exact pick_or |  rfl)) rfl ?_
    refine r_p (p_assign rfl) rfl ?_
    refine r_nil ?_
    refine r_cret ?_
    refine r_ret () trivial rfl (rs1 (rv_tmp rfl)) (congrArg Value.bool (by first | contradiction | simp [ltI])) [] [] rfl rfl rfl
set_option maxRecDepth 100000 in
theorem insO_spec (v : SV) (xs : List Int) (a b : Nat) (ha : a ≤ b) (hbl : b ≤ xs.length) (hl : xs.length ≤ 1000) :
    Spec Try.prog 81 [sv v, .int .i64 (a : Int), .int .i64 (b : Int)] [own 30 1 eU (sv v) xs] [] (X := Unit) (fun _ => True) (fun _ => .tuple #[]) (fun _ => [own 30 1 eU (sv v) (insSort 0 ltI xs a b)]) (fun _ => []) := by
  refine r_enter Try.func81 rfl Try.ntmps81 rfl fun w0 M H => ?_
  refine r_seq ?_
  refine r_region ?_
  refine r_p (p_move rfl) rfl ?_
  refine r_p (p_bin rfl rfl (b_add (by first | exact w_i64 (by omega) (by omega) | rfl))) rfl ?_
  refine r_p (p_assign rfl) rfl ?_
  refine r_nil ?_
  refine r_block ?_
  refine r_loop (X := Nat × List Int) (fun x => a + 1 ≤ x.1 ∧ (x.1 ≤ b ∨ b = a) ∧ x.2.length = xs.length ∧ insOut 0 ltI a (b - x.1) x.1 x.2 = insSort 0 ltI xs a b) (fun x => [(0, sv v), (1, .int .i64 (a : Int)), (2, .int .i64 (b : Int)), (6, .int .i64 (x.1 : Int))]) (fun x => [(0, own 30 1 eU (sv v) x.2)]) (fun x => []) (fun x => b - x.1) (a + 1, xs) ⟨by dsimp only; omega, by dsimp only; omega, rfl, rfl⟩ rfl rfl rfl (fun ⟨i, ys⟩ hx => ?_)
  obtain ⟨hi, hib, hy, hr⟩ := hx
  dsimp only at hi hib hy hr ⊢
  refine r_seq ?_
  refine r_seq ?_
  refine r_region ?_
  refine r_p (p_move rfl) rfl ?_
  refine r_p (p_move rfl) rfl ?_
  refine r_p (p_bin rfl rfl b_lt) rfl ?_
  refine r_nil ?_
  refine r_cond rfl (fun h1 => ?_) (fun h1 => ?_)
  · (try simp only [decide_eq_true_eq, decide_eq_false_iff_not, Bool.and_eq_true, Bool.or_eq_true, Bool.and_eq_false_iff, Bool.or_eq_false_iff, Bool.not_eq_true, Bool.not_eq_false, Bool.not_eq_true', Bool.not_eq_false', Bool.not_not, bne_iff_ne, beq_iff_eq] at h1)
    have hilt : i < b := by omega
    refine r_skip ?_
    refine r_seq ?_
    refine r_block ?_
    refine r_seq ?_
    refine r_region ?_
    refine r_p (p_move rfl) rfl ?_
    refine r_p (p_assign rfl) rfl ?_
    refine r_nil ?_
    refine r_block ?_
    refine r_loop (X := Nat × List Int) (fun x => a ≤ x.1 ∧ x.1 ≤ i ∧ x.2.length = xs.length ∧ insIn 0 ltI a x.1 x.2 = insIn 0 ltI a i ys) (fun x => [(0, sv v), (1, .int .i64 (a : Int)), (2, .int .i64 (b : Int)), (6, .int .i64 (i : Int)), (7, .int .i64 (x.1 : Int))]) (fun x => [(0, own 30 1 eU (sv v) x.2)]) (fun x => []) (fun x => x.1) (i, ys) ⟨by dsimp only; omega, Nat.le_refl _, hy, rfl⟩ rfl rfl rfl (fun ⟨j, zs⟩ hx2 => ?_)
    obtain ⟨hj, hji, hz, hin⟩ := hx2
    dsimp only at hj hji hz hin ⊢
    refine r_seq ?_
    refine r_seq ?_
    by_cases h2 : a < j
    · refine r_draw [16, 17, 18, 19, 20, 21, 22, 23, 24, 25, 26, 27, 28, 29, 30] _ rfl (stg_memg (V := [(0, 16, _), (1, 17, _), (2, 18, _), (3, 19, _), (4, 20, _), (5, 21, _), (6, 22, _), (7, 23, _), (8, 24, _), (9, 25, _), (10, 26, _), (11, 27, _), (12, 28, _)]) [0, 1, 2, 3, 4, 5, 6, 7, 8, 9, 10, 11, 12] 13 [13, 12, 11, 10, 9, 8, 7, 6, 5, 4, 3, 2, 1, 0] [14] (fun x29 => [(14, 30, _)]) rfl rfl (prs_cons (pri rfl (p_move rfl)) (prs_cons (pri rfl (p_move rfl)) (prs_cons (pri rfl (p_bin rfl rfl b_gt)) (prs_cons (pri rfl (p_move rfl)) (prs_cons (prig_y rfl rfl rfl (decide_eq_true (by omega)) (p_move rfl)) (prs_cons (prig_y rfl rfl rfl (decide_eq_true (by omega)) (p_move rfl)) (prs_cons (prig_y rfl rfl rfl (decide_eq_true (by omega)) (p_idx_sl (j := j) Try.underlying44 t30 rfl rfl (hs_own (k := 0) rfl) (by omega) (by first | omega | (simp; omega)))) (prs_cons (prig_y rfl rfl rfl (decide_eq_true (by omega)) (p_load1 t30 rfl rfl (g_el' (hs_own (k := 0) rfl) (by intro _; rfl) (getD_get 0 (by first | omega | (simp; omega))) (by rfl)))) (prs_cons (prig_y rfl rfl rfl (decide_eq_true (by omega)) (p_move rfl)) (prs_cons (prig_y rfl rfl rfl (decide_eq_true (by omega)) (p_move rfl)) (prs_cons (prig_y rfl rfl rfl (decide_eq_true (by omega)) (p_bin rfl rfl (b_sub (by first | exact w_i64 (by omega) (by omega) | rfl)))) (prs_cons (prig_y rfl rfl rfl (decide_eq_true (by omega)) (p_idx_sl (j := (j - 1)) Try.underlying44 t30 rfl rfl (hs_own (k := 0) rfl) (by omega) (by first | omega | (simp; omega)))) (prs_cons (prig_y rfl rfl rfl (decide_eq_true (by omega)) (p_load1 t30 rfl rfl (g_el' (hs_own (k := 0) rfl) (by intro _; rfl) (getD_get 0 (by first | omega | (simp; omega))) (by rfl)))) prs_nil))))))))))))) rfl rfl rfl rfl rfl (decide_eq_true (by omega)) rfl rfl rfl rfl rfl rfl (fun _ _ => rfl) rfl (ms_call (xs := [.tmp 23, .tmp 28]) (less_spec _ _) cb87 [] [] [] [] rfl rfl rfl rfl rfl rfl rfl rfl (fun _ _ => rfl) (fun _ _ _ => rfl)) (fun x29 hx29 => stg_end [14] rfl rfl (prs_cons (pri rfl (p_pick rfl rfl rfl (pick_t (decide_eq_true (by omega))))) prs_nil) rfl rfl rfl ?_))
      refine r_cond rfl (fun h3 => ?_) (fun h3 => ?_)
      · (try simp only [decide_eq_true_eq, decide_eq_false_iff_not, Bool.and_eq_true, Bool.or_eq_true, Bool.and_eq_false_iff, Bool.or_eq_false_iff, Bool.not_eq_true, Bool.not_eq_false, Bool.not_eq_true', Bool.not_eq_false', Bool.not_not, bne_iff_ne, beq_iff_eq] at h3)
        have hless : ltI (zs.getD j 0) (zs.getD (j - 1) 0) = true := h3
        refine r_skip ?_
        refine r_seq ?_
        refine r_block ?_
        refine r_drawM [0, 1, 2, 3, 4, 5, 6, 7, 8, 9, 10, 11, 12, 13, 14, 15, 16, 17] [0, 1, 13, 14, 15, 2, 3, 4, 5, 6, 7, 8, 9, 10, 11, 12, 16, 17] [33, 34, 35, 36, 37, 38, 39, 40, 41, 42, 43, 44, 45, 46, 47, 48] _ rfl rfl rfl (stg_mem0 (V := [(0, 33, _), (1, 34, _), (2, 35, _), (3, 36, _), (4, 37, _), (5, 38, _), (6, 39, _), (7, 40, _), (8, 41, _), (9, 42, _), (10, 43, _), (11, 44, _), (12, 45, _), (13, 46, _), (14, 47, _)]) [0, 1, 2, 3, 4, 5, 6, 7, 8, 9, 10, 11, 12, 13, 14] 15 [15, 14, 13, 12, 11, 10, 9, 8, 7, 6, 5, 1, 0] [16] (fun _ => [(16, 48, _)]) rfl rfl (prs_cons (pri rfl (p_move rfl)) (prs_cons (pri rfl (p_move rfl)) (prs_cons (pri rfl (p_move rfl)) (prs_cons (pri rfl (p_move rfl)) (prs_cons (pri rfl (p_bin rfl rfl (b_sub (by first | exact w_i64 (by omega) (by omega) | rfl)))) (prs_cons (pri rfl (p_move rfl)) (prs_cons (pri rfl (p_move rfl)) (prs_cons (pri rfl (p_bin rfl rfl (b_sub (by first | exact w_i64 (by omega) (by omega) | rfl)))) (prs_cons (pri rfl (p_idx_sl (j := (j - 1)) Try.underlying44 t30 rfl rfl (hs_own (k := 0) rfl) (by omega) (by first | omega | (simp; omega)))) (prs_cons (pri rfl (p_load1 t30 rfl rfl (g_el' (hs_own (k := 0) rfl) (by intro _; rfl) (getD_get 0 (by first | omega | (simp; omega))) (by rfl)))) (prs_cons (pri rfl (p_move rfl)) (prs_cons (pri rfl (p_move rfl)) (prs_cons (pri rfl (p_idx_sl (j := j) Try.underlying44 t30 rfl rfl (hs_own (k := 0) rfl) (by omega) (by first | omega | (simp; omega)))) (prs_cons (pri rfl (p_load1 t30 rfl rfl (g_el' (hs_own (k := 0) rfl) (by intro _; rfl) (getD_get 0 (by first | omega | (simp; omega))) (by rfl)))) (prs_cons (pri rfl (p_idx_sl (j := j) Try.underlying44 t30 rfl rfl (hs_own (k := 0) rfl) (by omega) (by first | omega | (simp; omega)))) prs_nil))))))))))))))) rfl rfl rfl rfl rfl rfl rfl rfl rfl (fun _ _ => rfl) rfl (ms_store_el (k := 0) t30 rfl rfl rfl (by intro _; rfl) (getD_get 0 (by first | omega | (simp; omega))) rfl rfl) (fun _ _ => stg_mem0 [16, 2, 3, 4] 17 [17, 16, 15, 14, 13, 12, 11, 10, 9, 8, 7, 6, 5, 4, 3, 2, 1, 0] [] (fun _ => []) rfl rfl (prs_cons (pri rfl (p_idx_sl (j := (j - 1)) Try.underlying44 t30 rfl rfl (hs_own (k := 0) rfl) (by omega) (by first | omega | (simp; omega)))) (prs_cons (pri rfl (p_move rfl)) (prs_cons (pri rfl (p_move rfl)) (prs_cons (pri rfl (p_bin rfl rfl (b_sub (by first | exact w_i64 (by omega) (by omega) | rfl)))) prs_nil)))) rfl rfl rfl rfl rfl rfl rfl rfl rfl (fun _ _ => rfl) rfl (ms_store_el (k := 0) t30 rfl rfl rfl (by intro _; rfl) (getD_get 0 (by first | omega | (simp; omega))) rfl rfl) (fun _ _ => stg_end [] rfl rfl prs_nil rfl rfl rfl ?_)))
        refine r_region ?_
        refine r_p (p_move rfl) rfl ?_
        refine r_p (p_bin rfl rfl (b_sub (by first | exact w_i64 (by omega) (by omega) | rfl))) rfl ?_
        refine r_p (p_assign rfl) rfl ?_
        refine r_nil ?_
        refine r_here (j - 1, sw 0 zs j (j - 1)) ⟨⟨by dsimp only; omega, by dsimp only; omega, by simp only [sw_len, hz], ?_⟩, by dsimp only; omega⟩ (by rw [show ((j - 1 : Nat) : Int) = j - 1 by omega]; rfl) rfl rfl
        dsimp only
        rw [← hin, insIn_go 0 ltI (by omega) hless]
      · (try simp only [decide_eq_true_eq, decide_eq_false_iff_not, Bool.and_eq_true, Bool.or_eq_true, Bool.and_eq_false_iff, Bool.or_eq_false_iff, Bool.not_eq_true, Bool.not_eq_false, Bool.not_eq_true', Bool.not_eq_false', Bool.not_not, bne_iff_ne, beq_iff_eq] at h3)
        have hstop : ¬ (a < j ∧ ltI (zs.getD j 0) (zs.getD (j - 1) 0) = true) := by rw [h3]; simp
        refine r_exit ?_
        refine r_region ?_
        refine r_p (p_move rfl) rfl ?_
        refine r_p (p_bin rfl rfl (b_add (by first | exact w_i64 (by omega) (by omega) | rfl))) rfl ?_
        refine r_p (p_assign rfl) rfl ?_
        refine r_nil ?_
        refine r_here (i + 1, zs) ⟨⟨by dsimp only; omega, by dsimp only; omega, hz, ?_⟩, by dsimp only; omega⟩ rfl rfl rfl
        dsimp only
        rw [← hr, show b - i = (b - (i + 1)) + 1 by omega, insOut, ← hin, insIn_stop 0 _ hstop]
    · refine r_draw [16, 17, 18, 19, 20, 21, 22, 23, 24, 25, 26, 27, 28, 29, 30] _ rfl (stg_end (V := [(0, 16, _), (1, 17, _), (2, 18, _), (3, 19, _), (4, 20, _), (5, 21, _), (6, 22, _), (7, 23, _), (8, 24, _), (9, 25, _), (10, 26, _), (11, 27, _), (12, 28, _), (13, 29, _), (14, 30, _)]) [0, 1, 2, 3, 4, 5, 6, 7, 8, 9, 10, 11, 12, 13, 14] rfl rfl (prs_cons (pri rfl (p_move rfl)) (prs_cons (pri rfl (p_move rfl)) (prs_cons (pri rfl (p_bin rfl rfl b_gt)) (prs_cons (pri rfl (p_move rfl)) (prs_cons (prig_n rfl rfl rfl (decide_eq_false (by omega))) (prs_cons (prig_n rfl rfl rfl (decide_eq_false (by omega))) (prs_cons (prig_n rfl rfl rfl (decide_eq_false (by omega))) (prs_cons (prig_n rfl rfl rfl (decide_eq_false (by omega))) (prs_cons (prig_n rfl rfl rfl (decide_eq_false (by omega))) (prs_cons (prig_n rfl rfl rfl (decide_eq_false (by omega))) (prs_cons (prig_n rfl rfl rfl (decide_eq_false (by omega))) (prs_cons (prig_n rfl rfl rfl (decide_eq_false (by omega))) (prs_cons (prig_n rfl rfl rfl (decide_eq_false (by omega))) (prs_cons (prig_n rfl rfl rfl (decide_eq_false (by omega))) (prs_cons (pri rfl (p_pick rfl rfl rfl (pick_f (decide_eq_false (by omega))))) prs_nil))))))))))))))) rfl rfl rfl ?_)
      refine r_cond rfl (fun h4 => ?_) (fun h4 => ?_)
      · exact absurd h4 (by simp)
      · (try simp only [decide_eq_true_eq, decide_eq_false_iff_not, Bool.and_eq_true, Bool.or_eq_true, Bool.and_eq_false_iff, Bool.or_eq_false_iff, Bool.not_eq_true, Bool.not_eq_false, Bool.not_eq_true', Bool.not_eq_false', Bool.not_not, bne_iff_ne, beq_iff_eq] at h4)
        have hstop : ¬ (a < j ∧ ltI (zs.getD j 0) (zs.getD (j - 1) 0) = true) := by omega
        refine r_exit ?_
        refine r_region ?_
        refine r_p (p_move rfl) rfl ?_
        refine r_p (p_bin rfl rfl (b_add (by first | exact w_i64 (by omega) (by omega) | rfl))) rfl ?_
        refine r_p (p_assign rfl) rfl ?_
        refine r_nil ?_
        refine r_here (i + 1, zs) ⟨⟨by dsimp only; omega, by dsimp only; omega, hz, ?_⟩, by dsimp only; omega⟩ rfl rfl rfl
        dsimp only
        rw [← hr, show b - i = (b - (i + 1)) + 1 by omega, insOut, ← hin, insIn_stop 0 _ hstop]
  · (try simp only [decide_eq_true_eq, decide_eq_false_iff_not, Bool.and_eq_true, Bool.or_eq_true, Bool.and_eq_false_iff, Bool.or_eq_false_iff, Bool.not_eq_true, Bool.not_eq_false, Bool.not_eq_true', Bool.not_eq_false', Bool.not_not, bne_iff_ne, beq_iff_eq] at h1)
    have hb0 : b - i = 0 := by omega
    rw [hb0, insOut] at hr
    refine r_exit ?_
    refine r_end () trivial rfl rs0 rfl [0] [] rfl ?_ rfl
    rw [← hr]
    rfl

end Go.Proofs.Ytbkonlkffajhkaa
