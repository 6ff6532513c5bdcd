/-
  What take gives. Conditions: the modulus is from 1 to a million, and at most a million numbers were taken.
-/
import Derived.Test.YtfdbkclbcajkiaaC1
namespace Go.Proofs.Ytfdbkclbcajkiaa
set_option linter.unusedSimpArgs false
set_option linter.unusedVariables false
open Go.RowKit

set_option maxRecDepth 100000 in
theorem take_spec (b : Nat) (vs : SV) (s : List Int) (k : Nat) (n : Int) (hn : 0 < n) (hn2 : n ≤ 1000000) (hk : k ≤ 1000000) :
    Spec Try.prog 35 [.pointer (some ⟨b, 0, none⟩), .int .i64 n] [row b 64 [sv vs, .int .i64 (k : Int)]] [sl 1 eI (sv vs) s] (X := Unit) (fun _ => True) (fun _ => .int .i64 (tk s k n)) (fun _ => [row b 64 [sv vs, .int .i64 ((k + 1 : Nat) : Int)]]) (fun _ => []) := by
  refine r_enter Try.func35 rfl Try.ntmps35 rfl fun w0 M H => ?_
  refine r_seq ?_
  refine r_region ?_
  refine r_p (p_assign rfl) rfl ?_
  refine r_nil ?_
  refine r_seq ?_
  refine r_region ?_
  refine r_p (p_assign rfl) rfl ?_
  refine r_nil ?_
  refine r_seq ?_
  refine r_seq ?_
  refine r_draw [6, 7, 8, 9, 10, 11, 12, 13, 14, 15] _ rfl (stg_end (V := [(0, 6, _), (1, 7, _), (2, 8, _), (3, 9, _), (4, 10, _), (5, 11, _), (6, 12, _), (7, 13, _), (8, 14, _), (9, 15, _)]) [0, 1, 2, 3, 4, 5, 6, 7, 8, 9] rfl rfl (prs_cons (pri rfl (p_move rfl)) (prs_cons (pri rfl (p_nilCheck rfl)) (prs_cons (pri rfl (p_field0 fo64_1 rfl)) (prs_cons (pri rfl (p_load1 t3 rfl rfl (g_row1 (k := 0) rfl rfl))) (prs_cons (pri rfl (p_move rfl)) (prs_cons (pri rfl (p_nilCheck rfl)) (prs_cons (pri rfl (p_field0 fo64_0 rfl)) (prs_cons (pri rfl (p_load1 t22 rfl rfl (g_row1 (k := 0) rfl rfl))) (prs_cons (pri rfl (p_len_sl Try.underlying22 rfl (hs_sl (k := 0) rfl))) (prs_cons (pri rfl (p_bin rfl rfl b_lt)) prs_nil)))))))))) rfl rfl rfl ?_)
  refine r_cond rfl (fun h1 => ?_) (fun h1 => ?_)
  · (try simp only [decide_eq_true_eq, decide_eq_false_iff_not, Bool.and_eq_true, Bool.or_eq_true, Bool.and_eq_false_iff, Bool.or_eq_false_iff, Bool.not_eq_true, Bool.not_eq_false, Bool.not_eq_true', Bool.not_eq_false', Bool.not_not, bne_iff_ne, beq_iff_eq] at h1)
    have hks : k < s.length := by omega
    have hx : s[k]?.getD 0 = s[k] := by simp [hks]
    have htm := tmod_bd s[k] hn
    refine r_draw [16, 17, 18, 19, 20, 21, 22, 23, 24, 25, 5] _ rfl (stg_end (V := [(0, 16, _), (1, 17, _), (2, 18, _), (3, 19, _), (4, 20, _), (5, 21, _), (6, 22, _), (7, 23, _), (8, 24, _), (9, 25, _), (10, 5, _)]) [0, 1, 2, 3, 4, 5, 6, 7, 8, 9, 10] rfl rfl (prs_cons (pri rfl (p_move rfl)) (prs_cons (pri rfl (p_nilCheck rfl)) (prs_cons (pri rfl (p_field0 fo64_0 rfl)) (prs_cons (pri rfl (p_load1 t22 rfl rfl (g_row1 (k := 0) rfl rfl))) (prs_cons (pri rfl (p_move rfl)) (prs_cons (pri rfl (p_nilCheck rfl)) (prs_cons (pri rfl (p_field0 fo64_1 rfl)) (prs_cons (pri rfl (p_load1 t3 rfl rfl (g_row1 (k := 0) rfl rfl))) (prs_cons (pri rfl (p_idx_sl (j := k) Try.underlying22 t3 rfl rfl (hs_sl (k := 0) rfl) (by first | rfl | omega) (by first | omega | (simp; done) | (simp; omega)))) (prs_cons (pri rfl (p_load1 t3 rfl rfl (g_el' (hs_sl (k := 0) rfl) (by intro _; rfl) (List.getElem?_eq_getElem hks) (by rfl)))) (prs_cons (pri rfl (p_assign rfl)) prs_nil))))))))))) rfl rfl rfl ?_)
    refine r_seq ?_
    refine r_region ?_
    refine r_p (p_move rfl) rfl ?_
    refine r_p (p_nilCheck rfl) rfl ?_
    refine r_p (p_field0 fo64_1 rfl) rfl ?_
    refine r_p (p_load1 t3 rfl rfl (g_row1 (k := 0) rfl rfl)) rfl ?_
    refine r_p (p_bin rfl rfl (b_add (by first | exact w_i64 (by omega) (by omega) | rfl))) rfl ?_
    refine r_p (p_nilCheck rfl) rfl ?_
    refine r_p (p_field0 fo64_1 rfl) rfl ?_
    refine r_store_row (k := 0) t3 rfl rfl rfl rfl rfl rfl rfl rfl ?_
    refine r_nil ?_
    refine r_seq ?_
    refine r_region ?_
    refine r_p (p_move rfl) rfl ?_
    refine r_p (p_move rfl) rfl ?_
    refine r_p (p_bin rfl rfl (b_rem (by omega) (by first | exact tmod_pos (by omega) | rfl))) rfl ?_
    refine r_p (p_move rfl) rfl ?_
    refine r_p (p_bin rfl rfl (b_add (by first | exact w_i64 (by omega) (by omega) | rfl))) rfl ?_
    refine r_p (p_move rfl) rfl ?_
    refine r_p (p_bin rfl rfl (b_rem (by omega) (by first | exact tmod_pos (by omega) | rfl))) rfl ?_
    refine r_p (p_assign rfl) rfl ?_
    refine r_nil ?_
    refine r_cret ?_
    refine r_ret () trivial rfl (rs1 (rv_tmp rfl)) (by rw [tk, hx]; first | rw [tmod_emod] | simp) [0] [] rfl rfl rfl
  · (try simp only [decide_eq_true_eq, decide_eq_false_iff_not, Bool.and_eq_true, Bool.or_eq_true, Bool.and_eq_false_iff, Bool.or_eq_false_iff, Bool.not_eq_true, Bool.not_eq_false, Bool.not_eq_true', Bool.not_eq_false', Bool.not_not, bne_iff_ne, beq_iff_eq] at h1)
    have hx : s[k]?.getD 0 = 0 := by rw [List.getElem?_eq_none (by omega)]; rfl
    have h0 : (0 : Int) % n = 0 := by simp
    refine r_skip ?_
    refine r_seq ?_
    refine r_region ?_
    refine r_p (p_move rfl) rfl ?_
    refine r_p (p_nilCheck rfl) rfl ?_
    refine r_p (p_field0 fo64_1 rfl) rfl ?_
    refine r_p (p_load1 t3 rfl rfl (g_row1 (k := 0) rfl rfl)) rfl ?_
    refine r_p (p_bin rfl rfl (b_add (by first | exact w_i64 (by omega) (by omega) | rfl))) rfl ?_
    refine r_p (p_nilCheck rfl) rfl ?_
    refine r_p (p_field0 fo64_1 rfl) rfl ?_
    refine r_store_row (k := 0) t3 rfl rfl rfl rfl rfl rfl rfl rfl ?_
    refine r_nil ?_
    refine r_seq ?_
    refine r_region ?_
    refine r_p (p_move rfl) rfl ?_
    refine r_p (p_move rfl) rfl ?_
    refine r_p (p_bin rfl rfl (b_rem (by omega) (by first | exact tmod_pos (by omega) | rfl))) rfl ?_
    refine r_p (p_move rfl) rfl ?_
    refine r_p (p_bin rfl rfl (b_add (by first | exact w_i64 (by omega) (by omega) | rfl))) rfl ?_
    refine r_p (p_move rfl) rfl ?_
    refine r_p (p_bin rfl rfl (b_rem (by omega) (by first | exact tmod_pos (by omega) | rfl))) rfl ?_
    refine r_p (p_assign rfl) rfl ?_
    refine r_nil ?_
    refine r_cret ?_
    refine r_ret () trivial rfl (rs1 (rv_tmp rfl)) (by rw [tk, hx]; first | rw [tmod_emod] | simp) [0] [] rfl rfl rfl

end Go.Proofs.Ytfdbkclbcajkiaa
