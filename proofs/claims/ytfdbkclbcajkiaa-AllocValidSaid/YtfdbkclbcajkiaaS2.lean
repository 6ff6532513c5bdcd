/-
  Comparing two variables by their uses, and exchanging ranges. Conditions: variables are from 0 to 27; no number of uses is beyond a million.
-/
import Derived.Test.YtfdbkclbcajkiaaS1
import Derived.Test.YtfdbkclbcajkiaaF
import Derived.Test.YtfdbkclbcajkiaaKB
import Derived.Test.YtfdbkclbcajkiaaB3
namespace Go.Proofs.Ytfdbkclbcajkiaa
set_option linter.unusedSimpArgs false
set_option linter.unusedVariables false
open Go.RowKit

def lessU (u : Nat → Int) (x y : Int) : Bool := decide (u y.toNat < u x.toNat)
def InV (xs : List Int) : Prop := ∀ x ∈ xs, 0 ≤ x ∧ x < 28
theorem InV.get {xs : List Int} (h : InV xs) {j : Nat} (hj : j < xs.length) : 0 ≤ xs.getD j 0 ∧ xs.getD j 0 < 28 := by
  rw [List.getD_eq_getElem?_getD, List.getElem?_eq_getElem hj]
  exact h _ (List.getElem_mem hj)
theorem InV.sw {xs : List Int} (h : InV xs) {i j : Nat} (hi : i < xs.length) (hj : j < xs.length) : InV (sw 0 xs i j) := sw_mem 0 h hi hj

set_option maxRecDepth 100000 in
theorem cmp_spec (x y : Int) (hx : 0 ≤ x ∧ x < 28) (hy : 0 ≤ y ∧ y < 28) (B : Nat) (u : Nat → Int) (hu : ∀ i, 0 ≤ u i ∧ u i ≤ 1000000) :
    Spec Try.prog 33 [.int .i64 x, .int .i64 y, .pointer (some ⟨B, 0, none⟩)] [arr B 30 28 (vi u)] [] (X := Unit) (fun _ => True) (fun _ => .int .i64 (u y.toNat - u x.toNat)) (fun _ => [arr B 30 28 (vi u)]) (fun _ => []) := by
  refine r_enter Try.func33 rfl Try.ntmps33 rfl fun w0 M H => ?_
  have hu1 := hu x.toNat
  have hu2 := hu y.toNat
  refine r_seq ?_
  refine r_region ?_
  refine r_p (p_assign rfl) rfl ?_
  refine r_nil ?_
  refine r_seq ?_
  refine r_draw [6, 7, 8, 9, 10, 11, 12, 5] _ rfl (stg_end (V := [(0, 6, _), (1, 7, _), (2, 8, _), (3, 9, _), (4, 10, _), (5, 11, _), (6, 12, _), (7, 5, _)]) [0, 1, 2, 3, 4, 5, 6, 7] rfl rfl (prs_cons (pri rfl (p_move rfl)) (prs_cons (pri rfl (p_idx_arr1 (j := y.toNat) Try.underlying30 t3 rfl rfl (by omega) (by first | omega | (simp; done) | (simp; omega)))) (prs_cons (pri rfl (p_load1 t3 rfl rfl (g_arr1 (k := 0) rfl (by omega)))) (prs_cons (pri rfl (p_move rfl)) (prs_cons (pri rfl (p_idx_arr1 (j := x.toNat) Try.underlying30 t3 rfl rfl (by omega) (by first | omega | (simp; done) | (simp; omega)))) (prs_cons (pri rfl (p_load1 t3 rfl rfl (g_arr1 (k := 0) rfl (by omega)))) (prs_cons (pri rfl (p_bin rfl rfl (b_sub (by first | exact w_i64 (by omega) (by omega) | rfl)))) (prs_cons (pri rfl (p_assign rfl)) prs_nil)))))))) rfl rfl rfl ?_)
  refine r_cret ?_
  refine r_ret () trivial rfl (rs1 (rv_tmp rfl)) rfl [0] [] rfl rfl rfl
set_option maxRecDepth 100000 in
theorem swapr_spec (v : SV) (xs : List Int) (a b n : Nat) (ha : a + n ≤ xs.length) (hb : b + n ≤ xs.length) (hl : xs.length ≤ 1000) (B : Nat) (u : Nat → Int) :
    Spec Try.prog 66 [sv v, .int .i64 (a : Int), .int .i64 (b : Int), .int .i64 (n : Int), .func (.func 33) #[] #[.pointer (some ⟨B, 0, none⟩)]] [own 3 1 eI (sv v) xs, arr B 30 28 (vi u)] [] (X := Unit) (fun _ => True) (fun _ => .tuple #[]) (fun _ => [own 3 1 eI (sv v) (swapR 0 xs a b n 0), arr B 30 28 (vi u)]) (fun _ => []) := by
  refine r_enter Try.func66 rfl Try.ntmps66 rfl fun w0 M H => ?_
  refine r_seq ?_
  refine r_region ?_
  refine r_p (p_assign rfl) rfl ?_
  refine r_nil ?_
  refine r_block ?_
  refine r_loop (X := Nat × List Int) (fun x => x.1 ≤ n ∧ x.2.length = xs.length ∧ swapR 0 x.2 a b (n - x.1) x.1 = swapR 0 xs a b n 0) (fun x => [(0, sv v), (1, .int .i64 (a : Int)), (2, .int .i64 (b : Int)), (3, .int .i64 (n : Int)), (10, .int .i64 (x.1 : Int))]) (fun x => [(0, own 3 1 eI (sv v) x.2), (1, arr B 30 28 (vi u))]) (fun x => []) (fun x => n - x.1) (0, xs) ⟨by simp, rfl, rfl⟩ rfl rfl rfl (fun ⟨i, ys⟩ hx => ?_)
  obtain ⟨hi, hy, hs⟩ := hx
  dsimp only at hi hy hs ⊢
  refine r_seq ?_
  refine r_seq ?_
  refine r_region ?_
  refine r_p (p_move rfl) rfl ?_
  refine r_p (p_move rfl) rfl ?_
  refine r_p (p_bin rfl rfl b_lt) rfl ?_
  refine r_nil ?_
  refine r_cond rfl (fun h1 => ?_) (fun h1 => ?_)
  · (try simp only [decide_eq_true_eq, decide_eq_false_iff_not, Bool.and_eq_true, Bool.or_eq_true, Bool.and_eq_false_iff, Bool.or_eq_false_iff, Bool.not_eq_true, Bool.not_eq_false, Bool.not_eq_true', Bool.not_eq_false', Bool.not_not, bne_iff_ne, beq_iff_eq] at h1)
    have hin : i < n := by omega
    refine r_skip ?_
    refine r_seq ?_
    refine r_block ?_
    refine r_drawM [0, 1, 2, 3, 4, 5, 6, 7, 8, 9, 10, 11, 12, 13, 14, 15, 16, 17, 18, 19, 20, 21, 22, 23] [0, 1, 2, 3, 18, 19, 20, 21, 4, 5, 6, 7, 8, 9, 10, 11, 12, 13, 14, 15, 16, 17, 22, 23] [16, 17, 18, 19, 20, 21, 22, 23, 24, 25, 26, 27, 28, 29, 30, 31, 32, 33, 34, 35, 36, 37] _ rfl rfl rfl (stg_mem0 (V := [(0, 16, _), (1, 17, _), (2, 18, _), (3, 19, _), (4, 20, _), (5, 21, _), (6, 22, _), (7, 23, _), (8, 24, _), (9, 25, _), (10, 26, _), (11, 27, _), (12, 28, _), (13, 29, _), (14, 30, _), (15, 31, _), (16, 32, _), (17, 33, _), (18, 34, _), (19, 35, _), (20, 36, _)]) [0, 1, 2, 3, 4, 5, 6, 7, 8, 9, 10, 11, 12, 13, 14, 15, 16, 17, 18, 19, 20] 21 [21, 20, 19, 18, 17, 16, 15, 14, 13, 12, 11, 10, 9, 8, 3, 2, 1, 0] [22] (fun _ => [(22, 37, _)]) rfl rfl (prs_cons (pri rfl (p_move rfl)) (prs_cons (pri rfl (p_move rfl)) (prs_cons (pri rfl (p_move rfl)) (prs_cons (pri rfl (p_bin rfl rfl (b_add (by first | exact w_i64 (by omega) (by omega) | rfl)))) (prs_cons (pri rfl (p_move rfl)) (prs_cons (pri rfl (p_move rfl)) (prs_cons (pri rfl (p_move rfl)) (prs_cons (pri rfl (p_bin rfl rfl (b_add (by first | exact w_i64 (by omega) (by omega) | rfl)))) (prs_cons (pri rfl (p_move rfl)) (prs_cons (pri rfl (p_move rfl)) (prs_cons (pri rfl (p_move rfl)) (prs_cons (pri rfl (p_bin rfl rfl (b_add (by first | exact w_i64 (by omega) (by omega) | rfl)))) (prs_cons (pri rfl (p_idx_sl (j := b + i) Try.underlying22 t3 rfl rfl (hs_own (k := 0) rfl) (by omega) (by first | omega | (simp; omega)))) (prs_cons (pri rfl (p_load1 t3 rfl rfl (g_el' (hs_own (k := 0) rfl) (by intro _; rfl) (getD_get 0 (by first | omega | (simp; omega))) (by rfl)))) (prs_cons (pri rfl (p_move rfl)) (prs_cons (pri rfl (p_move rfl)) (prs_cons (pri rfl (p_move rfl)) (prs_cons (pri rfl (p_bin rfl rfl (b_add (by first | exact w_i64 (by omega) (by omega) | rfl)))) (prs_cons (pri rfl (p_idx_sl (j := a + i) Try.underlying22 t3 rfl rfl (hs_own (k := 0) rfl) (by omega) (by first | omega | (simp; omega)))) (prs_cons (pri rfl (p_load1 t3 rfl rfl (g_el' (hs_own (k := 0) rfl) (by intro _; rfl) (getD_get 0 (by first | omega | (simp; omega))) (by rfl)))) (prs_cons (pri rfl (p_idx_sl (j := a + i) Try.underlying22 t3 rfl rfl (hs_own (k := 0) rfl) (by omega) (by first | omega | (simp; omega)))) prs_nil))))))))))))))))))))) rfl rfl rfl rfl rfl rfl rfl rfl rfl (fun _ _ => rfl) rfl (ms_store_el (k := 0) t3 rfl rfl rfl (by intro _; rfl) (getD_get 0 (by first | omega | (simp; omega))) rfl rfl) (fun _ _ => stg_mem0 [22, 4, 5, 6, 7] 23 [23, 22, 21, 20, 19, 18, 17, 16, 15, 14, 13, 12, 11, 10, 9, 8, 7, 6, 5, 4, 3, 2, 1, 0] [] (fun _ => []) rfl rfl (prs_cons (pri rfl (p_idx_sl (j := b + i) Try.underlying22 t3 rfl rfl (hs_own (k := 0) rfl) (by omega) (by first | omega | (simp; omega)))) (prs_cons (pri rfl (p_move rfl)) (prs_cons (pri rfl (p_move rfl)) (prs_cons (pri rfl (p_move rfl)) (prs_cons (pri rfl (p_bin rfl rfl (b_add (by first | exact w_i64 (by omega) (by omega) | rfl)))) prs_nil))))) rfl rfl rfl rfl rfl rfl rfl rfl rfl (fun _ _ => rfl) rfl (ms_store_el (k := 0) t3 rfl rfl rfl (by intro _; rfl) (getD_get 0 (by first | omega | (simp; omega))) rfl rfl) (fun _ _ => stg_end [] rfl rfl prs_nil rfl rfl rfl ?_)))
    refine r_region ?_
    refine r_p (p_move rfl) rfl ?_
    refine r_p (p_bin rfl rfl (b_add (by first | exact w_i64 (by omega) (by omega) | rfl))) rfl ?_
    refine r_p (p_assign rfl) rfl ?_
    refine r_nil ?_
    refine r_here (i + 1, sw 0 ys (a + i) (b + i)) ⟨⟨by dsimp only; omega, by simp [sw_len, hy], by dsimp only; rw [← hs, show n - i = (n - (i + 1)) + 1 by omega, swapR]⟩, by dsimp only; omega⟩ rfl rfl rfl
  · (try simp only [decide_eq_true_eq, decide_eq_false_iff_not, Bool.and_eq_true, Bool.or_eq_true, Bool.and_eq_false_iff, Bool.or_eq_false_iff, Bool.not_eq_true, Bool.not_eq_false, Bool.not_eq_true', Bool.not_eq_false', Bool.not_not, bne_iff_ne, beq_iff_eq] at h1)
    have hin : n - i = 0 := by omega
    rw [hin, swapR] at hs
    refine r_exit ?_
    refine r_end () trivial rfl rs0 rfl [0, 1] [] rfl ?_ rfl
    rw [← hs]
    rfl

end Go.Proofs.Ytfdbkclbcajkiaa
