/-
  AllocMore walks. No condition.
-/
import Derived.Test.YtfdbkclbcajkiaaD3
import Derived.Test.YtfdbkclbcajkiaaC5
namespace Go.Proofs.Ytfdbkclbcajkiaa
set_option linter.unusedSimpArgs false
set_option linter.unusedVariables false
open Go.RowKit

/-- Two numbers of 8 bits. -/
def vb (a b : Int) : Nat → Value := fun i => .int .u8 (if i = 0 then a else b)

set_option maxRecDepth 100000 in
set_option maxHeartbeats 1000000 in
theorem more_law (vs : SV) (s : List Int) (a0 a1 : Int) (ha0 : 0 ≤ a0 ∧ a0 < 256) (ha1 : 0 ≤ a1 ∧ a1 < 256) :
    Spec Try.prog 7 [sv vs, .agg ((List.range 2).map (vb a0 a1)).toArray] [] [sl 1 eI (sv vs) s] (X := Unit) (fun _ => True) (fun _ => .bool true) (fun _ => []) (fun _ => []) := by
  refine r_enter Try.func7 rfl Try.ntmps7 rfl fun w0 M H => ?_
  refine r_seq ?_
  refine r_region ?_
  refine r_box_arr rfl rfl fun b3 => ?_
  refine r_p (p_assign rfl) rfl ?_
  refine r_nil ?_
  refine r_seq ?_
  refine r_region ?_
  refine r_call (xs := []) sanity_spec cb13 [] [] [] [] rfl rfl rfl rfl rfl rfl rfl rfl (fun _ _ => rfl) (fun _ _ _ => rfl) rfl (fun _ _ => ?_)
  refine r_p (p_assign rfl) rfl ?_
  refine r_nil ?_
  refine r_seq ?_
  refine r_region ?_
  refine r_p (p_move rfl) rfl ?_
  refine r_call (xs := [.tmp 11]) (made_spec vs s) cb19 [] [(false, 0)] [] [60, 61, 62] rfl rfl rfl rfl rfl rfl rfl rfl (fun _ _ => rfl) (fun _ _ _ => rfl) rfl (fun ⟨va, vp, vo, sw, sa, ops⟩ hx14 => ?_)
  obtain ⟨hl, hal⟩ := hx14
  dsimp only at hl hal
  have hl5 : ops.length ≤ 100000 := by omega
  have hub := uses_bd ops hl5
  refine r_alloc t28 rfl rfl fun b6 => ?_
  refine r_store_all (k := 6) t28 rfl rfl rfl rfl rfl rfl ?_
  refine r_nil ?_
  refine r_seq ?_
  refine r_region ?_
  refine r_p (p_loadA t28 rfl rfl rfl (g_all (k := 6) rfl)) rfl ?_
  refine r_p (p_idx_arr1 (j := 0) Try.underlying38 t5 rfl rfl (by first | rfl | omega) (by first | omega | (simp; done) | (simp; omega))) rfl ?_
  refine r_p (p_load1 t5 rfl rfl (g_arr1 (k := 3) rfl (by omega))) rfl ?_
  refine r_p (p_idx_arr1 (j := 1) Try.underlying38 t5 rfl rfl (by first | rfl | omega) (by first | omega | (simp; done) | (simp; omega))) rfl ?_
  refine r_p (p_load1 t5 rfl rfl (g_arr1 (k := 3) rfl (by omega))) rfl ?_
  refine r_p (p_min rfl rfl rfl) rfl ?_
  refine r_p (p_conv Try.underlying5 Try.underlying3 rfl (by first | exact w_i64 (by omega) (by omega) | rfl)) rfl ?_
  refine r_call (xs := [.tmp 13, .tmp 19]) (assign_spec va vp vo ops hl5 (min a0 a1)) cb17 [] [(false, 62)] [] [] rfl rfl rfl rfl rfl rfl rfl rfl (fun _ _ => rfl) (fun _ _ _ => rfl) rfl (fun _ _ => ?_)
  refine r_alloc_arr (n := 28) (u := (.int .i64 0)) t33 rfl rfl fun b7 => ?_
  refine r_store_arrAll (k := 7) t33 rfl rfl rfl (vi_one _) rfl ?_
  refine r_nil ?_
  refine r_seq ?_
  refine r_region ?_
  refine r_p (p_loadA t28 rfl rfl rfl (g_all (k := 6) rfl)) rfl ?_
  refine r_p (p_idx_arr1 (j := 0) Try.underlying38 t5 rfl rfl (by first | rfl | omega) (by first | omega | (simp; done) | (simp; omega))) rfl ?_
  refine r_p (p_load1 t5 rfl rfl (g_arr1 (k := 3) rfl (by omega))) rfl ?_
  refine r_p (p_idx_arr1 (j := 1) Try.underlying38 t5 rfl rfl (by first | rfl | omega) (by first | omega | (simp; done) | (simp; omega))) rfl ?_
  refine r_p (p_load1 t5 rfl rfl (g_arr1 (k := 3) rfl (by omega))) rfl ?_
  refine r_p (p_max rfl rfl rfl) rfl ?_
  refine r_p (p_conv Try.underlying5 Try.underlying3 rfl (by first | exact w_i64 (by omega) (by omega) | rfl)) rfl ?_
  refine r_call (xs := [.tmp 21, .tmp 27]) (assign_spec va vp vo ops hl5 (max a0 a1)) cb17 [] [(false, 62)] [] [] rfl rfl rfl rfl rfl rfl rfl rfl (fun _ _ => rfl) (fun _ _ _ => rfl) rfl (fun _ _ => ?_)
  refine r_alloc_arr (n := 28) (u := (.int .i64 0)) t33 rfl rfl fun b8 => ?_
  refine r_store_arrAll (k := 8) t33 rfl rfl rfl (vi_one _) rfl ?_
  refine r_nil ?_
  refine r_seq ?_
  refine r_seq ?_
  refine r_region ?_
  refine r_p (p_assign rfl) rfl ?_
  refine r_nil ?_
  refine r_block ?_
  refine r_loop (X := Nat) (fun k => k ≤ 28) (fun k => [(5, .bool true), (7, .pointer (some ⟨b7, 0, none⟩)), (8, .pointer (some ⟨b8, 0, none⟩)), (9, .int .i64 (k : Int))]) (fun k => [(7, arr b7 33 28 (vi (asgU (uses ops) (min a0 a1)))), (8, arr b8 33 28 (vi (asgU (uses ops) (max a0 a1))))]) (fun k => []) (fun k => 28 - k) 0 (Nat.zero_le _) rfl rfl rfl (fun k hk0 => ?_)
  refine r_seq ?_
  refine r_seq ?_
  refine r_region ?_
  refine r_p (p_move rfl) rfl ?_
  refine r_p (p_bin rfl rfl b_lt) rfl ?_
  refine r_nil ?_
  refine r_cond rfl (fun h1 => ?_) (fun h1 => ?_)
  · (try simp only [decide_eq_true_eq, decide_eq_false_iff_not, Bool.and_eq_true, Bool.or_eq_true, Bool.and_eq_false_iff, Bool.or_eq_false_iff, Bool.not_eq_true, Bool.not_eq_false, Bool.not_eq_true', Bool.not_eq_false', Bool.not_not, bne_iff_ne, beq_iff_eq] at h1)
    have hk : k < 28 := by omega
    have hmo := @asgU_more (uses ops) (min a0 a1) (max a0 a1) (by omega) k
    refine r_skip ?_
    refine r_seq ?_
    refine r_block ?_
    refine r_seq ?_
    refine r_draw [33, 34, 35, 36, 37, 38, 39, 40, 41, 42, 43, 44, 45] _ rfl (stg_end (V := [(0, 33, _), (1, 34, _), (2, 35, _), (3, 36, _), (4, 37, _), (5, 38, _), (6, 39, _), (7, 40, _), (8, 41, _), (9, 42, _), (10, 43, _), (11, 44, _), (12, 45, _)]) [0, 1, 2, 3, 4, 5, 6, 7, 8, 9, 10, 11, 12] rfl rfl (prs_cons (pri rfl (p_move rfl)) (prs_cons (pri rfl (p_idx_arr1 (j := k) Try.underlying33 t3 rfl rfl (by first | rfl | omega) (by first | omega | (simp; done) | (simp; omega)))) (prs_cons (pri rfl (p_load1 t3 rfl rfl (g_arr1 (k := 7) rfl (by omega)))) (prs_cons (pri rfl (p_bin rfl rfl b_ge)) (prs_cons (pri rfl (p_move rfl)) (prs_cons (prig_s [] rfl rfl rfl trivial (fun hg2 => p_move rfl)) (prs_cons (prig_s [(38, _)] rfl rfl rfl ⟨rfl, trivial⟩ (fun hg3 => p_idx_arr1 (j := k) Try.underlying33 t3 rfl rfl (by first | rfl | omega) (by first | omega | (simp; done) | (simp; omega)))) (prs_cons (prig_s [(39, _)] rfl rfl rfl ⟨rfl, trivial⟩ (fun hg4 => p_load1 t3 rfl rfl (g_arr1 (k := 8) rfl (by omega)))) (prs_cons (prig_s [] rfl rfl rfl trivial (fun hg5 => p_move rfl)) (prs_cons (prig_s [(41, _)] rfl rfl rfl ⟨rfl, trivial⟩ (fun hg6 => p_idx_arr1 (j := k) Try.underlying33 t3 rfl rfl (by first | rfl | omega) (by first | omega | (simp; done) | (simp; omega)))) (prs_cons (prig_s [(42, _)] rfl rfl rfl ⟨rfl, trivial⟩ (fun hg7 => p_load1 t3 rfl rfl (g_arr1 (k := 7) rfl (by omega)))) (prs_cons (prig_s [(40, _), (43, _)] rfl rfl rfl ⟨rfl, rfl, trivial⟩ (fun hg8 => p_bin rfl rfl b_ne)) (prs_cons (pri rfl (p_pick rfl rfl rfl (by first | exact pick_and | exact pick_or |  rfl))) prs_nil))))))))))))) rfl rfl rfl ?_)
    refine r_cond rfl (fun h9 => ?_) (fun h9 => ?_)
    · exfalso; simp at h9; have := hmo (by omega); omega
    · (try simp only [decide_eq_true_eq, decide_eq_false_iff_not, Bool.and_eq_true, Bool.or_eq_true, Bool.and_eq_false_iff, Bool.or_eq_false_iff, Bool.not_eq_true, Bool.not_eq_false, Bool.not_eq_true', Bool.not_eq_false', Bool.not_not, bne_iff_ne, beq_iff_eq] at h9)
      refine r_skip ?_
      refine r_region ?_
      refine r_p (p_move rfl) rfl ?_
      refine r_p (p_bin rfl rfl (b_add (by first | exact w_i64 (by omega) (by omega) | rfl))) rfl ?_
      refine r_p (p_assign rfl) rfl ?_
      refine r_nil ?_
      refine r_here (k + 1) ⟨by omega, by omega⟩ rfl rfl rfl
  · (try simp only [decide_eq_true_eq, decide_eq_false_iff_not, Bool.and_eq_true, Bool.or_eq_true, Bool.and_eq_false_iff, Bool.or_eq_false_iff, Bool.not_eq_true, Bool.not_eq_false, Bool.not_eq_true', Bool.not_eq_false', Bool.not_not, bne_iff_ne, beq_iff_eq] at h1)
    have hk : k = 28 := by omega
    subst hk
    refine r_exit ?_
    refine r_seq ?_
    refine r_region ?_
    refine r_p (p_move rfl) rfl ?_
    refine r_p (p_assign rfl) rfl ?_
    refine r_nil ?_
    refine r_cret ?_
    refine r_ret () trivial rfl (rs1 (rv_tmp rfl)) rfl [] [] rfl rfl rfl

end Go.Proofs.Ytfdbkclbcajkiaa
