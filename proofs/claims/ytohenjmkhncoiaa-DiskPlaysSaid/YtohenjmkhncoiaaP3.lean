/-
  Making and crashing from lists within lists. No condition.
-/
import Derived.Test.YtohenjmkhncoiaaP2
import Derived.Test.YtohenjmkhncoiaaOQ
namespace Go.Proofs.Ytohenjmkhncoiaa
set_option linter.unusedSimpArgs false
set_option linter.unusedVariables false
open Go.RowKit

theorem p_len_sv {P : Program} {N : Nat} {w0 : World} {M H : Nat → Prop} {E : Env} {Γ R : Ctx} {S U : TypeId} {x : Operand} {v : SV} (hS : P.underlying S = some (.slice U)) (hx : ev E x = some (sv v)) : PR P N w0 M H E Γ R (.call { callee := .builtin .len, args := #[x], argTypes := #[S] }) (.int .i64 (v.n : Int)) :=
  fun _ _ _ a w hE hC _ _ => by
    simp [execOp, resolve, invoke, builtin, hE.ev hx, Builtin.len_, run_underlying hS, goInt, sv]

set_option maxHeartbeats 4000000 in
set_option maxRecDepth 100000 in
theorem made0_spec (v : SV) (q : List Int) (hq0 : q = []) (hv : v.n = 0) :
    Spec Try.prog 31 [sv v] [] [] (X := Sp) (fun x => ∃ a b c d e, x = madeS q a b c d e) (fun x => snV x) (fun _ => []) (fun x => [snA x]) := by
  refine r_enter Try.func31 rfl Try.ntmps31 rfl fun w0 M H => ?_
  refine r_seq ?_
  refine r_region ?_
  refine r_alloc t59 rfl rfl fun b2 => ?_
  refine r_nil ?_
  refine r_seq ?_
  refine r_region ?_
  refine r_alloc_arr (n := 12) (u := (.int .i64 0)) t103 rfl rfl fun b3 => ?_
  refine r_nil ?_
  refine r_seq ?_
  refine r_seq ?_
  refine r_region ?_
  refine r_p (p_assign rfl) rfl ?_
  refine r_nil ?_
  refine r_block ?_
  refine r_conva (k := 3) (A' := arr b3 103 12 (xk q 0)) rfl (fun _ _ h => by rw [← xk_zero]; exact h) ?_
  refine r_loop (X := Nat) (fun k => k ≤ 12) (fun k => [(0, sv v), (2, .pointer (some ⟨b2, 0, none⟩)), (3, .pointer (some ⟨b3, 0, none⟩)), (4, .int .i64 (k : Int))]) (fun k => [(2, row b2 59 (snC zSp)), (3, arr b3 103 12 (xk q k))]) (fun k => []) (fun k => 12 - k) 0 (Nat.zero_le _) rfl rfl rfl (fun k hk0 => ?_)
  refine r_seq ?_
  refine r_seq ?_
  refine r_region ?_
  refine r_p (p_move rfl) rfl ?_
  refine r_p (p_bin rfl rfl b_lt) rfl ?_
  refine r_p (p_move rfl) rfl ?_
  refine r_gp [] rfl rfl trivial (fun hg1 => p_move rfl) rfl ?_
  refine r_gp [(14, _)] rfl rfl ⟨rfl, trivial⟩ (fun hg2 => p_move rfl) rfl ?_
  refine r_gp [(14, _), (15, _)] rfl rfl ⟨rfl, rfl, trivial⟩ (fun hg3 => p_len_sv Try.underlying28 rfl) rfl ?_
  refine r_gp [(14, _), (15, _), (16, _)] rfl rfl ⟨rfl, rfl, rfl, trivial⟩ (fun hg4 => p_bin rfl rfl b_lt) rfl ?_
  refine r_p (p_pick rfl rfl rfl (by first | exact pick_and | exact pick_or |  rfl)) rfl ?_
  refine r_nil ?_
  refine r_cond rfl (fun h5 => ?_) (fun h5 => ?_)
  · (simp [hv] at h5; omega)
  · (try simp only [decide_eq_true_eq, decide_eq_false_iff_not, Bool.and_eq_true, Bool.or_eq_true, Bool.and_eq_false_iff, Bool.or_eq_false_iff, Bool.not_eq_true, Bool.not_eq_false, Bool.not_eq_true', Bool.not_eq_false', Bool.not_not, bne_iff_ne, beq_iff_eq] at h5)
    have hk : ¬ (k < 12 ∧ k < q.length) := by rw [hq0]; simp
    refine r_conva (k := 3) (A' := arr b3 103 12 (xv q)) rfl (fun _ _ h => by rw [← xk_done hk]; exact h) ?_
    refine r_exit ?_
    refine r_seq ?_
    refine r_region ?_
    refine r_p (p_idx_arr1 (j := 0) Try.underlying103 t3 rfl rfl (by rfl) (by decide)) rfl ?_
    refine r_p (p_load1 t3 rfl rfl (g_arr1 (k := 3) rfl (by omega))) rfl ?_
    refine r_p (p_build (parts := [(0, .tmp 28)]) t59 pl59 rfl rfl) rfl ?_
    refine r_alloc t59 rfl rfl fun b5 => ?_
    refine r_store_all (k := 5) t59 rfl rfl rfl rfl rfl rfl ?_
    refine r_conva (k := 5) (A' := row b5 59 (snC (hdS (xq q 0) 0 0 0 0 (fun _ => 0) (fun _ => 0) [] [] [] [] [] nilS nilS nilS nilS nilS))) rfl (fun _ _ h => h) ?_
    refine r_nil ?_
    refine r_seq ?_
    refine r_region ?_
    refine r_p (p_idx_arr1 (j := 1) Try.underlying103 t3 rfl rfl (by rfl) (by decide)) rfl ?_
    refine r_p (p_load1 t3 rfl rfl (g_arr1 (k := 3) rfl (by omega))) rfl ?_
    refine r_p (p_conv Try.underlying3 Try.underlying32 rfl (by first | exact w_u32 (by omega) (by omega) | rfl)) rfl ?_
    refine r_p (p_field0 fo59_1 rfl) rfl ?_
    refine r_p (p_field fo56_0 rfl) rfl ?_
    refine r_store_row (k := 5) t32 rfl rfl rfl rfl rfl rfl rfl rfl ?_
    refine r_nil ?_
    refine r_seq ?_
    refine r_region ?_
    refine r_p (p_idx_arr1 (j := 2) Try.underlying103 t3 rfl rfl (by rfl) (by decide)) rfl ?_
    refine r_p (p_load1 t3 rfl rfl (g_arr1 (k := 3) rfl (by omega))) rfl ?_
    refine r_p (p_conv Try.underlying3 Try.underlying32 rfl (by first | exact w_u32 (by omega) (by omega) | rfl)) rfl ?_
    refine r_p (p_bin rfl rfl (b_rem (by omega) (tmod_pos (wrap_u32_bd _).1))) rfl ?_
    refine r_p (p_field0 fo59_1 rfl) rfl ?_
    refine r_p (p_field fo56_2 rfl) rfl ?_
    refine r_store_row (k := 5) t32 rfl rfl rfl rfl rfl rfl rfl rfl ?_
    refine r_nil ?_
    refine r_seq ?_
    refine r_region ?_
    refine r_p (p_idx_arr1 (j := 3) Try.underlying103 t3 rfl rfl (by rfl) (by decide)) rfl ?_
    refine r_p (p_load1 t3 rfl rfl (g_arr1 (k := 3) rfl (by omega))) rfl ?_
    refine r_p (p_field0 fo59_1 rfl) rfl ?_
    refine r_p (p_field fo56_4 rfl) rfl ?_
    refine r_store_row (k := 5) t3 rfl rfl rfl rfl rfl rfl rfl rfl ?_
    refine r_nil ?_
    refine r_seq ?_
    refine r_region ?_
    refine r_p (p_idx_arr1 (j := 4) Try.underlying103 t3 rfl rfl (by rfl) (by decide)) rfl ?_
    refine r_p (p_load1 t3 rfl rfl (g_arr1 (k := 3) rfl (by omega))) rfl ?_
    refine r_p (p_field0 fo59_1 rfl) rfl ?_
    refine r_p (p_field fo56_5 rfl) rfl ?_
    refine r_store_row (k := 5) t3 rfl rfl rfl rfl rfl rfl rfl rfl ?_
    refine r_nil ?_
    refine r_seq ?_
    refine r_seq ?_
    refine r_region ?_
    refine r_p (p_assign rfl) rfl ?_
    refine r_nil ?_
    refine r_block ?_
    refine r_loop (X := Nat) (fun k => k ≤ 16) (fun k => [(2, .pointer (some ⟨b2, 0, none⟩)), (3, .pointer (some ⟨b3, 0, none⟩)), (5, .pointer (some ⟨b5, 0, none⟩)), (6, .int .i64 (k : Int))]) (fun k => [(2, row b2 59 (snC zSp)), (3, arr b3 103 12 (xv q)), (5, row b5 59 (snC (mkS q k (fun _ => 0) [] [] [] [] [] nilS nilS nilS nilS nilS)))]) (fun k => []) (fun k => 16 - k) 0 (Nat.zero_le _) rfl rfl rfl (fun k hk0 => ?_)
    refine r_seq ?_
    refine r_seq ?_
    refine r_region ?_
    refine r_p (p_move rfl) rfl ?_
    refine r_p (p_bin rfl rfl b_lt) rfl ?_
    refine r_nil ?_
    refine r_cond rfl (fun h6 => ?_) (fun h6 => ?_)
    · (try simp only [decide_eq_true_eq, decide_eq_false_iff_not, Bool.and_eq_true, Bool.or_eq_true, Bool.and_eq_false_iff, Bool.or_eq_false_iff, Bool.not_eq_true, Bool.not_eq_false, Bool.not_eq_true', Bool.not_eq_false', Bool.not_not, bne_iff_ne, beq_iff_eq] at h6)
      have hk : k < 16 := by omega
      refine r_skip ?_
      refine r_seq ?_
      refine r_block ?_
      refine r_draw [53, 54, 55, 56, 57, 58, 59, 60, 61, 62, 63, 64, 65, 66, 67] _ rfl (stg_mem0 (V := [(0, 53, _), (1, 54, _), (2, 55, _), (3, 56, _), (4, 57, _), (5, 58, _), (6, 59, _), (7, 60, _), (8, 61, _), (9, 62, _), (10, 63, _), (11, 64, _), (12, 65, _), (13, 66, _), (14, 67, _)]) [0, 1, 2, 3, 4, 5, 6, 7, 8, 9, 10, 11, 12, 13, 14] 15 [15, 14, 13, 12, 11, 10, 9, 8, 7, 6, 5, 4, 3, 2, 1, 0] [] (fun _ => []) rfl rfl (prs_cons (pri rfl (p_move rfl)) (prs_cons (pri rfl (p_move rfl)) (prs_cons (pri rfl (p_bin rfl rfl (b_rem (by omega) (by first | exact tmod_pos (by omega) | rfl)))) (prs_cons (pri rfl (p_idx_arr1 (j := (k % 12)) Try.underlying103 t3 rfl rfl (by omega) (by omega))) (prs_cons (pri rfl (p_load1 t3 rfl rfl (g_arr1 (k := 3) rfl (by omega)))) (prs_cons (pri rfl (p_conv Try.underlying3 Try.underlying32 rfl (by first | exact w_u32 (by omega) (by omega) | rfl))) (prs_cons (pri rfl (p_move rfl)) (prs_cons (pri rfl (p_idx_arr1 (j := 5) Try.underlying103 t3 rfl rfl (by rfl) (by decide))) (prs_cons (pri rfl (p_load1 t3 rfl rfl (g_arr1 (k := 3) rfl (by omega)))) (prs_cons (pri rfl (p_bin rfl rfl (b_add rfl))) (prs_cons (pri rfl (p_conv Try.underlying3 Try.underlying32 rfl (by first | exact w_u32 (by omega) (by omega) | rfl))) (prs_cons (pri rfl (p_bin rfl rfl (b_mul rfl))) (prs_cons (pri rfl (p_field0 fo59_1 rfl)) (prs_cons (pri rfl (p_field fo56_1 rfl)) (prs_cons (pri rfl (p_idx_arr (j := k) Try.underlying53 t32 rfl rfl (by first | rfl | omega) (by omega))) prs_nil))))))))))))))) rfl rfl rfl rfl rfl rfl rfl rfl rfl (fun _ _ => rfl) rfl (ms_store_row (k := 5) (o := 2 + k) (c' := snC ((mkS q k (fun _ => 0) [] [] [] [] [] nilS nilS nilS nilS nilS).setR k (rF q k))) t32 at_reg rfl rfl rfl rfl rfl (by rw [snC_len]; exact Nat.ble_eq_true_of_le (by show 2 + k + 1 ≤ 30; omega)) (snC_setR _ k _ hk)) (fun _ _ => stg_end [] rfl rfl prs_nil rfl rfl rfl ?_))
      rw [mR_setR]
      refine r_region ?_
      refine r_p (p_move rfl) rfl ?_
      refine r_p (p_bin rfl rfl (b_add (by first | exact w_i64 (by omega) (by omega) | rfl))) rfl ?_
      refine r_p (p_assign rfl) rfl ?_
      refine r_nil ?_
      refine r_here (k + 1) ⟨by omega, by omega⟩ rfl rfl rfl
    · (try simp only [decide_eq_true_eq, decide_eq_false_iff_not, Bool.and_eq_true, Bool.or_eq_true, Bool.and_eq_false_iff, Bool.or_eq_false_iff, Bool.not_eq_true, Bool.not_eq_false, Bool.not_eq_true', Bool.not_eq_false', Bool.not_not, bne_iff_ne, beq_iff_eq] at h6)
      have hk : k = 16 := by omega
      subst hk
      refine r_exit ?_
      refine r_seq ?_
      refine r_draw [68, 69, 70, 71, 72, 73, 74, 75, 76] _ rfl (stg_mem (V := [(0, 68, _), (1, 69, _), (3, 71, _), (4, 72, _), (5, 73, _), (6, 74, _), (7, 75, _)]) [0, 1, 3, 4, 5, 6, 7] 2 [2, 1, 0] [8] (fun _ => [(8, 76, _)]) rfl rfl (prs_cons (pri rfl (p_idx_arr1 (j := 5) Try.underlying103 t3 rfl rfl (by rfl) (by decide))) (prs_cons (pri rfl (p_load1 t3 rfl rfl (g_arr1 (k := 3) rfl (by omega)))) (prs_cons (pri rfl (p_idx_arr1 (j := 6) Try.underlying103 t3 rfl rfl (by rfl) (by decide))) (prs_cons (pri rfl (p_load1 t3 rfl rfl (g_arr1 (k := 3) rfl (by omega)))) (prs_cons (pri rfl (p_conv Try.underlying3 Try.underlying32 rfl (by first | exact w_u32 (by omega) (by omega) | rfl))) (prs_cons (pri rfl (p_field0 fo59_1 rfl)) (prs_cons (pri rfl (p_field fo56_3 rfl)) prs_nil))))))) rfl rfl rfl rfl rfl rfl rfl rfl rfl rfl rfl (fun _ _ => rfl) rfl (ms_call (xs := [.tmp 69]) (k4_spec (xq q 5)) cb48 [] [] [] [] rfl rfl rfl rfl rfl rfl rfl rfl (fun _ _ => rfl) (fun _ _ _ => rfl)) (fun _ _ => stg_mem0 [8, 3, 4, 5, 6, 7] 9 [9, 8, 7, 6, 5, 4, 3, 2, 1, 0] [] (fun _ => []) rfl rfl (prs_cons (pri rfl (p_idx_arr (j := (xq q 5 % 4).toNat) Try.underlying54 t32 rfl rfl (by omega) (by omega))) (prs_cons (pri rfl (p_idx_arr1 (j := 6) Try.underlying103 t3 rfl rfl (by rfl) (by decide))) (prs_cons (pri rfl (p_load1 t3 rfl rfl (g_arr1 (k := 3) rfl (by omega)))) (prs_cons (pri rfl (p_conv Try.underlying3 Try.underlying32 rfl (by first | exact w_u32 (by omega) (by omega) | rfl))) (prs_cons (pri rfl (p_field0 fo59_1 rfl)) (prs_cons (pri rfl (p_field fo56_3 rfl)) prs_nil)))))) rfl rfl rfl rfl rfl rfl rfl rfl rfl (fun _ _ => rfl) rfl (ms_store_row (k := 5) (o := 19 + (xq q 5 % 4).toNat) (c' := snC ((mkS q 16 (fun _ => 0) [] [] [] [] [] nilS nilS nilS nilS nilS).setC (xq q 5 % 4).toNat (IntKind.u32.wrap (xq q 6)))) t32 at_cregK rfl rfl rfl rfl rfl (by rw [snC_len]; exact Nat.ble_eq_true_of_le (by show 19 + (xq q 5 % 4).toNat + 1 ≤ 30; omega)) (snC_setC _ _ _ (by omega))) (fun _ _ => stg_end [] rfl rfl prs_nil rfl rfl rfl ?_)))
      refine r_seq ?_
      refine r_seq ?_
      refine r_region ?_
      refine r_p (p_assign rfl) rfl ?_
      refine r_nil ?_
      refine r_block ?_
      refine r_nilown 60 (α := Int) (S := 3) (s := 1) (enc := eI) ?_
      refine r_nilown 61 (α := ByteArray) (S := 9) (s := 1) (enc := eS) ?_
      refine r_nilown 62 (α := ByteArray) (S := 9) (s := 1) (enc := eS) ?_
      refine r_nilown 63 (α := Int) (S := 32) (s := 1) (enc := eU) ?_
      refine r_nilown 64 (α := Int) (S := 32) (s := 1) (enc := eU) ?_
      refine r_loop (X := Nat × SV × SV) (fun x => x.1 ≤ m3 q) (fun x => [(2, .pointer (some ⟨b2, 0, none⟩)), (3, .pointer (some ⟨b3, 0, none⟩)), (5, .pointer (some ⟨b5, 0, none⟩)), (7, .int .i64 (x.1 : Int))]) (fun x => [(2, row b2 59 (snC zSp)), (3, arr b3 103 12 (xv q)), (5, row b5 59 (snC (mkS q 16 (mC q) ((List.range x.1).map (fR q)) ((List.range x.1).map (fD q)) [] [] [] x.2.1 x.2.2 nilS nilS nilS))), (60, own 3 1 eI (sv x.2.1) ((List.range x.1).map (fR q))), (61, own 9 1 eS (sv x.2.2) ((List.range x.1).map (fD q))), (62, own 9 1 eS (sv nilS) []), (63, own 32 1 eU (sv nilS) []), (64, own 32 1 eU (sv nilS) [])]) (fun x => []) (fun x => m3 q - x.1) (0, nilS, nilS) (Nat.zero_le _) rfl rfl rfl (fun x hk0 => ?_)
      obtain ⟨k, y⟩ := x
      dsimp only at hk0 ⊢
      refine r_seq ?_
      refine r_seq ?_
      refine r_region ?_
      refine r_p (p_move rfl) rfl ?_
      refine r_p (p_idx_arr1 (j := 7) Try.underlying103 t3 rfl rfl (by rfl) (by decide)) rfl ?_
      refine r_p (p_load1 t3 rfl rfl (g_arr1 (k := 3) rfl (by omega))) rfl ?_
      refine r_p (p_bin rfl rfl (b_and (and3 _))) rfl ?_
      refine r_p (p_bin rfl rfl b_lt) rfl ?_
      refine r_nil ?_
      refine r_cond rfl (fun h7 => ?_) (fun h7 => ?_)
      · (try simp only [decide_eq_true_eq, decide_eq_false_iff_not, Bool.and_eq_true, Bool.or_eq_true, Bool.and_eq_false_iff, Bool.or_eq_false_iff, Bool.not_eq_true, Bool.not_eq_false, Bool.not_eq_true', Bool.not_eq_false', Bool.not_not, bne_iff_ne, beq_iff_eq] at h7)
        have hk : k < m3 q := by unfold m3; omega
        have hmb : m3 q ≤ 7 := by unfold m3; omega
        refine r_skip ?_
        refine r_seq ?_
        refine r_block ?_
        refine r_seq ?_
        refine r_draw [84, 85, 86, 87, 88, 89, 90, 91, 92] _ rfl (stg_mem (V := [(0, 84, _), (1, 85, _), (2, 86, _), (3, 87, _), (4, 88, _), (5, 89, _)]) [0, 1, 2, 3, 4, 5] 6 [6, 5, 4, 3, 2] [] (fun v90 => []) rfl rfl (prs_cons (pri rfl (p_field0 fo59_2 rfl)) (prs_cons (pri rfl (p_load1 t28 rfl rfl (g_row1 (k := 5) rfl rfl))) (prs_cons (pri rfl (p_idx_arr1 (j := 8) Try.underlying103 t3 rfl rfl (by rfl) (by decide))) (prs_cons (pri rfl (p_load1 t3 rfl rfl (g_arr1 (k := 3) rfl (by omega)))) (prs_cons (pri rfl (p_move rfl)) (prs_cons (pri rfl (p_bin rfl rfl (b_shr (by omega) (by first | decide | (simp [IntKind.bits]; omega)) rfl))) prs_nil)))))) rfl rfl rfl rfl rfl rfl rfl rfl rfl rfl rfl (fun _ _ => rfl) rfl (ms_bslice1 eI _ Try.underlying28 t3 rfl (by decide) (by decide) rfl rfl rfl) (fun v90 _ => stg_mem [0, 1] 7 [7, 6, 5, 4, 3, 2, 1, 0] [8] (fun v91 => [(8, 92, _)]) rfl rfl (prs_cons (pri rfl (p_field0 fo59_2 rfl)) (prs_cons (pri rfl (p_load1 t28 rfl rfl (g_row1 (k := 5) rfl rfl))) prs_nil)) rfl rfl rfl rfl rfl rfl rfl rfl rfl rfl rfl (fun _ _ => rfl) rfl (ms_append 60 Try.underlying28 t3 rfl (by decide) (fun _ => rfl) (fun _ => rfl) rfl rfl rfl (hs_own (k := 90) rfl) (by simp only [List.length_map, List.length_range, List.length_cons, List.length_nil]; omega) (by unfold maxLen; simp only [List.length_map, List.length_range, List.length_cons, List.length_nil]; omega)) (fun v91 _ => stg_mem0 [8] 9 [9, 8, 7, 6, 5, 4, 3, 2, 1, 0] [] (fun _ => []) rfl rfl (prs_cons (pri rfl (p_field0 fo59_2 rfl)) prs_nil) rfl rfl rfl rfl rfl rfl rfl rfl rfl (fun _ _ => rfl) rfl (ms_store_row (k := 5) t28 rfl rfl rfl rfl rfl rfl rfl rfl) (fun _ _ => stg_end [] rfl rfl prs_nil rfl rfl rfl ?_))))
        refine r_draw [93, 94, 95, 96, 97, 98, 99, 100, 101, 102, 103, 104, 105, 106, 107] _ rfl (stg_mem (V := [(0, 93, _), (1, 94, _), (2, 95, _), (3, 96, _), (4, 97, _), (5, 98, _), (6, 99, _), (7, 100, _), (8, 101, _), (9, 102, _), (10, 103, _)]) [0, 1, 2, 3, 4, 5, 6, 7, 8, 9, 10] 11 [11, 10, 9, 8, 7, 6, 5, 4, 3, 2] [] (fun _ => []) rfl rfl (prs_cons (pri rfl (p_field0 fo59_3 rfl)) (prs_cons (pri rfl (p_load1 t41 rfl rfl (g_row1 (k := 5) rfl rfl))) (prs_cons (pri rfl (p_idx_arr1 (j := 8) Try.underlying103 t3 rfl rfl (by rfl) (by decide))) (prs_cons (pri rfl (p_load1 t3 rfl rfl (g_arr1 (k := 3) rfl (by omega)))) (prs_cons (pri rfl (p_move rfl)) (prs_cons (pri rfl (p_bin rfl rfl (b_add rfl))) (prs_cons (pri rfl (p_conv Try.underlying3 Try.underlying32 rfl (by first | exact w_u32 (by omega) (by omega) | rfl))) (prs_cons (pri rfl (p_idx_arr1 (j := 9) Try.underlying103 t3 rfl rfl (by rfl) (by decide))) (prs_cons (pri rfl (p_load1 t3 rfl rfl (g_arr1 (k := 3) rfl (by omega)))) (prs_cons (pri rfl (p_bin rfl rfl (b_and (and65535 _)))) (prs_cons (pri rfl (p_bin rfl rfl (b_rem (by omega) (by first | exact tmod_pos (by omega) | rfl)))) prs_nil))))))))))) rfl rfl rfl rfl rfl rfl rfl rfl rfl rfl rfl (fun _ _ => rfl) rfl (ms_call (xs := [.tmp 99, .tmp 103]) (fill_spec (IntKind.u32.wrap (IntKind.i64.wrap (xq q 8 + k))) (xq q 9 % 65536 % 81) (by omega) (by omega)) cb18 [] [] [] [] rfl rfl rfl rfl rfl rfl rfl rfl (fun _ _ => rfl) (fun _ _ _ => rfl)) (fun _ _ => stg_mem [0, 1] 12 [12, 11, 10, 9, 8, 7, 6, 5, 4, 3, 2] [] (fun v105 => []) rfl rfl (prs_cons (pri rfl (p_field0 fo59_3 rfl)) (prs_cons (pri rfl (p_load1 t41 rfl rfl (g_row1 (k := 5) rfl rfl))) prs_nil)) rfl rfl rfl rfl rfl rfl rfl rfl rfl rfl rfl (fun _ _ => rfl) rfl (ms_bslice1 eS _ Try.underlying41 t9 rfl (by decide) (by decide) rfl rfl rfl) (fun v105 _ => stg_mem [0, 1] 13 [13, 12, 11, 10, 9, 8, 7, 6, 5, 4, 3, 2, 1, 0] [14] (fun v106 => [(14, 107, _)]) rfl rfl (prs_cons (pri rfl (p_field0 fo59_3 rfl)) (prs_cons (pri rfl (p_load1 t41 rfl rfl (g_row1 (k := 5) rfl rfl))) prs_nil)) rfl rfl rfl rfl rfl rfl rfl rfl rfl rfl rfl (fun _ _ => rfl) rfl (ms_append 61 Try.underlying41 t9 rfl (by decide) (fun _ => rfl) (fun _ => rfl) rfl rfl rfl (hs_own (k := 105) rfl) (by simp only [List.length_map, List.length_range, List.length_cons, List.length_nil]; omega) (by unfold maxLen; simp only [List.length_map, List.length_range, List.length_cons, List.length_nil]; omega)) (fun v106 _ => stg_mem0 [14] 15 [15, 14, 13, 12, 11, 10, 9, 8, 7, 6, 5, 4, 3, 2, 1, 0] [] (fun _ => []) rfl rfl (prs_cons (pri rfl (p_field0 fo59_3 rfl)) prs_nil) rfl rfl rfl rfl rfl rfl rfl rfl rfl (fun _ _ => rfl) rfl (ms_store_row (k := 5) t41 rfl rfl rfl rfl rfl rfl rfl rfl) (fun _ _ => stg_end [] rfl rfl prs_nil rfl rfl rfl ?_)))))
        refine r_region ?_
        refine r_p (p_move rfl) rfl ?_
        refine r_p (p_bin rfl rfl (b_add (by first | exact w_i64 (by omega) (by omega) | rfl))) rfl ?_
        refine r_p (p_assign rfl) rfl ?_
        refine r_nil ?_
        refine r_here (k + 1, v91, v106) ⟨by dsimp only; omega, by dsimp only; omega⟩ rfl (by rw [map_snoc, map_snoc]; rfl) rfl
      · (try simp only [decide_eq_true_eq, decide_eq_false_iff_not, Bool.and_eq_true, Bool.or_eq_true, Bool.and_eq_false_iff, Bool.or_eq_false_iff, Bool.not_eq_true, Bool.not_eq_false, Bool.not_eq_true', Bool.not_eq_false', Bool.not_not, bne_iff_ne, beq_iff_eq] at h7)
        have hk : k = m3 q := by unfold m3 at hk0 ⊢; omega
        subst hk
        refine r_exit ?_
        refine r_seq ?_
        refine r_seq ?_
        refine r_region ?_
        refine r_p (p_assign rfl) rfl ?_
        refine r_nil ?_
        refine r_block ?_
        refine r_loop (X := Nat × SV) (fun x => x.1 ≤ m4 q) (fun x => [(2, .pointer (some ⟨b2, 0, none⟩)), (3, .pointer (some ⟨b3, 0, none⟩)), (5, .pointer (some ⟨b5, 0, none⟩)), (8, .int .i64 (x.1 : Int))]) (fun x => [(2, row b2 59 (snC zSp)), (3, arr b3 103 12 (xv q)), (5, row b5 59 (snC (mkS q 16 (mC q) ((List.range (m3 q)).map (fR q)) ((List.range (m3 q)).map (fD q)) ((List.range x.1).map (fC q)) [] [] y.1 y.2 x.2 nilS nilS))), (60, own 3 1 eI (sv y.1) ((List.range (m3 q)).map (fR q))), (61, own 9 1 eS (sv y.2) ((List.range (m3 q)).map (fD q))), (62, own 9 1 eS (sv x.2) ((List.range x.1).map (fC q))), (63, own 32 1 eU (sv nilS) []), (64, own 32 1 eU (sv nilS) [])]) (fun x => []) (fun x => m4 q - x.1) (0, nilS) (Nat.zero_le _) rfl rfl rfl (fun x hk0 => ?_)
        obtain ⟨k, y4⟩ := x
        dsimp only at hk0 ⊢
        refine r_seq ?_
        refine r_seq ?_
        refine r_region ?_
        refine r_p (p_move rfl) rfl ?_
        refine r_p (p_idx_arr1 (j := 7) Try.underlying103 t3 rfl rfl (by rfl) (by decide)) rfl ?_
        refine r_p (p_load1 t3 rfl rfl (g_arr1 (k := 3) rfl (by omega))) rfl ?_
        refine r_p (p_bin rfl rfl (b_shr (c := xq q 7 / 4) (by decide) (by decide) rfl)) rfl ?_
        refine r_p (p_bin rfl rfl (b_and (and3 _))) rfl ?_
        refine r_p (p_bin rfl rfl b_lt) rfl ?_
        refine r_nil ?_
        refine r_cond rfl (fun h8 => ?_) (fun h8 => ?_)
        · (try simp only [decide_eq_true_eq, decide_eq_false_iff_not, Bool.and_eq_true, Bool.or_eq_true, Bool.and_eq_false_iff, Bool.or_eq_false_iff, Bool.not_eq_true, Bool.not_eq_false, Bool.not_eq_true', Bool.not_eq_false', Bool.not_not, bne_iff_ne, beq_iff_eq] at h8)
          have hk : k < m4 q := by unfold m4; omega
          have hmb : m4 q ≤ 7 := by unfold m4; omega
          refine r_skip ?_
          refine r_seq ?_
          refine r_block ?_
          refine r_draw [116, 117, 118, 119, 120, 121, 122, 123, 124, 125, 126, 127, 128, 129, 130] _ rfl (stg_mem (V := [(0, 116, _), (1, 117, _), (2, 118, _), (3, 119, _), (4, 120, _), (5, 121, _), (6, 122, _), (7, 123, _), (8, 124, _), (9, 125, _), (10, 126, _)]) [0, 1, 2, 3, 4, 5, 6, 7, 8, 9, 10] 11 [11, 10, 9, 8, 7, 6, 5, 4, 3, 2] [] (fun _ => []) rfl rfl (prs_cons (pri rfl (p_field0 fo59_4 rfl)) (prs_cons (pri rfl (p_load1 t41 rfl rfl (g_row1 (k := 5) rfl rfl))) (prs_cons (pri rfl (p_idx_arr1 (j := 9) Try.underlying103 t3 rfl rfl (by rfl) (by decide))) (prs_cons (pri rfl (p_load1 t3 rfl rfl (g_arr1 (k := 3) rfl (by omega)))) (prs_cons (pri rfl (p_move rfl)) (prs_cons (pri rfl (p_bin rfl rfl (b_sub rfl))) (prs_cons (pri rfl (p_conv Try.underlying3 Try.underlying32 rfl (by first | exact w_u32 (by omega) (by omega) | rfl))) (prs_cons (pri rfl (p_idx_arr1 (j := 8) Try.underlying103 t3 rfl rfl (by rfl) (by decide))) (prs_cons (pri rfl (p_load1 t3 rfl rfl (g_arr1 (k := 3) rfl (by omega)))) (prs_cons (pri rfl (p_bin rfl rfl (b_and (and65535 _)))) (prs_cons (pri rfl (p_bin rfl rfl (b_rem (by omega) (by first | exact tmod_pos (by omega) | rfl)))) prs_nil))))))))))) rfl rfl rfl rfl rfl rfl rfl rfl rfl rfl rfl (fun _ _ => rfl) rfl (ms_call (xs := [.tmp 122, .tmp 126]) (fill_spec (IntKind.u32.wrap (IntKind.i64.wrap (xq q 9 - k))) (xq q 8 % 65536 % 81) (by omega) (by omega)) cb18 [] [] [] [] rfl rfl rfl rfl rfl rfl rfl rfl (fun _ _ => rfl) (fun _ _ _ => rfl)) (fun _ _ => stg_mem [0, 1] 12 [12, 11, 10, 9, 8, 7, 6, 5, 4, 3, 2] [] (fun v128 => []) rfl rfl (prs_cons (pri rfl (p_field0 fo59_4 rfl)) (prs_cons (pri rfl (p_load1 t41 rfl rfl (g_row1 (k := 5) rfl rfl))) prs_nil)) rfl rfl rfl rfl rfl rfl rfl rfl rfl rfl rfl (fun _ _ => rfl) rfl (ms_bslice1 eS _ Try.underlying41 t9 rfl (by decide) (by decide) rfl rfl rfl) (fun v128 _ => stg_mem [0, 1] 13 [13, 12, 11, 10, 9, 8, 7, 6, 5, 4, 3, 2, 1, 0] [14] (fun v129 => [(14, 130, _)]) rfl rfl (prs_cons (pri rfl (p_field0 fo59_4 rfl)) (prs_cons (pri rfl (p_load1 t41 rfl rfl (g_row1 (k := 5) rfl rfl))) prs_nil)) rfl rfl rfl rfl rfl rfl rfl rfl rfl rfl rfl (fun _ _ => rfl) rfl (ms_append 62 Try.underlying41 t9 rfl (by decide) (fun _ => rfl) (fun _ => rfl) rfl rfl rfl (hs_own (k := 128) rfl) (by simp only [List.length_map, List.length_range, List.length_cons, List.length_nil]; omega) (by unfold maxLen; simp only [List.length_map, List.length_range, List.length_cons, List.length_nil]; omega)) (fun v129 _ => stg_mem0 [14] 15 [15, 14, 13, 12, 11, 10, 9, 8, 7, 6, 5, 4, 3, 2, 1, 0] [] (fun _ => []) rfl rfl (prs_cons (pri rfl (p_field0 fo59_4 rfl)) prs_nil) rfl rfl rfl rfl rfl rfl rfl rfl rfl (fun _ _ => rfl) rfl (ms_store_row (k := 5) t41 rfl rfl rfl rfl rfl rfl rfl rfl) (fun _ _ => stg_end [] rfl rfl prs_nil rfl rfl rfl ?_)))))
          refine r_region ?_
          refine r_p (p_move rfl) rfl ?_
          refine r_p (p_bin rfl rfl (b_add (by first | exact w_i64 (by omega) (by omega) | rfl))) rfl ?_
          refine r_p (p_assign rfl) rfl ?_
          refine r_nil ?_
          refine r_here (k + 1, v129) ⟨by dsimp only; omega, by dsimp only; omega⟩ rfl (by rw [map_snoc k (fC q)]; rfl) rfl
        · (try simp only [decide_eq_true_eq, decide_eq_false_iff_not, Bool.and_eq_true, Bool.or_eq_true, Bool.and_eq_false_iff, Bool.or_eq_false_iff, Bool.not_eq_true, Bool.not_eq_false, Bool.not_eq_true', Bool.not_eq_false', Bool.not_not, bne_iff_ne, beq_iff_eq] at h8)
          have hk : k = m4 q := by unfold m4 at hk0 ⊢; omega
          subst hk
          refine r_exit ?_
          refine r_seq ?_
          refine r_seq ?_
          refine r_region ?_
          refine r_p (p_assign rfl) rfl ?_
          refine r_nil ?_
          refine r_block ?_
          refine r_loop (X := Nat × SV) (fun x => x.1 ≤ m5 q) (fun x => [(2, .pointer (some ⟨b2, 0, none⟩)), (3, .pointer (some ⟨b3, 0, none⟩)), (5, .pointer (some ⟨b5, 0, none⟩)), (9, .int .i64 (x.1 : Int))]) (fun x => [(2, row b2 59 (snC zSp)), (3, arr b3 103 12 (xv q)), (5, row b5 59 (snC (mkS q 16 (mC q) ((List.range (m3 q)).map (fR q)) ((List.range (m3 q)).map (fD q)) ((List.range (m4 q)).map (fC q)) ((List.range x.1).map (fI q)) [] y.1 y.2 y4 x.2 nilS))), (60, own 3 1 eI (sv y.1) ((List.range (m3 q)).map (fR q))), (61, own 9 1 eS (sv y.2) ((List.range (m3 q)).map (fD q))), (62, own 9 1 eS (sv y4) ((List.range (m4 q)).map (fC q))), (63, own 32 1 eU (sv x.2) ((List.range x.1).map (fI q))), (64, own 32 1 eU (sv nilS) [])]) (fun x => []) (fun x => m5 q - x.1) (0, nilS) (Nat.zero_le _) rfl rfl rfl (fun x hk0 => ?_)
          obtain ⟨k, y5⟩ := x
          dsimp only at hk0 ⊢
          refine r_seq ?_
          refine r_seq ?_
          refine r_region ?_
          refine r_p (p_move rfl) rfl ?_
          refine r_p (p_idx_arr1 (j := 10) Try.underlying103 t3 rfl rfl (by rfl) (by decide)) rfl ?_
          refine r_p (p_load1 t3 rfl rfl (g_arr1 (k := 3) rfl (by omega))) rfl ?_
          refine r_p (p_bin rfl rfl (b_and (and7 _))) rfl ?_
          refine r_p (p_bin rfl rfl b_lt) rfl ?_
          refine r_nil ?_
          refine r_cond rfl (fun h9 => ?_) (fun h9 => ?_)
          · (try simp only [decide_eq_true_eq, decide_eq_false_iff_not, Bool.and_eq_true, Bool.or_eq_true, Bool.and_eq_false_iff, Bool.or_eq_false_iff, Bool.not_eq_true, Bool.not_eq_false, Bool.not_eq_true', Bool.not_eq_false', Bool.not_not, bne_iff_ne, beq_iff_eq] at h9)
            have hk : k < m5 q := by unfold m5; omega
            have hmb : m5 q ≤ 7 := by unfold m5; omega
            refine r_skip ?_
            refine r_seq ?_
            refine r_block ?_
            refine r_region ?_
            refine r_p (p_field0 fo59_5 rfl) rfl ?_
            refine r_p (p_load1 t57 rfl rfl (g_row1 (k := 5) rfl rfl)) rfl ?_
            refine r_p (p_idx_arr1 (j := 11) Try.underlying103 t3 rfl rfl (by rfl) (by decide)) rfl ?_
            refine r_p (p_load1 t3 rfl rfl (g_arr1 (k := 3) rfl (by omega))) rfl ?_
            refine r_p (p_move rfl) rfl ?_
            refine r_p (p_bin rfl rfl (b_add rfl)) rfl ?_
            refine r_p (p_conv Try.underlying3 Try.underlying32 rfl (by first | exact w_u32 (by omega) (by omega) | rfl)) rfl ?_
            refine r_bslice1 eU _ Try.underlying57 t32 rfl (by decide) (by decide) rfl rfl rfl rfl fun v145 => ?_
            refine r_append 63 Try.underlying57 t32 rfl (by decide) (fun _ => rfl) (fun _ => rfl) rfl rfl rfl (hs_own (k := 145) rfl) (by simp only [List.length_map, List.length_range, List.length_cons, List.length_nil]; omega) (by unfold maxLen; simp only [List.length_map, List.length_range, List.length_cons, List.length_nil]; omega) rfl fun v146 => ?_
            refine r_p (p_field0 fo59_5 rfl) rfl ?_
            refine r_store_row (k := 5) t57 rfl rfl rfl rfl rfl rfl rfl rfl ?_
            refine r_nil ?_
            refine r_region ?_
            refine r_p (p_move rfl) rfl ?_
            refine r_p (p_bin rfl rfl (b_add (by first | exact w_i64 (by omega) (by omega) | rfl))) rfl ?_
            refine r_p (p_assign rfl) rfl ?_
            refine r_nil ?_
            refine r_here (k + 1, v146) ⟨by dsimp only; omega, by dsimp only; omega⟩ rfl (by rw [map_snoc k (fI q)]; rfl) rfl
          · (try simp only [decide_eq_true_eq, decide_eq_false_iff_not, Bool.and_eq_true, Bool.or_eq_true, Bool.and_eq_false_iff, Bool.or_eq_false_iff, Bool.not_eq_true, Bool.not_eq_false, Bool.not_eq_true', Bool.not_eq_false', Bool.not_not, bne_iff_ne, beq_iff_eq] at h9)
            have hk : k = m5 q := by unfold m5 at hk0 ⊢; omega
            subst hk
            refine r_exit ?_
            refine r_seq ?_
            refine r_seq ?_
            refine r_region ?_
            refine r_p (p_assign rfl) rfl ?_
            refine r_nil ?_
            refine r_block ?_
            refine r_loop (X := Nat × SV) (fun x => x.1 ≤ m6 q) (fun x => [(2, .pointer (some ⟨b2, 0, none⟩)), (3, .pointer (some ⟨b3, 0, none⟩)), (5, .pointer (some ⟨b5, 0, none⟩)), (10, .int .i64 (x.1 : Int))]) (fun x => [(2, row b2 59 (snC zSp)), (3, arr b3 103 12 (xv q)), (5, row b5 59 (snC (mkS q 16 (mC q) ((List.range (m3 q)).map (fR q)) ((List.range (m3 q)).map (fD q)) ((List.range (m4 q)).map (fC q)) ((List.range (m5 q)).map (fI q)) ((List.range x.1).map (fO q)) y.1 y.2 y4 y5 x.2))), (60, own 3 1 eI (sv y.1) ((List.range (m3 q)).map (fR q))), (61, own 9 1 eS (sv y.2) ((List.range (m3 q)).map (fD q))), (62, own 9 1 eS (sv y4) ((List.range (m4 q)).map (fC q))), (63, own 32 1 eU (sv y5) ((List.range (m5 q)).map (fI q))), (64, own 32 1 eU (sv x.2) ((List.range x.1).map (fO q)))]) (fun x => []) (fun x => m6 q - x.1) (0, nilS) (Nat.zero_le _) rfl rfl rfl (fun x hk0 => ?_)
            obtain ⟨k, y6⟩ := x
            dsimp only at hk0 ⊢
            refine r_seq ?_
            refine r_seq ?_
            refine r_region ?_
            refine r_p (p_move rfl) rfl ?_
            refine r_p (p_idx_arr1 (j := 10) Try.underlying103 t3 rfl rfl (by rfl) (by decide)) rfl ?_
            refine r_p (p_load1 t3 rfl rfl (g_arr1 (k := 3) rfl (by omega))) rfl ?_
            refine r_p (p_bin rfl rfl (b_shr (c := xq q 10 / 8) (by decide) (by decide) rfl)) rfl ?_
            refine r_p (p_bin rfl rfl (b_and (and7 _))) rfl ?_
            refine r_p (p_bin rfl rfl b_lt) rfl ?_
            refine r_nil ?_
            refine r_cond rfl (fun h10 => ?_) (fun h10 => ?_)
            · (try simp only [decide_eq_true_eq, decide_eq_false_iff_not, Bool.and_eq_true, Bool.or_eq_true, Bool.and_eq_false_iff, Bool.or_eq_false_iff, Bool.not_eq_true, Bool.not_eq_false, Bool.not_eq_true', Bool.not_eq_false', Bool.not_not, bne_iff_ne, beq_iff_eq] at h10)
              have hk : k < m6 q := by unfold m6; omega
              have hmb : m6 q ≤ 7 := by unfold m6; omega
              refine r_skip ?_
              refine r_seq ?_
              refine r_block ?_
              refine r_region ?_
              refine r_p (p_field0 fo59_6 rfl) rfl ?_
              refine r_p (p_load1 t57 rfl rfl (g_row1 (k := 5) rfl rfl)) rfl ?_
              refine r_p (p_idx_arr1 (j := 11) Try.underlying103 t3 rfl rfl (by rfl) (by decide)) rfl ?_
              refine r_p (p_load1 t3 rfl rfl (g_arr1 (k := 3) rfl (by omega))) rfl ?_
              refine r_p (p_conv Try.underlying3 Try.underlying32 rfl (by first | exact w_u32 (by omega) (by omega) | rfl)) rfl ?_
              refine r_p (p_move rfl) rfl ?_
              refine r_p (p_conv Try.underlying3 Try.underlying32 rfl (by first | exact w_u32 (by omega) (by omega) | rfl)) rfl ?_
              refine r_p (p_bin rfl rfl (b_mul rfl)) rfl ?_
              refine r_bslice1 eU _ Try.underlying57 t32 rfl (by decide) (by decide) rfl rfl rfl rfl fun v164 => ?_
              refine r_append 64 Try.underlying57 t32 rfl (by decide) (fun _ => rfl) (fun _ => rfl) rfl rfl rfl (hs_own (k := 164) rfl) (by simp only [List.length_map, List.length_range, List.length_cons, List.length_nil]; omega) (by unfold maxLen; simp only [List.length_map, List.length_range, List.length_cons, List.length_nil]; omega) rfl fun v165 => ?_
              refine r_p (p_field0 fo59_6 rfl) rfl ?_
              refine r_store_row (k := 5) t57 rfl rfl rfl rfl rfl rfl rfl rfl ?_
              refine r_nil ?_
              refine r_region ?_
              refine r_p (p_move rfl) rfl ?_
              refine r_p (p_bin rfl rfl (b_add (by first | exact w_i64 (by omega) (by omega) | rfl))) rfl ?_
              refine r_p (p_assign rfl) rfl ?_
              refine r_nil ?_
              refine r_here (k + 1, v165) ⟨by dsimp only; omega, by dsimp only; omega⟩ rfl (by rw [map_snoc k (fO q)]; rfl) rfl
            · (try simp only [decide_eq_true_eq, decide_eq_false_iff_not, Bool.and_eq_true, Bool.or_eq_true, Bool.and_eq_false_iff, Bool.or_eq_false_iff, Bool.not_eq_true, Bool.not_eq_false, Bool.not_eq_true', Bool.not_eq_false', Bool.not_not, bne_iff_ne, beq_iff_eq] at h10)
              have hk : k = m6 q := by unfold m6 at hk0 ⊢; omega
              subst hk
              refine r_exit ?_
              refine r_seq ?_
              refine r_region ?_
              refine r_p (p_loadA t59 rfl rfl rfl (g_all (k := 5) rfl)) rfl ?_
              refine r_store_all (k := 2) t59 rfl rfl rfl rfl rfl rfl ?_
              refine r_nil ?_
              refine r_cret ?_
              refine r_freeze 60 60 rfl own_to_sl ?_
              refine r_freeze 61 61 rfl own_to_sl ?_
              refine r_freeze 62 62 rfl own_to_sl ?_
              refine r_freeze 63 63 rfl own_to_sl ?_
              refine r_freeze 64 64 rfl own_to_sl ?_
              refine r_mkSn 60 61 62 63 64 90 (x := madeS q y.1 y.2 y4 y5 y6) rfl rfl rfl rfl rfl ?_
              refine r_ret (madeS q y.1 y.2 y4 y5 y6) ⟨y.1, y.2, y4, y5, y6, rfl⟩ rfl (rs1 (rv_cellA t59 rfl rfl rfl (g_all (k := 2) rfl))) rfl [] [90] rfl rfl rfl
set_option maxHeartbeats 1000000 in
set_option maxRecDepth 100000 in
theorem crash0_e (D : Nat) (v : SV) (m : Nat) (off armed : Bool) (left : Int) (dur : List ByteArray) (fr : List (Int × ByteArray)) (vq : SV) (ql : List Int) (hlen : dur.length ≤ 65536) (hq0 : ql = []) (hv : vq.n = 0) (hq : ¬ 0 < ql.length) :
    Spec Try.prog 25 [.pointer (some ⟨D, 0, none⟩), sv vq] [row D 94 (dC v (some m) off armed left), mp mkI Prod.fst vS (some m) fr, own 9 1 eS (sv v) dur] [] (X := Unit) (fun _ => True) (fun _ => .tuple #[]) (fun _ => [row D 94 (dC v (some m) false false left), mp mkI Prod.fst vS (some m) (sdN ql (dur, fr, 0) dur.length).2.1, own 9 1 eS (sv v) (sdN ql (dur, fr, 0) dur.length).1]) (fun _ => []) := by
  refine r_enter Try.func25 rfl Try.ntmps25 rfl fun w0 M H => ?_
  refine r_seq ?_
  refine r_seq ?_
  refine r_region ?_
  refine r_p (p_move rfl) rfl ?_
  refine r_p (p_bin rfl rfl (b_eqPn Try.underlying24)) rfl ?_
  refine r_nil ?_
  refine r_cond rfl (fun h1 => ?_) (fun h1 => ?_)
  · exact absurd h1 (by simp)
  · (try simp only [decide_eq_true_eq, decide_eq_false_iff_not, Bool.and_eq_true, Bool.or_eq_true, Bool.and_eq_false_iff, Bool.or_eq_false_iff, Bool.not_eq_true, Bool.not_eq_false, Bool.not_eq_true', Bool.not_eq_false', Bool.not_not, bne_iff_ne, beq_iff_eq] at h1)
    refine r_skip ?_
    refine r_seq ?_
    refine r_region ?_
    refine r_p (p_assign rfl) rfl ?_
    refine r_nil ?_
    refine r_seq ?_
    refine r_seq ?_
    refine r_region ?_
    refine r_p (p_move rfl) rfl ?_
    refine r_p (p_nilCheck rfl) rfl ?_
    refine r_p (p_field0 fo94_0 rfl) rfl ?_
    refine r_p (p_load1 t41 rfl rfl (g_row1 (k := 0) rfl rfl)) rfl ?_
    refine r_p (p_len_sl Try.underlying41 rfl (hs_own (k := 2) rfl)) rfl ?_
    refine r_p (p_move rfl) rfl ?_
    refine r_nil ?_
    refine r_block ?_
    refine r_loop (X := Nat) (fun k => k ≤ dur.length) (fun k => [(0, .pointer (some ⟨D, 0, none⟩)), (1, sv vq), (4, .int .i64 ((sdN ql (dur, fr, 0) k).2.2 : Int)), (14, .int .i64 (dur.length : Int)), (15, .int .i64 (k : Int))]) (fun k => [(0, row D 94 (dC v (some m) off armed left)), (1, mp mkI Prod.fst vS (some m) (sdN ql (dur, fr, 0) k).2.1), (2, own 9 1 eS (sv v) (sdN ql (dur, fr, 0) k).1)]) (fun k => []) (fun k => dur.length - k) 0 (Nat.zero_le _) rfl rfl rfl (fun k hk0 => ?_)
    obtain ⟨hy1, hy3⟩ := sdN_len ql (dur, fr, 0) k
    dsimp only at hy1 hy3
    obtain ⟨r, hr⟩ : ∃ r, (sdN ql (dur, fr, 0) k).2.1.find? (fun p => decide (p.1 = (k : Int))) = r := ⟨_, rfl⟩
    refine r_seq ?_
    refine r_region ?_
    refine r_p (p_bin rfl rfl b_lt) rfl ?_
    refine r_nil ?_
    refine r_seq ?_
    refine r_cond rfl (fun h2 => ?_) (fun h2 => ?_)
    · (try simp only [decide_eq_true_eq, decide_eq_false_iff_not, Bool.and_eq_true, Bool.or_eq_true, Bool.and_eq_false_iff, Bool.or_eq_false_iff, Bool.not_eq_true, Bool.not_eq_false, Bool.not_eq_true', Bool.not_eq_false', Bool.not_not, bne_iff_ne, beq_iff_eq] at h2)
      have hk : k < dur.length := by omega
      refine r_skip ?_
      refine r_seq ?_
      refine r_block ?_
      refine r_seq ?_
      refine r_region ?_
      refine r_p (p_move rfl) rfl ?_
      refine r_p (p_assign rfl) rfl ?_
      refine r_nil ?_
      refine r_seq ?_
      refine r_region ?_
      refine r_p (p_move rfl) rfl ?_
      refine r_p (p_nilCheck rfl) rfl ?_
      refine r_p (p_field0 fo94_1 rfl) rfl ?_
      refine r_p (p_load1 t92 rfl rfl (g_row1 (k := 0) rfl rfl)) rfl ?_
      refine r_p (p_move rfl) rfl ?_
      refine r_p (p_lookup Try.underlying92 keyI t9 rfl rfl (hm_own (k := 1) rfl) hr) rfl ?_
      refine r_p (p_move rfl) rfl ?_
      refine r_p (p_extract rfl rfl) rfl ?_
      refine r_p (p_extract rfl rfl) rfl ?_
      refine r_p (p_assign rfl) rfl ?_
      refine r_p (p_assign rfl) rfl ?_
      refine r_nil ?_
      refine r_seq ?_
      refine r_seq ?_
      refine r_region ?_
      refine r_p (p_move rfl) rfl ?_
      refine r_p (p_not rfl) rfl ?_
      refine r_nil ?_
      refine r_cond rfl (fun h3 => ?_) (fun h3 => ?_)
      · have hrn : r = none := by simpa using h3
        subst hrn
        refine r_exit ?_
        refine r_region ?_
        refine r_p (p_bin rfl rfl (b_add (by first | exact w_i64 (by omega) (by omega) | rfl))) rfl ?_
        refine r_p (p_move rfl) rfl ?_
        refine r_nil ?_
        have hs : (sdN ql (dur, fr, 0) (k + 1)) = (sdN ql (dur, fr, 0) k) := by
          show std ql _ k = _
          unfold std
          rw [hr]
        refine r_here (k + 1) ⟨by omega, by omega⟩ (by rw [hs]; rfl) (by rw [hs]; rfl) rfl
      · obtain ⟨p, hrp⟩ : ∃ p, r = some p := Option.isSome_iff_exists.1 (by simpa using h3)
        subst hrp
        refine r_skip ?_
        refine r_seq ?_
        refine r_seq ?_
        refine r_region ?_
        refine r_p (p_move rfl) rfl ?_
        refine r_p (p_len_sv Try.underlying28 rfl) rfl ?_
        refine r_p (p_bin rfl rfl b_gt) rfl ?_
        refine r_p (p_move rfl) rfl ?_
        refine r_split (t := 32) rfl (fun h4 => False.elim (by simp [hv] at h4)) (fun h4 => ?_)
        refine r_gno rfl rfl rfl rfl ?_
        refine r_gno rfl rfl rfl rfl ?_
        refine r_gno rfl rfl rfl rfl ?_
        refine r_gno rfl rfl rfl rfl ?_
        refine r_gno rfl rfl rfl rfl ?_
        refine r_gno rfl rfl rfl rfl ?_
        refine r_gno rfl rfl rfl rfl ?_
        refine r_gno rfl rfl rfl rfl ?_
        refine r_gno rfl rfl rfl rfl ?_
        refine r_p (p_pick rfl rfl rfl (by first | exact pick_and | exact pick_or |  rfl)) rfl ?_
        refine r_nil ?_
        refine r_cond rfl (fun h5 => ?_) (fun h5 => ?_)
        · have hp3 : crB ql (sdN ql (dur, fr, 0) k).2.2 = true := by unfold crB; simp at h5
          refine r_region ?_
          refine r_p (p_move rfl) rfl ?_
          refine r_p (p_nilCheck rfl) rfl ?_
          refine r_p (p_field0 fo94_0 rfl) rfl ?_
          refine r_p (p_load1 t41 rfl rfl (g_row1 (k := 0) rfl rfl)) rfl ?_
          refine r_p (p_move rfl) rfl ?_
          refine r_p (p_move rfl) rfl ?_
          refine r_p (p_idx_sl (j := k) Try.underlying41 t9 rfl rfl (hs_own (k := 2) rfl) (by first | rfl | omega) (by first | omega | (simp; done) | (simp; omega))) rfl ?_
          refine r_store_el (k := 2) (e' := p.2) t9 rfl rfl rfl (by intro _; rfl) (getD_get ByteArray.empty (by omega)) rfl rfl ?_
          refine r_nil ?_
          refine r_seq ?_
          refine r_region ?_
          refine r_p (p_move rfl) rfl ?_
          refine r_p (p_nilCheck rfl) rfl ?_
          refine r_p (p_field0 fo94_1 rfl) rfl ?_
          refine r_p (p_load1 t92 rfl rfl (g_row1 (k := 0) rfl rfl)) rfl ?_
          refine r_p (p_move rfl) rfl ?_
          refine r_mpo 1 rfl (fun ms clk hpm hW => ?_)
          refine r_ms0 (ms_deleteS (kn := 1) Try.underlying92 keyI (k := (k : Int)) rfl rfl rfl) fun _ _ => ?_
          refine r_conva (k := 1) rfl (mps_mp (L := (sdN ql (dur, fr, 0) k).2.1.filter fun p => decide (p.1 ≠ (k : Int))) (by rw [fmf (p := fun p : Int × ByteArray => decide (p.1 ≠ (k : Int)))]; exact hpm.filter _)) ?_
          refine r_nil ?_
          refine r_region ?_
          refine r_p (p_move rfl) rfl ?_
          refine r_p (p_bin rfl rfl (b_add (by first | exact w_i64 (by omega) (by omega) | rfl))) rfl ?_
          refine r_p (p_assign rfl) rfl ?_
          refine r_nil ?_
          refine r_region ?_
          refine r_p (p_bin rfl rfl (b_add (by first | exact w_i64 (by omega) (by omega) | rfl))) rfl ?_
          refine r_p (p_move rfl) rfl ?_
          refine r_nil ?_
          have hs : (sdN ql (dur, fr, 0) (k + 1)) = ((sdN ql (dur, fr, 0) k).1.set k p.2, (sdN ql (dur, fr, 0) k).2.1.filter (fun p => decide (p.1 ≠ (k : Int))), (sdN ql (dur, fr, 0) k).2.2 + 1) := by
            show std ql _ k = _
            unfold std
            rw [hr]
            dsimp only
            rw [if_pos hp3]
          refine r_here (k + 1) ⟨by omega, by omega⟩ (by rw [hs]; rfl) (by rw [hs]; rfl) rfl
        · have hp3 : ¬ crB ql (sdN ql (dur, fr, 0) k).2.2 = true := by unfold crB; rw [decide_eq_false hq]; simp
          refine r_skip ?_
          refine r_seq ?_
          refine r_region ?_
          refine r_p (p_move rfl) rfl ?_
          refine r_p (p_nilCheck rfl) rfl ?_
          refine r_p (p_field0 fo94_1 rfl) rfl ?_
          refine r_p (p_load1 t92 rfl rfl (g_row1 (k := 0) rfl rfl)) rfl ?_
          refine r_p (p_move rfl) rfl ?_
          refine r_mpo 1 rfl (fun ms clk hpm hW => ?_)
          refine r_ms0 (ms_deleteS (kn := 1) Try.underlying92 keyI (k := (k : Int)) rfl rfl rfl) fun _ _ => ?_
          refine r_conva (k := 1) rfl (mps_mp (L := (sdN ql (dur, fr, 0) k).2.1.filter fun p => decide (p.1 ≠ (k : Int))) (by rw [fmf (p := fun p : Int × ByteArray => decide (p.1 ≠ (k : Int)))]; exact hpm.filter _)) ?_
          refine r_nil ?_
          refine r_region ?_
          refine r_p (p_move rfl) rfl ?_
          refine r_p (p_bin rfl rfl (b_add (by first | exact w_i64 (by omega) (by omega) | rfl))) rfl ?_
          refine r_p (p_assign rfl) rfl ?_
          refine r_nil ?_
          refine r_region ?_
          refine r_p (p_bin rfl rfl (b_add (by first | exact w_i64 (by omega) (by omega) | rfl))) rfl ?_
          refine r_p (p_move rfl) rfl ?_
          refine r_nil ?_
          have hs : (sdN ql (dur, fr, 0) (k + 1)) = ((sdN ql (dur, fr, 0) k).1, (sdN ql (dur, fr, 0) k).2.1.filter (fun p => decide (p.1 ≠ (k : Int))), (sdN ql (dur, fr, 0) k).2.2 + 1) := by
            show std ql _ k = _
            unfold std
            rw [hr]
            dsimp only
            rw [if_neg hp3]
          refine r_here (k + 1) ⟨by omega, by omega⟩ (by rw [hs]; rfl) (by rw [hs]; rfl) rfl
    · (try simp only [decide_eq_true_eq, decide_eq_false_iff_not, Bool.and_eq_true, Bool.or_eq_true, Bool.and_eq_false_iff, Bool.or_eq_false_iff, Bool.not_eq_true, Bool.not_eq_false, Bool.not_eq_true', Bool.not_eq_false', Bool.not_not, bne_iff_ne, beq_iff_eq] at h2)
      have hk : k = dur.length := by omega
      subst hk
      refine r_exit ?_
      refine r_region ?_
      refine r_p (p_move rfl) rfl ?_
      refine r_p (p_move rfl) rfl ?_
      refine r_p (p_nilCheck rfl) rfl ?_
      refine r_p (p_field0 fo94_2 rfl) rfl ?_
      refine r_store_row (k := 0) t4 rfl rfl rfl rfl rfl rfl rfl rfl ?_
      refine r_p (p_nilCheck rfl) rfl ?_
      refine r_p (p_field0 fo94_3 rfl) rfl ?_
      refine r_store_row (k := 0) t4 rfl rfl rfl rfl rfl rfl rfl rfl ?_
      refine r_nil ?_
      refine r_end () trivial rfl rs0 rfl [0, 1, 2] [] rfl rfl rfl
set_option maxRecDepth 100000 in
theorem made_q (v : SV) (q : List Int) : Spec Try.prog 31 [sv v] [] [slq v q] (X := Sp) (fun x => ∃ a b c d e, x = madeS q a b c d e) (fun x => snV x) (fun _ => []) (fun x => [snA x]) :=
  spec_slq (made_spec v q) fun h1 h2 => made0_spec v q h1 h2
set_option maxRecDepth 100000 in
theorem crash_q (D : Nat) (v : SV) (m : Nat) (off armed : Bool) (left : Int) (dur : List ByteArray) (fr : List (Int × ByteArray)) (vq : SV) (ql : List Int) (hlen : dur.length ≤ 65536) :
    Spec Try.prog 25 [.pointer (some ⟨D, 0, none⟩), sv vq] [row D 94 (dC v (some m) off armed left), mp mkI Prod.fst vS (some m) fr, own 9 1 eS (sv v) dur] [slq vq ql] (X := Unit) (fun _ => True) (fun _ => .tuple #[]) (fun _ => [row D 94 (dC v (some m) false false left), mp mkI Prod.fst vS (some m) (sdN ql (dur, fr, 0) dur.length).2.1, own 9 1 eS (sv v) (sdN ql (dur, fr, 0) dur.length).1]) (fun _ => []) :=
  spec_slq (crash_spec D v m off armed left dur fr vq ql hlen) fun h1 h2 => crash0_e D v m off armed left dur fr vq ql hlen h1 h2 (by rw [h1]; simp)


end Go.Proofs.Ytohenjmkhncoiaa
