/-
  A copy of a block, and that a copy is the same. No condition.
-/
import Derived.Test.YtfdbkclbcajkiaaD3
import Derived.Test.YtfdbkclbcajkiaaC5
namespace Go.Proofs.Ytfdbkclbcajkiaa
set_option linter.unusedSimpArgs false
set_option linter.unusedVariables false
open Go.RowKit

/-- An operation equals itself. -/
theorem b_neOp (o : OpR) : BinRun Try.prog .neq 47 (vOp o) (vOp o) (.bool false) := fun x y w => by
  have hq : Try.prog.eqGuardType Try.prog.depth 47 = false := by kernel_rfl
  have hs : Try.prog.stoodInHeld 47 = false := by kernel_rfl
  have hf := t47.und
  have hF : Try.prog.underlying 47 = some (.struct (Try.prog.fieldsOf 47)) := by simp only [Program.fieldsOf, hf]
  have i (k : Nat) (n : Int) (hk : #[Value.int .i64 o.c, .int .i64 o.d, .int .i64 o.a, .int .i64 o.b, .int .u32 o.n][k]? = some (.int .i64 n)) := run_part1 (o := k) t3 rfl hk w
  have j := run_part1 (o := 4) (cs := #[Value.int .i64 o.c, .int .i64 o.d, .int .i64 o.a, .int .i64 o.b, .int .u32 o.n]) t45 rfl rfl w
  have q (n : Int) := run_equalIn_int (P := Try.prog) w 9998 3 .i64 .i64 n n t3.und
  have q2 := run_equalIn_int (P := Try.prog) w 9998 45 .u32 .u32 o.n o.n t45.und
  simp only [vOp, eOp, Sem.run_bind, run_eqGuard_agg w .neq 47 x y _ _ hq, Result.andThen_ok, run_neq_struct]
  rw [run_equalIn_struct w 9999 _ _ _ hF hs]
  simp [Program.fieldsOf, hf, Op.eqFields, i 0 o.c rfl, i 1 o.d rfl, i 2 o.a rfl, i 3 o.b rfl, j, q, q2, Sem.run_bind]

set_option maxRecDepth 100000 in
theorem own_spec (va vp vo : SV) (sw sa : List Int) (ops : List OpR) (hl : ops.length ≤ 200) (hal : sw.length ≤ 20 ∧ sa.length ≤ 1) :
    Spec Try.prog 20 [.agg #[sv va, sv vp, sv vo]] [] [sl 1 eW (sv va) sw, sl 1 eI (sv vp) sa, sl 5 eOp (sv vo) ops] (X := (SV × SV × SV)) (fun _ => True) (fun x => .agg #[sv x.1, sv x.2.1, sv x.2.2]) (fun _ => []) (fun x => [sl 1 eW (sv x.1) sw, sl 1 eI (sv x.2.1) sa, sl 5 eOp (sv x.2.2) ops]) := by
  refine r_enter Try.func20 rfl Try.ntmps20 rfl fun w0 M H => ?_
  refine r_nilown 100 (S := 45) (s := 1) (enc := eW) ?_
  refine r_nilown 101 (S := 3) (s := 1) (enc := eI) ?_
  refine r_nilown 102 (S := 47) (s := 5) (enc := eOp) ?_
  refine r_seq ?_
  refine r_region ?_
  refine r_boxA rfl rfl fun b1 => ?_
  refine r_alloc t28 rfl rfl fun b2 => ?_
  refine r_nil ?_
  refine r_seq ?_
  refine r_region ?_
  refine r_alloc t28 rfl rfl fun b3 => ?_
  refine r_nil ?_
  refine r_seq ?_
  refine r_region ?_
  refine r_p (p_field0 fo28_0 rfl) rfl ?_
  refine r_p (p_load1 t25 rfl rfl (g_row1 (k := 3) rfl rfl)) rfl ?_
  refine r_p (p_field0 fo28_0 rfl) rfl ?_
  refine r_p (p_load1 t25 rfl rfl (g_row1 (k := 1) rfl rfl)) rfl ?_
  refine r_append 100 Try.underlying25 t45 rfl (by decide) (fun _ => rfl) (fun _ => rfl) rfl rfl rfl (hs_sl (k := 0) rfl) (by first | omega | (simp; done) | (simp; omega)) (by unfold maxLen; first | omega | (simp; done) | (simp; omega)) rfl fun v8 => ?_
  refine r_p (p_field0 fo28_0 rfl) rfl ?_
  refine r_store_row (k := 3) t25 rfl rfl rfl rfl rfl rfl rfl rfl ?_
  refine r_nil ?_
  refine r_seq ?_
  refine r_region ?_
  refine r_p (p_field0 fo28_1 rfl) rfl ?_
  refine r_p (p_load1 t22 rfl rfl (g_row1 (k := 3) rfl rfl)) rfl ?_
  refine r_p (p_field0 fo28_1 rfl) rfl ?_
  refine r_p (p_load1 t22 rfl rfl (g_row1 (k := 1) rfl rfl)) rfl ?_
  refine r_append 101 Try.underlying22 t3 rfl (by decide) (fun _ => rfl) (fun _ => rfl) rfl rfl rfl (hs_sl (k := 1) rfl) (by first | omega | (simp; done) | (simp; omega)) (by unfold maxLen; first | omega | (simp; done) | (simp; omega)) rfl fun v14 => ?_
  refine r_p (p_field0 fo28_1 rfl) rfl ?_
  refine r_store_row (k := 3) t22 rfl rfl rfl rfl rfl rfl rfl rfl ?_
  refine r_nil ?_
  refine r_seq ?_
  refine r_region ?_
  refine r_p (p_field0 fo28_2 rfl) rfl ?_
  refine r_p (p_load1 t26 rfl rfl (g_row1 (k := 3) rfl rfl)) rfl ?_
  refine r_p (p_field0 fo28_2 rfl) rfl ?_
  refine r_p (p_load1 t26 rfl rfl (g_row1 (k := 1) rfl rfl)) rfl ?_
  refine r_append 102 Try.underlying26 t47 rfl (by decide) (fun _ => rfl) (fun _ => rfl) rfl rfl rfl (hs_sl (k := 2) rfl) (by first | omega | (simp; done) | (simp; omega)) (by unfold maxLen; first | omega | (simp; done) | (simp; omega)) rfl fun v20 => ?_
  refine r_p (p_field0 fo28_2 rfl) rfl ?_
  refine r_store_row (k := 3) t26 rfl rfl rfl rfl rfl rfl rfl rfl ?_
  refine r_freeze 100 100 rfl own_to_sl ?_
  refine r_freeze 101 101 rfl own_to_sl ?_
  refine r_freeze 102 102 rfl own_to_sl ?_
  refine r_nil ?_
  refine r_seq ?_
  refine r_region ?_
  refine r_p (p_loadA t28 rfl rfl rfl (g_all (k := 3) rfl)) rfl ?_
  refine r_store_all (k := 2) t28 rfl rfl rfl rfl rfl rfl ?_
  refine r_nil ?_
  refine r_cret ?_
  refine r_ret (v8, v14, v20) trivial rfl (rs1 (rv_cellA t28 rfl rfl rfl (g_all (k := 2) rfl))) rfl [] [100, 101, 102] rfl rfl rfl
set_option maxRecDepth 100000 in
theorem same_spec (va vp vo wa wp wo : SV) (sw sa : List Int) (ops : List OpR) (hl : ops.length ≤ 200) (hal : sw.length ≤ 20 ∧ sa.length ≤ 1) :
    Spec Try.prog 22 [.agg #[sv va, sv vp, sv vo], .agg #[sv wa, sv wp, sv wo]] [] [sl 1 eW (sv va) sw, sl 1 eI (sv vp) sa, sl 5 eOp (sv vo) ops, sl 1 eW (sv wa) sw, sl 1 eI (sv wp) sa, sl 5 eOp (sv wo) ops] (X := Unit) (fun _ => True) (fun _ => .bool true) (fun _ => []) (fun _ => []) := by
  refine r_enter Try.func22 rfl Try.ntmps22 rfl fun w0 M H => ?_
  refine r_seq ?_
  refine r_region ?_
  refine r_boxA rfl rfl fun b2 => ?_
  refine r_boxA rfl rfl fun b3 => ?_
  refine r_p (p_assign rfl) rfl ?_
  refine r_nil ?_
  refine r_seq ?_
  refine r_seq ?_
  refine r_region ?_
  refine r_p (p_field0 fo28_0 rfl) rfl ?_
  refine r_p (p_load1 t25 rfl rfl (g_row1 (k := 2) rfl rfl)) rfl ?_
  refine r_p (p_len_sl Try.underlying25 rfl (hs_sl (k := 0) rfl)) rfl ?_
  refine r_p (p_field0 fo28_0 rfl) rfl ?_
  refine r_p (p_load1 t25 rfl rfl (g_row1 (k := 3) rfl rfl)) rfl ?_
  refine r_p (p_len_sl Try.underlying25 rfl (hs_sl (k := 3) rfl)) rfl ?_
  refine r_p (p_bin rfl rfl b_ne) rfl ?_
  refine r_p (p_move rfl) rfl ?_
  refine r_gp [] rfl rfl trivial (fun hg1 => p_field0 fo28_1 rfl) rfl ?_
  refine r_gp [(16, _)] rfl rfl ⟨rfl, trivial⟩ (fun hg2 => p_load1 t22 rfl rfl (g_row1 (k := 2) rfl rfl)) rfl ?_
  refine r_gp [(16, _), (17, _)] rfl rfl ⟨rfl, rfl, trivial⟩ (fun hg3 => p_len_sl Try.underlying22 rfl (hs_sl (k := 1) rfl)) rfl ?_
  refine r_gp [(16, _), (17, _), (18, _)] rfl rfl ⟨rfl, rfl, rfl, trivial⟩ (fun hg4 => p_field0 fo28_1 rfl) rfl ?_
  refine r_gp [(16, _), (17, _), (18, _), (19, _)] rfl rfl ⟨rfl, rfl, rfl, rfl, trivial⟩ (fun hg5 => p_load1 t22 rfl rfl (g_row1 (k := 3) rfl rfl)) rfl ?_
  refine r_gp [(16, _), (17, _), (18, _), (19, _), (20, _)] rfl rfl ⟨rfl, rfl, rfl, rfl, rfl, trivial⟩ (fun hg6 => p_len_sl Try.underlying22 rfl (hs_sl (k := 4) rfl)) rfl ?_
  refine r_gp [(16, _), (17, _), (18, _), (19, _), (20, _), (21, _)] rfl rfl ⟨rfl, rfl, rfl, rfl, rfl, rfl, trivial⟩ (fun hg7 => p_bin rfl rfl b_ne) rfl ?_
  refine r_p (p_pick rfl rfl rfl (by first | exact pick_and | exact pick_or |  rfl)) rfl ?_
  refine r_p (p_move rfl) rfl ?_
  refine r_gp [] rfl rfl trivial (fun hg8 => p_field0 fo28_2 rfl) rfl ?_
  refine r_gp [(25, _)] rfl rfl ⟨rfl, trivial⟩ (fun hg9 => p_load1 t26 rfl rfl (g_row1 (k := 2) rfl rfl)) rfl ?_
  refine r_gp [(25, _), (26, _)] rfl rfl ⟨rfl, rfl, trivial⟩ (fun hg10 => p_len_sl Try.underlying26 rfl (hs_sl (k := 2) rfl)) rfl ?_
  refine r_gp [(25, _), (26, _), (27, _)] rfl rfl ⟨rfl, rfl, rfl, trivial⟩ (fun hg11 => p_field0 fo28_2 rfl) rfl ?_
  refine r_gp [(25, _), (26, _), (27, _), (28, _)] rfl rfl ⟨rfl, rfl, rfl, rfl, trivial⟩ (fun hg12 => p_load1 t26 rfl rfl (g_row1 (k := 3) rfl rfl)) rfl ?_
  refine r_gp [(25, _), (26, _), (27, _), (28, _), (29, _)] rfl rfl ⟨rfl, rfl, rfl, rfl, rfl, trivial⟩ (fun hg13 => p_len_sl Try.underlying26 rfl (hs_sl (k := 5) rfl)) rfl ?_
  refine r_gp [(25, _), (26, _), (27, _), (28, _), (29, _), (30, _)] rfl rfl ⟨rfl, rfl, rfl, rfl, rfl, rfl, trivial⟩ (fun hg14 => p_bin rfl rfl b_ne) rfl ?_
  refine r_p (p_pick rfl rfl rfl (by first | exact pick_and | exact pick_or |  rfl)) rfl ?_
  refine r_nil ?_
  refine r_cond rfl (fun h15 => ?_) (fun h15 => ?_)
  · exfalso; simp at h15
  · (try simp only [decide_eq_true_eq, decide_eq_false_iff_not, Bool.and_eq_true, Bool.or_eq_true, Bool.and_eq_false_iff, Bool.or_eq_false_iff, Bool.not_eq_true, Bool.not_eq_false, Bool.not_eq_true', Bool.not_eq_false', Bool.not_not, bne_iff_ne, beq_iff_eq] at h15)
    refine r_skip ?_
    refine r_seq ?_
    refine r_seq ?_
    refine r_region ?_
    refine r_p (p_assign rfl) rfl ?_
    refine r_nil ?_
    refine r_block ?_
    refine r_loop (X := Nat) (fun k => k ≤ sw.length) (fun k => [(2, .pointer (some ⟨b2, 0, none⟩)), (3, .pointer (some ⟨b3, 0, none⟩)), (5, .int .i64 (k : Int))]) (fun k => [(2, row b2 28 [sv va, sv vp, sv vo]), (3, row b3 28 [sv wa, sv wp, sv wo])]) (fun k => [(0, sl 1 eW (sv va) sw), (1, sl 1 eI (sv vp) sa), (2, sl 5 eOp (sv vo) ops), (3, sl 1 eW (sv wa) sw), (4, sl 1 eI (sv wp) sa), (5, sl 5 eOp (sv wo) ops)]) (fun k => sw.length - k) 0 (Nat.zero_le _) rfl rfl rfl (fun k hk0 => ?_)
    refine r_seq ?_
    refine r_seq ?_
    refine r_region ?_
    refine r_p (p_move rfl) rfl ?_
    refine r_p (p_field0 fo28_0 rfl) rfl ?_
    refine r_p (p_load1 t25 rfl rfl (g_row1 (k := 2) rfl rfl)) rfl ?_
    refine r_p (p_len_sl Try.underlying25 rfl (hs_sl (k := 0) rfl)) rfl ?_
    refine r_p (p_bin rfl rfl b_lt) rfl ?_
    refine r_nil ?_
    refine r_cond rfl (fun h16 => ?_) (fun h16 => ?_)
    · (try simp only [decide_eq_true_eq, decide_eq_false_iff_not, Bool.and_eq_true, Bool.or_eq_true, Bool.and_eq_false_iff, Bool.or_eq_false_iff, Bool.not_eq_true, Bool.not_eq_false, Bool.not_eq_true', Bool.not_eq_false', Bool.not_not, bne_iff_ne, beq_iff_eq] at h16)
      have hk : k < sw.length := by omega
      refine r_skip ?_
      refine r_seq ?_
      refine r_block ?_
      refine r_seq ?_
      refine r_draw [40, 41, 42, 43, 44, 45, 46, 47, 48, 49, 50] _ rfl (stg_end (V := [(0, 40, _), (1, 41, _), (2, 42, _), (3, 43, _), (4, 44, _), (5, 45, _), (6, 46, _), (7, 47, _), (8, 48, _), (9, 49, _), (10, 50, _)]) [0, 1, 2, 3, 4, 5, 6, 7, 8, 9, 10] rfl rfl (prs_cons (pri rfl (p_field0 fo28_0 rfl)) (prs_cons (pri rfl (p_load1 t25 rfl rfl (g_row1 (k := 2) rfl rfl))) (prs_cons (pri rfl (p_move rfl)) (prs_cons (pri rfl (p_idx_sl (j := k) Try.underlying25 t45 rfl rfl (hs_sl (k := 0) rfl) (by first | rfl | omega) (by first | omega | (simp; done) | (simp; omega)))) (prs_cons (pri rfl (p_load1 t45 rfl rfl (g_el' (hs_sl (k := 0) rfl) (by intro _; rfl) (getD_get 0 (by omega)) (by rfl)))) (prs_cons (pri rfl (p_field0 fo28_0 rfl)) (prs_cons (pri rfl (p_load1 t25 rfl rfl (g_row1 (k := 3) rfl rfl))) (prs_cons (pri rfl (p_move rfl)) (prs_cons (pri rfl (p_idx_sl (j := k) Try.underlying25 t45 rfl rfl (hs_sl (k := 3) rfl) (by first | rfl | omega) (by first | omega | (simp; done) | (simp; omega)))) (prs_cons (pri rfl (p_load1 t45 rfl rfl (g_el' (hs_sl (k := 3) rfl) (by intro _; rfl) (getD_get 0 (by omega)) (by rfl)))) (prs_cons (pri rfl (p_bin rfl rfl b_ne)) prs_nil))))))))))) rfl rfl rfl ?_)
      refine r_cond rfl (fun h17 => ?_) (fun h17 => ?_)
      · exfalso; simp at h17
      · (try simp only [decide_eq_true_eq, decide_eq_false_iff_not, Bool.and_eq_true, Bool.or_eq_true, Bool.and_eq_false_iff, Bool.or_eq_false_iff, Bool.not_eq_true, Bool.not_eq_false, Bool.not_eq_true', Bool.not_eq_false', Bool.not_not, bne_iff_ne, beq_iff_eq] at h17)
        refine r_skip ?_
        refine r_region ?_
        refine r_p (p_move rfl) rfl ?_
        refine r_p (p_bin rfl rfl (b_add (by first | exact w_i64 (by omega) (by omega) | rfl))) rfl ?_
        refine r_p (p_assign rfl) rfl ?_
        refine r_nil ?_
        refine r_here (k + 1) ⟨by omega, by omega⟩ rfl rfl rfl
    · (try simp only [decide_eq_true_eq, decide_eq_false_iff_not, Bool.and_eq_true, Bool.or_eq_true, Bool.and_eq_false_iff, Bool.or_eq_false_iff, Bool.not_eq_true, Bool.not_eq_false, Bool.not_eq_true', Bool.not_eq_false', Bool.not_not, bne_iff_ne, beq_iff_eq] at h16)
      have hk : k = sw.length := by omega
      refine r_exit ?_
      refine r_seq ?_
      refine r_seq ?_
      refine r_region ?_
      refine r_p (p_assign rfl) rfl ?_
      refine r_nil ?_
      refine r_block ?_
      refine r_loop (X := Nat) (fun k => k ≤ sa.length) (fun k => [(2, .pointer (some ⟨b2, 0, none⟩)), (3, .pointer (some ⟨b3, 0, none⟩)), (6, .int .i64 (k : Int))]) (fun k => [(2, row b2 28 [sv va, sv vp, sv vo]), (3, row b3 28 [sv wa, sv wp, sv wo])]) (fun k => [(0, sl 1 eW (sv va) sw), (1, sl 1 eI (sv vp) sa), (2, sl 5 eOp (sv vo) ops), (3, sl 1 eW (sv wa) sw), (4, sl 1 eI (sv wp) sa), (5, sl 5 eOp (sv wo) ops)]) (fun k => sa.length - k) 0 (Nat.zero_le _) rfl rfl rfl (fun k hk0 => ?_)
      refine r_seq ?_
      refine r_seq ?_
      refine r_region ?_
      refine r_p (p_move rfl) rfl ?_
      refine r_p (p_field0 fo28_1 rfl) rfl ?_
      refine r_p (p_load1 t22 rfl rfl (g_row1 (k := 2) rfl rfl)) rfl ?_
      refine r_p (p_len_sl Try.underlying22 rfl (hs_sl (k := 1) rfl)) rfl ?_
      refine r_p (p_bin rfl rfl b_lt) rfl ?_
      refine r_nil ?_
      refine r_cond rfl (fun h18 => ?_) (fun h18 => ?_)
      · (try simp only [decide_eq_true_eq, decide_eq_false_iff_not, Bool.and_eq_true, Bool.or_eq_true, Bool.and_eq_false_iff, Bool.or_eq_false_iff, Bool.not_eq_true, Bool.not_eq_false, Bool.not_eq_true', Bool.not_eq_false', Bool.not_not, bne_iff_ne, beq_iff_eq] at h18)
        have hk : k < sa.length := by omega
        refine r_skip ?_
        refine r_seq ?_
        refine r_block ?_
        refine r_seq ?_
        refine r_draw [58, 59, 60, 61, 62, 63, 64, 65, 66, 67, 68] _ rfl (stg_end (V := [(0, 58, _), (1, 59, _), (2, 60, _), (3, 61, _), (4, 62, _), (5, 63, _), (6, 64, _), (7, 65, _), (8, 66, _), (9, 67, _), (10, 68, _)]) [0, 1, 2, 3, 4, 5, 6, 7, 8, 9, 10] rfl rfl (prs_cons (pri rfl (p_field0 fo28_1 rfl)) (prs_cons (pri rfl (p_load1 t22 rfl rfl (g_row1 (k := 2) rfl rfl))) (prs_cons (pri rfl (p_move rfl)) (prs_cons (pri rfl (p_idx_sl (j := k) Try.underlying22 t3 rfl rfl (hs_sl (k := 1) rfl) (by first | rfl | omega) (by first | omega | (simp; done) | (simp; omega)))) (prs_cons (pri rfl (p_load1 t3 rfl rfl (g_el' (hs_sl (k := 1) rfl) (by intro _; rfl) (getD_get 0 (by omega)) (by rfl)))) (prs_cons (pri rfl (p_field0 fo28_1 rfl)) (prs_cons (pri rfl (p_load1 t22 rfl rfl (g_row1 (k := 3) rfl rfl))) (prs_cons (pri rfl (p_move rfl)) (prs_cons (pri rfl (p_idx_sl (j := k) Try.underlying22 t3 rfl rfl (hs_sl (k := 4) rfl) (by first | rfl | omega) (by first | omega | (simp; done) | (simp; omega)))) (prs_cons (pri rfl (p_load1 t3 rfl rfl (g_el' (hs_sl (k := 4) rfl) (by intro _; rfl) (getD_get 0 (by omega)) (by rfl)))) (prs_cons (pri rfl (p_bin rfl rfl b_ne)) prs_nil))))))))))) rfl rfl rfl ?_)
        refine r_cond rfl (fun h19 => ?_) (fun h19 => ?_)
        · exfalso; simp at h19
        · (try simp only [decide_eq_true_eq, decide_eq_false_iff_not, Bool.and_eq_true, Bool.or_eq_true, Bool.and_eq_false_iff, Bool.or_eq_false_iff, Bool.not_eq_true, Bool.not_eq_false, Bool.not_eq_true', Bool.not_eq_false', Bool.not_not, bne_iff_ne, beq_iff_eq] at h19)
          refine r_skip ?_
          refine r_region ?_
          refine r_p (p_move rfl) rfl ?_
          refine r_p (p_bin rfl rfl (b_add (by first | exact w_i64 (by omega) (by omega) | rfl))) rfl ?_
          refine r_p (p_assign rfl) rfl ?_
          refine r_nil ?_
          refine r_here (k + 1) ⟨by omega, by omega⟩ rfl rfl rfl
      · (try simp only [decide_eq_true_eq, decide_eq_false_iff_not, Bool.and_eq_true, Bool.or_eq_true, Bool.and_eq_false_iff, Bool.or_eq_false_iff, Bool.not_eq_true, Bool.not_eq_false, Bool.not_eq_true', Bool.not_eq_false', Bool.not_not, bne_iff_ne, beq_iff_eq] at h18)
        have hk : k = sa.length := by omega
        refine r_exit ?_
        refine r_seq ?_
        refine r_seq ?_
        refine r_region ?_
        refine r_p (p_assign rfl) rfl ?_
        refine r_nil ?_
        refine r_block ?_
        refine r_loop (X := Nat) (fun k => k ≤ ops.length) (fun k => [(2, .pointer (some ⟨b2, 0, none⟩)), (3, .pointer (some ⟨b3, 0, none⟩)), (7, .int .i64 (k : Int))]) (fun k => [(2, row b2 28 [sv va, sv vp, sv vo]), (3, row b3 28 [sv wa, sv wp, sv wo])]) (fun k => [(0, sl 1 eW (sv va) sw), (1, sl 1 eI (sv vp) sa), (2, sl 5 eOp (sv vo) ops), (3, sl 1 eW (sv wa) sw), (4, sl 1 eI (sv wp) sa), (5, sl 5 eOp (sv wo) ops)]) (fun k => ops.length - k) 0 (Nat.zero_le _) rfl rfl rfl (fun k hk0 => ?_)
        refine r_seq ?_
        refine r_seq ?_
        refine r_region ?_
        refine r_p (p_move rfl) rfl ?_
        refine r_p (p_field0 fo28_2 rfl) rfl ?_
        refine r_p (p_load1 t26 rfl rfl (g_row1 (k := 2) rfl rfl)) rfl ?_
        refine r_p (p_len_sl Try.underlying26 rfl (hs_sl (k := 2) rfl)) rfl ?_
        refine r_p (p_bin rfl rfl b_lt) rfl ?_
        refine r_nil ?_
        refine r_cond rfl (fun h20 => ?_) (fun h20 => ?_)
        · (try simp only [decide_eq_true_eq, decide_eq_false_iff_not, Bool.and_eq_true, Bool.or_eq_true, Bool.and_eq_false_iff, Bool.or_eq_false_iff, Bool.not_eq_true, Bool.not_eq_false, Bool.not_eq_true', Bool.not_eq_false', Bool.not_not, bne_iff_ne, beq_iff_eq] at h20)
          have hk : k < ops.length := by omega
          refine r_skip ?_
          refine r_seq ?_
          refine r_block ?_
          refine r_seq ?_
          refine r_draw [76, 77, 78, 79, 80, 81, 82, 83, 84, 85, 86] _ rfl (stg_end (V := [(0, 76, _), (1, 77, _), (2, 78, _), (3, 79, _), (4, 80, _), (5, 81, _), (6, 82, _), (7, 83, _), (8, 84, _), (9, 85, _), (10, 86, _)]) [0, 1, 2, 3, 4, 5, 6, 7, 8, 9, 10] rfl rfl (prs_cons (pri rfl (p_field0 fo28_2 rfl)) (prs_cons (pri rfl (p_load1 t26 rfl rfl (g_row1 (k := 2) rfl rfl))) (prs_cons (pri rfl (p_move rfl)) (prs_cons (pri rfl (p_idx_sl (j := k) Try.underlying26 t47 rfl rfl (hs_sl (k := 2) rfl) (by first | rfl | omega) (by first | omega | (simp; done) | (simp; omega)))) (prs_cons (pri rfl (p_loadA t47 rfl rfl rfl (g_el' (hs_sl (k := 2) rfl) (by intro _; rfl) (getD_get ⟨0, 0, 0, 0, 0⟩ (by omega)) (by rfl)))) (prs_cons (pri rfl (p_field0 fo28_2 rfl)) (prs_cons (pri rfl (p_load1 t26 rfl rfl (g_row1 (k := 3) rfl rfl))) (prs_cons (pri rfl (p_move rfl)) (prs_cons (pri rfl (p_idx_sl (j := k) Try.underlying26 t47 rfl rfl (hs_sl (k := 5) rfl) (by first | rfl | omega) (by first | omega | (simp; done) | (simp; omega)))) (prs_cons (pri rfl (p_loadA t47 rfl rfl rfl (g_el' (hs_sl (k := 5) rfl) (by intro _; rfl) (getD_get ⟨0, 0, 0, 0, 0⟩ (by omega)) (by rfl)))) (prs_cons (pri rfl (p_bin rfl rfl (b_neOp _))) prs_nil))))))))))) rfl rfl rfl ?_)
          refine r_cond rfl (fun h21 => ?_) (fun h21 => ?_)
          · exact absurd h21 (by simp)
          · (try simp only [decide_eq_true_eq, decide_eq_false_iff_not, Bool.and_eq_true, Bool.or_eq_true, Bool.and_eq_false_iff, Bool.or_eq_false_iff, Bool.not_eq_true, Bool.not_eq_false, Bool.not_eq_true', Bool.not_eq_false', Bool.not_not, bne_iff_ne, beq_iff_eq] at h21)
            refine r_skip ?_
            refine r_region ?_
            refine r_p (p_move rfl) rfl ?_
            refine r_p (p_bin rfl rfl (b_add (by first | exact w_i64 (by omega) (by omega) | rfl))) rfl ?_
            refine r_p (p_assign rfl) rfl ?_
            refine r_nil ?_
            refine r_here (k + 1) ⟨by omega, by omega⟩ rfl rfl rfl
        · (try simp only [decide_eq_true_eq, decide_eq_false_iff_not, Bool.and_eq_true, Bool.or_eq_true, Bool.and_eq_false_iff, Bool.or_eq_false_iff, Bool.not_eq_true, Bool.not_eq_false, Bool.not_eq_true', Bool.not_eq_false', Bool.not_not, bne_iff_ne, beq_iff_eq] at h20)
          have hk : k = ops.length := by omega
          refine r_exit ?_
          refine r_seq ?_
          refine r_region ?_
          refine r_p (p_assign rfl) rfl ?_
          refine r_nil ?_
          refine r_cret ?_
          refine r_ret () trivial rfl (rs1 (rv_tmp rfl)) rfl [] [] rfl rfl rfl

end Go.Proofs.Ytfdbkclbcajkiaa
