/-
  What both ways of counting compute. Condition: at most 100,000 operations.
-/
import Derived.Test.YtfdbkclbcajkiaaB3
namespace Go.Proofs.Ytfdbkclbcajkiaa
set_option linter.unusedSimpArgs false
set_option linter.unusedVariables false
open Go.RowKit

set_option maxRecDepth 100000 in
theorem rcount_spec (u : Nat → Int) (hu : ∀ i, 0 ≤ u i ∧ u i ≤ 1000000) (has : Bool) (v : Int) :
    Spec Try.prog 31 [uA u, .bool has, .int .i64 v] [] [] (X := Unit) (fun _ => True) (fun _ => uA (bumpB has v u)) (fun _ => []) (fun _ => []) := by
  refine r_enter Try.func31 rfl Try.ntmps31 rfl fun w0 M H => ?_
  refine r_seq ?_
  refine r_region ?_
  refine r_box_arr rfl rfl fun b3 => ?_
  refine r_alloc_arr (n := 28) (u := (.int .i64 0)) t30 rfl rfl fun b6 => ?_
  refine r_nil ?_
  refine r_seq ?_
  refine r_seq ?_
  refine r_region ?_
  refine r_p (p_move rfl) rfl ?_
  refine r_p (p_move rfl) rfl ?_
  refine r_gp [] rfl rfl trivial (fun hg1 => p_move rfl) rfl ?_
  refine r_gp [(9, _)] rfl rfl ⟨rfl, trivial⟩ (fun hg2 => p_bin rfl rfl b_ge) rfl ?_
  refine r_p (p_pick rfl rfl rfl (by first | exact pick_and | exact pick_or |  rfl)) rfl ?_
  refine r_p (p_move rfl) rfl ?_
  refine r_gp [] rfl rfl trivial (fun hg3 => p_move rfl) rfl ?_
  refine r_gp [(13, _)] rfl rfl ⟨rfl, trivial⟩ (fun hg4 => p_bin rfl rfl b_lt) rfl ?_
  refine r_p (p_pick rfl rfl rfl (by first | exact pick_and | exact pick_or |  rfl)) rfl ?_
  refine r_p (p_move rfl) rfl ?_
  refine r_gp [] rfl rfl trivial (fun hg5 => p_move rfl) rfl ?_
  refine r_gp [(17, _)] rfl rfl ⟨rfl, trivial⟩ (fun hg6 => p_bin rfl rfl b_ne) rfl ?_
  refine r_p (p_pick rfl rfl rfl (by first | exact pick_and | exact pick_or |  rfl)) rfl ?_
  refine r_nil ?_
  refine r_cond rfl (fun h7 => ?_) (fun h7 => ?_)
  · (try simp only [decide_eq_true_eq, decide_eq_false_iff_not, Bool.and_eq_true, Bool.or_eq_true, Bool.and_eq_false_iff, Bool.or_eq_false_iff, Bool.not_eq_true, Bool.not_eq_false, Bool.not_eq_true', Bool.not_eq_false', Bool.not_not, bne_iff_ne, beq_iff_eq] at h7)
    obtain ⟨n, rfl⟩ := Int.eq_ofNat_of_zero_le h7.1.1.2
    have hn : n < 28 := by omega
    have hun := hu n
    have hv : isV (n : Int) = true := by simp [isV]; omega
    have hhas := h7.1.1.1
    clear h7
    refine r_region ?_
    refine r_p (p_move rfl) rfl ?_
    refine r_p (p_move rfl) rfl ?_
    refine r_p (p_idx_arr1 Try.underlying30 t3 rfl rfl (by first | rfl | omega) (by first | omega | (simp; done) | (simp; omega))) rfl ?_
    refine r_p (p_load1 t3 rfl rfl (g_arr1 (k := 3) rfl (by omega))) rfl ?_
    refine r_p (p_bin rfl rfl (b_add (by first | exact w_i64 (by omega) (by omega) | rfl))) rfl ?_
    refine r_p (p_idx_arr1 Try.underlying30 t3 rfl rfl (by first | rfl | omega) (by first | omega | (simp; done) | (simp; omega))) rfl ?_
    refine r_store_arr (k := 3) t3 rfl rfl rfl rfl rfl (by omega) ?_
    refine r_nil ?_
    refine r_seq ?_
    refine r_region ?_
    refine r_p (p_loadA t30 rfl rfl (by simp) (g_arr (k := 3) rfl)) rfl ?_
    refine r_store_arrAll (k := 6) t30 rfl rfl rfl (all_one (fun i => by simp only [fset, vi]; (repeat' split) <;> rfl)) rfl ?_
    refine r_nil ?_
    refine r_cret ?_
    refine r_ret () trivial rfl (rs1 (rv_cellA t30 rfl rfl (by simp) (g_arr (k := 6) rfl))) ?_ [] [] rfl rfl rfl
    refine congrArg (fun f => Value.agg (List.map f (List.range 28)).toArray) (?_ : _ = vi (bumpB has (n : Int) u))
    rw [bumpB, if_pos hhas, ← bump_vi (n := n) hv rfl]
  · (try simp only [decide_eq_true_eq, decide_eq_false_iff_not, Bool.and_eq_true, Bool.or_eq_true, Bool.and_eq_false_iff, Bool.or_eq_false_iff, Bool.not_eq_true, Bool.not_eq_false, Bool.not_eq_true', Bool.not_eq_false', Bool.not_not, bne_iff_ne, beq_iff_eq] at h7)
    refine r_skip ?_
    refine r_seq ?_
    refine r_region ?_
    refine r_p (p_loadA t30 rfl rfl (by simp) (g_arr (k := 3) rfl)) rfl ?_
    refine r_store_arrAll (k := 6) t30 rfl rfl rfl (all_one (fun i => by simp only [fset, vi]; (repeat' split) <;> rfl)) rfl ?_
    refine r_nil ?_
    refine r_cret ?_
    refine r_ret () trivial rfl (rs1 (rv_cellA t30 rfl rfl (by simp) (g_arr (k := 6) rfl))) ?_ [] [] rfl rfl rfl
    refine congrArg (fun f => Value.agg (List.map f (List.range 28)).toArray) (?_ : _ = vi (bumpB has v u))
    unfold bumpB
    split
    · rename_i hh; rw [bump_no (isV_false (by simp [hh] at h7; omega))]
    · rfl
set_option maxRecDepth 100000 in
theorem uses_spec (va vp vo : SV) (ops : List OpR) (hl : ops.length ≤ 100000) :
    Spec Try.prog 15 [.agg #[sv va, sv vp, sv vo]] [] [sl 5 eOp (sv vo) ops] (X := Unit) (fun _ => True) (fun _ => uA (uses ops)) (fun _ => []) (fun _ => []) := by
  refine r_enter Try.func15 rfl Try.ntmps15 rfl fun w0 M H => ?_
  refine r_seq ?_
  refine r_region ?_
  refine r_boxA rfl rfl fun b1 => ?_
  refine r_alloc_arr (n := 28) (u := (.int .i64 0)) t30 rfl rfl fun b2 => ?_
  refine r_nil ?_
  refine r_seq ?_
  refine r_region ?_
  refine r_alloc_arr (n := 28) (u := (.int .i64 0)) t30 rfl rfl fun b3 => ?_
  refine r_nil ?_
  refine r_seq ?_
  refine r_region ?_
  refine r_p (p_makeFunc (first := []) (cap := [.tmp 3]) rfl rfl) rfl ?_
  refine r_p (p_assign rfl) rfl ?_
  refine r_nil ?_
  refine r_seq ?_
  refine r_seq ?_
  refine r_region ?_
  refine r_p (p_field0 fo28_2 rfl) rfl ?_
  refine r_p (p_load1 t26 rfl rfl (g_row1 (k := 1) rfl rfl)) rfl ?_
  refine r_p (p_len_sl Try.underlying26 rfl (hs_sl (k := 0) rfl)) rfl ?_
  refine r_p (p_move rfl) rfl ?_
  refine r_nil ?_
  refine r_block ?_
  refine r_loop (X := Nat) (fun k => k ≤ ops.length) (fun k => [(2, .pointer (some ⟨b2, 0, none⟩)), (3, .pointer (some ⟨b3, 0, none⟩)), (4, .func (.func 27) #[] #[.pointer (some ⟨b3, 0, none⟩)]), (12, sv vo), (13, .int .i64 (ops.length : Int)), (14, .int .i64 (k : Int))]) (fun k => [(3, arr b3 30 28 (vi (useN ops k))), (2, arr b2 30 28 (fun _ => .int .i64 0))]) (fun k => [(0, sl 5 eOp (sv vo) ops)]) (fun k => ops.length - k) 0 (Nat.zero_le _) rfl (by rw [useN_zero]; rfl) rfl (fun k hk0 => ?_)
  have hb0 := useN_bd ops k
  refine r_seq ?_
  refine r_region ?_
  refine r_p (p_bin rfl rfl b_lt) rfl ?_
  refine r_nil ?_
  refine r_seq ?_
  refine r_cond rfl (fun h1 => ?_) (fun h1 => ?_)
  · (try simp only [decide_eq_true_eq, decide_eq_false_iff_not, Bool.and_eq_true, Bool.or_eq_true, Bool.and_eq_false_iff, Bool.or_eq_false_iff, Bool.not_eq_true, Bool.not_eq_false, Bool.not_eq_true', Bool.not_eq_false', Bool.not_not, bne_iff_ne, beq_iff_eq] at h1)
    have hk : k < ops.length := by omega
    refine r_skip ?_
    refine r_seq ?_
    refine r_block ?_
    refine r_seq ?_
    refine r_region ?_
    refine r_p (p_idx_sl (j := k) Try.underlying26 t47 rfl rfl (hs_sl (k := 0) rfl) (by first | rfl | omega) (by first | omega | (simp; done) | (simp; omega))) rfl ?_
    refine r_p (p_loadA t47 rfl rfl rfl (g_el' (hs_sl (k := 0) rfl) (by intro _; rfl) (List.getElem?_eq_getElem hk) (by rfl))) rfl ?_
    refine r_alloc t47 rfl rfl fun b6 => ?_
    refine r_store_all (k := 6) t47 rfl rfl rfl rfl rfl rfl ?_
    refine r_nil ?_
    refine r_seq_cut (X := Unit) (fun _ => True) (fun _ => [(2, .pointer (some ⟨b2, 0, none⟩)), (3, .pointer (some ⟨b3, 0, none⟩)), (4, .func (.func 27) #[] #[.pointer (some ⟨b3, 0, none⟩)]), (12, sv vo), (13, .int .i64 (ops.length : Int)), (14, .int .i64 (k : Int)), (6, .pointer (some ⟨b6, 0, none⟩))]) (fun _ => [(3, arr b3 30 28 (vi (bump (wrR ops[k]) (useN ops k)))), (2, arr b2 30 28 (fun _ => .int .i64 0)), (6, row b6 47 (eOp ops[k]))]) (fun _ => [(0, sl 5 eOp (sv vo) ops)]) ?_ (fun _ _ => ?_)
    · refine r_seq ?_
      refine r_region ?_
      refine r_p (p_loadA t47 rfl rfl rfl (g_all (k := 6) rfl)) rfl ?_
      refine r_call (xs := [.tmp 18]) (writes_spec ops[k]) cb28 [] [] [] [] rfl rfl rfl rfl rfl rfl rfl rfl (fun _ _ => rfl) (fun _ _ _ => rfl) rfl (fun _ _ => ?_)
      refine r_p (p_assign rfl) rfl ?_
      refine r_nil ?_
      refine r_seq ?_
      refine r_region ?_
      refine r_p (p_move rfl) rfl ?_
      refine r_p (p_bin rfl rfl b_ge) rfl ?_
      refine r_nil ?_
      refine r_cond rfl (fun h2 => ?_) (fun h2 => ?_)
      · (try simp only [decide_eq_true_eq, decide_eq_false_iff_not, Bool.and_eq_true, Bool.or_eq_true, Bool.and_eq_false_iff, Bool.or_eq_false_iff, Bool.not_eq_true, Bool.not_eq_false, Bool.not_eq_true', Bool.not_eq_false', Bool.not_not, bne_iff_ne, beq_iff_eq] at h2)
        refine r_region ?_
        refine r_p (p_move rfl) rfl ?_
        refine r_p (p_move rfl) rfl ?_
        refine r_call (xs := [.tmp 23]) (count_spec _ b3 _ (hb0.get (by omega))) cb27 [3] [] [3] [] rfl rfl rfl rfl rfl rfl rfl rfl (fun _ _ => rfl) (fun _ _ _ => rfl) rfl (fun _ _ => ?_)
        refine r_nil ?_
        refine r_here () trivial rfl (by first | rfl | (rw [bump_neg (by omega)]; rfl)) rfl
      · (try simp only [decide_eq_true_eq, decide_eq_false_iff_not, Bool.and_eq_true, Bool.or_eq_true, Bool.and_eq_false_iff, Bool.or_eq_false_iff, Bool.not_eq_true, Bool.not_eq_false, Bool.not_eq_true', Bool.not_eq_false', Bool.not_not, bne_iff_ne, beq_iff_eq] at h2)
        refine r_skip ?_
        refine r_here () trivial rfl (by first | rfl | (rw [bump_neg (by omega)]; rfl)) rfl
    · refine r_seq ?_
      refine r_seq ?_
      refine r_region ?_
      refine r_p (p_loadA t47 rfl rfl rfl (g_all (k := 6) rfl)) rfl ?_
      refine r_call (xs := [.tmp 25]) (reads_spec ops[k]) cb29 [] [] [26] [] rfl rfl rfl rfl rfl rfl rfl rfl (fun _ _ => rfl) (fun _ _ _ => rfl) rfl (fun v26 _ => ?_)
      refine r_p (p_len_sl Try.underlying22 rfl (hs_own (k := 26) rfl)) rfl ?_
      refine r_p (p_move rfl) rfl ?_
      refine r_nil ?_
      refine r_block ?_
      refine r_loop (X := Nat) (fun j => j ≤ (rdR ops[k]).length) (fun j => [(2, .pointer (some ⟨b2, 0, none⟩)), (3, .pointer (some ⟨b3, 0, none⟩)), (4, .func (.func 27) #[] #[.pointer (some ⟨b3, 0, none⟩)]), (12, sv vo), (13, .int .i64 (ops.length : Int)), (14, .int .i64 (k : Int)), (6, .pointer (some ⟨b6, 0, none⟩)), (26, sv v26), (27, .int .i64 ((rdR ops[k]).length : Int)), (28, .int .i64 (j : Int))]) (fun j => [(3, arr b3 30 28 (vi (bumps ((rdR ops[k]).take j) (bump (wrR ops[k]) (useN ops k))))), (2, arr b2 30 28 (fun _ => .int .i64 0)), (6, row b6 47 (eOp ops[k])), (26, own 3 1 eI (sv v26) (rdR ops[k]))]) (fun j => [(0, sl 5 eOp (sv vo) ops)]) (fun j => (rdR ops[k]).length - j) 0 (Nat.zero_le _) rfl rfl rfl (fun j hj0 => ?_)
      have hrl := rd_len ops[k]
      have hb1 := (bumps_bd (l := (rdR ops[k]).take j) (bump_bd hb0 (wrR ops[k]))).mono (m := 400000) (by have := rd_len ops[k]; have : ((rdR ops[k]).take j).length ≤ j := List.length_take_le _ _; omega)
      refine r_seq ?_
      refine r_region ?_
      refine r_p (p_bin rfl rfl b_lt) rfl ?_
      refine r_nil ?_
      refine r_seq ?_
      refine r_cond rfl (fun h3 => ?_) (fun h3 => ?_)
      · (try simp only [decide_eq_true_eq, decide_eq_false_iff_not, Bool.and_eq_true, Bool.or_eq_true, Bool.and_eq_false_iff, Bool.or_eq_false_iff, Bool.not_eq_true, Bool.not_eq_false, Bool.not_eq_true', Bool.not_eq_false', Bool.not_not, bne_iff_ne, beq_iff_eq] at h3)
        have hj : j < (rdR ops[k]).length := by omega
        refine r_skip ?_
        refine r_seq ?_
        refine r_block ?_
        refine r_seq ?_
        refine r_region ?_
        refine r_p (p_idx_sl (j := j) Try.underlying22 t3 rfl rfl (hs_own (k := 26) rfl) (by first | rfl | omega) (by first | omega | (simp; done) | (simp; omega))) rfl ?_
        refine r_p (p_load1 t3 rfl rfl (g_el' (hs_own (k := 26) rfl) (by intro _; rfl) (List.getElem?_eq_getElem hj) (by rfl))) rfl ?_
        refine r_p (p_assign rfl) rfl ?_
        refine r_nil ?_
        refine r_region ?_
        refine r_p (p_move rfl) rfl ?_
        refine r_p (p_move rfl) rfl ?_
        refine r_call (xs := [.tmp 33]) (count_spec _ b3 _ (hb1.get (by omega))) cb27 [3] [] [3] [] rfl rfl rfl rfl rfl rfl rfl rfl (fun _ _ => rfl) (fun _ _ _ => rfl) rfl (fun _ _ => ?_)
        refine r_nil ?_
        refine r_region ?_
        refine r_p (p_bin rfl rfl (b_add (by first | exact w_i64 (by omega) (by omega) | rfl))) rfl ?_
        refine r_p (p_move rfl) rfl ?_
        refine r_nil ?_
        refine r_here (j + 1) ⟨by omega, by omega⟩ rfl (by rw [bumps_snoc hj]; rfl) rfl
      · (try simp only [decide_eq_true_eq, decide_eq_false_iff_not, Bool.and_eq_true, Bool.or_eq_true, Bool.and_eq_false_iff, Bool.or_eq_false_iff, Bool.not_eq_true, Bool.not_eq_false, Bool.not_eq_true', Bool.not_eq_false', Bool.not_not, bne_iff_ne, beq_iff_eq] at h3)
        have hj : (rdR ops[k]).length ≤ j := by omega
        rw [List.take_of_length_le hj]
        have hb2 := (bumps_bd (l := rdR ops[k]) (bump_bd hb0 (wrR ops[k]))).mono (m := 400000) (by have := rd_len ops[k]; omega)
        refine r_exit ?_
        refine r_seq ?_
        refine r_region ?_
        refine r_p (p_loadA t47 rfl rfl rfl (g_all (k := 6) rfl)) rfl ?_
        refine r_call (xs := [.tmp 36]) (twice_spec ops[k]) cb30 [] [] [] [] rfl rfl rfl rfl rfl rfl rfl rfl (fun _ _ => rfl) (fun _ _ _ => rfl) rfl (fun _ _ => ?_)
        refine r_nil ?_
        refine r_cond rfl (fun h4 => ?_) (fun h4 => ?_)
        · (try simp only [decide_eq_true_eq, decide_eq_false_iff_not, Bool.and_eq_true, Bool.or_eq_true, Bool.and_eq_false_iff, Bool.or_eq_false_iff, Bool.not_eq_true, Bool.not_eq_false, Bool.not_eq_true', Bool.not_eq_false', Bool.not_not, bne_iff_ne, beq_iff_eq] at h4)
          refine r_region ?_
          refine r_p (p_move rfl) rfl ?_
          refine r_p (p_field0 fo47_2 rfl) rfl ?_
          refine r_p (p_load1 t3 rfl rfl (g_row1 (k := 6) rfl rfl)) rfl ?_
          refine r_call (xs := [.tmp 40]) (count_spec _ b3 _ (hb2.get (by omega))) cb27 [3] [] [3] [] rfl rfl rfl rfl rfl rfl rfl rfl (fun _ _ => rfl) (fun _ _ _ => rfl) rfl (fun _ _ => ?_)
          refine r_nil ?_
          refine r_region ?_
          refine r_p (p_bin rfl rfl (b_add (by first | exact w_i64 (by omega) (by omega) | rfl))) rfl ?_
          refine r_p (p_move rfl) rfl ?_
          refine r_nil ?_
          have hs1 := uses_one ops[k] (useN ops k)
          refine r_here (k + 1) ⟨by omega, by omega⟩ rfl (by rw [useN_succ hk, ← hs1, if_pos (by simp [*])]; rfl) rfl
        · (try simp only [decide_eq_true_eq, decide_eq_false_iff_not, Bool.and_eq_true, Bool.or_eq_true, Bool.and_eq_false_iff, Bool.or_eq_false_iff, Bool.not_eq_true, Bool.not_eq_false, Bool.not_eq_true', Bool.not_eq_false', Bool.not_not, bne_iff_ne, beq_iff_eq] at h4)
          refine r_skip ?_
          refine r_region ?_
          refine r_p (p_bin rfl rfl (b_add (by first | exact w_i64 (by omega) (by omega) | rfl))) rfl ?_
          refine r_p (p_move rfl) rfl ?_
          refine r_nil ?_
          have hs1 := uses_one ops[k] (useN ops k)
          refine r_here (k + 1) ⟨by omega, by omega⟩ rfl (by rw [useN_succ hk, ← hs1, if_neg (by simp [*])]; rfl) rfl
  · (try simp only [decide_eq_true_eq, decide_eq_false_iff_not, Bool.and_eq_true, Bool.or_eq_true, Bool.and_eq_false_iff, Bool.or_eq_false_iff, Bool.not_eq_true, Bool.not_eq_false, Bool.not_eq_true', Bool.not_eq_false', Bool.not_not, bne_iff_ne, beq_iff_eq] at h1)
    have hk : ops.length ≤ k := by omega
    refine r_exit ?_
    refine r_seq ?_
    refine r_region ?_
    refine r_p (p_loadA t30 rfl rfl (by simp) (g_arr (k := 3) rfl)) rfl ?_
    refine r_store_arrAll (k := 2) t30 rfl rfl rfl (vi_one _) rfl ?_
    refine r_nil ?_
    refine r_cret ?_
    refine r_ret () trivial rfl (rs1 (rv_cellA t30 rfl rfl (by simp) (g_arr (k := 2) rfl))) (by rw [useN_all hk]; rfl) [] [] rfl rfl rfl
set_option maxRecDepth 100000 in
theorem ruses_spec (va vp vo : SV) (ops : List OpR) (hl : ops.length ≤ 100000) :
    Spec Try.prog 16 [.agg #[sv va, sv vp, sv vo]] [] [sl 5 eOp (sv vo) ops] (X := Unit) (fun _ => True) (fun _ => uA (uses ops)) (fun _ => []) (fun _ => []) := by
  refine r_enter Try.func16 rfl Try.ntmps16 rfl fun w0 M H => ?_
  refine r_seq ?_
  refine r_region ?_
  refine r_boxA rfl rfl fun b1 => ?_
  refine r_alloc_arr (n := 28) (u := (.int .i64 0)) t30 rfl rfl fun b2 => ?_
  refine r_nil ?_
  refine r_seq ?_
  refine r_region ?_
  refine r_alloc_arr (n := 28) (u := (.int .i64 0)) t30 rfl rfl fun b3 => ?_
  refine r_nil ?_
  refine r_seq ?_
  refine r_seq ?_
  refine r_region ?_
  refine r_p (p_assign rfl) rfl ?_
  refine r_nil ?_
  refine r_block ?_
  refine r_loop (X := Nat) (fun k => k ≤ ops.length) (fun k => [(1, .pointer (some ⟨b1, 0, none⟩)), (2, .pointer (some ⟨b2, 0, none⟩)), (3, .pointer (some ⟨b3, 0, none⟩)), (4, .int .i64 (k : Int))]) (fun k => [(1, row b1 28 [sv va, sv vp, sv vo]), (3, arr b3 30 28 (vi (useN ops k))), (2, arr b2 30 28 (fun _ => .int .i64 0))]) (fun k => [(0, sl 5 eOp (sv vo) ops)]) (fun k => ops.length - k) 0 (Nat.zero_le _) rfl (by rw [useN_zero]; rfl) rfl (fun k hk0 => ?_)
  have hb0 := useN_bd ops k
  refine r_seq ?_
  refine r_seq ?_
  refine r_region ?_
  refine r_p (p_move rfl) rfl ?_
  refine r_p (p_field0 fo28_2 rfl) rfl ?_
  refine r_p (p_load1 t26 rfl rfl (g_row1 (k := 1) rfl rfl)) rfl ?_
  refine r_p (p_len_sl Try.underlying26 rfl (hs_sl (k := 0) rfl)) rfl ?_
  refine r_p (p_bin rfl rfl b_lt) rfl ?_
  refine r_nil ?_
  refine r_cond rfl (fun h1 => ?_) (fun h1 => ?_)
  · (try simp only [decide_eq_true_eq, decide_eq_false_iff_not, Bool.and_eq_true, Bool.or_eq_true, Bool.and_eq_false_iff, Bool.or_eq_false_iff, Bool.not_eq_true, Bool.not_eq_false, Bool.not_eq_true', Bool.not_eq_false', Bool.not_not, bne_iff_ne, beq_iff_eq] at h1)
    have hk : k < ops.length := by omega
    have hb1 := bumpB_bd hb0 (shR ops[k].c).d ops[k].d
    have hb2 := bumpB_bd hb1 (shR ops[k].c).a ops[k].a
    refine r_skip ?_
    refine r_seq ?_
    refine r_block ?_
    refine r_seq ?_
    refine r_region ?_
    refine r_p (p_field0 fo28_2 rfl) rfl ?_
    refine r_p (p_load1 t26 rfl rfl (g_row1 (k := 1) rfl rfl)) rfl ?_
    refine r_p (p_move rfl) rfl ?_
    refine r_p (p_idx_sl (j := k) Try.underlying26 t47 rfl rfl (hs_sl (k := 0) rfl) (by first | rfl | omega) (by first | omega | (simp; done) | (simp; omega))) rfl ?_
    refine r_p (p_loadA t47 rfl rfl rfl (g_el' (hs_sl (k := 0) rfl) (by intro _; rfl) (List.getElem?_eq_getElem hk) (by rfl))) rfl ?_
    refine r_alloc t47 rfl rfl fun b5 => ?_
    refine r_store_all (k := 5) t47 rfl rfl rfl rfl rfl rfl ?_
    refine r_nil ?_
    refine r_seq ?_
    refine r_region ?_
    refine r_p (p_field0 fo47_0 rfl) rfl ?_
    refine r_p (p_load1 t3 rfl rfl (g_row1 (k := 5) rfl rfl)) rfl ?_
    refine r_call (xs := [.tmp 20]) (shapeRef_spec ops[k].c) cb21 [] [] [] [] rfl rfl rfl rfl rfl rfl rfl rfl (fun _ _ => rfl) (fun _ _ _ => rfl) rfl (fun _ _ => ?_)
    refine r_alloc t43 rfl rfl fun b6 => ?_
    refine r_store_all (k := 6) t43 rfl rfl rfl rfl rfl rfl ?_
    refine r_nil ?_
    refine r_seq ?_
    refine r_region ?_
    refine r_p (p_loadA t30 rfl rfl (by simp) (g_arr (k := 3) rfl)) rfl ?_
    refine r_p (p_field0 fo43_1 rfl) rfl ?_
    refine r_p (p_load1 t4 rfl rfl (g_row1 (k := 6) rfl rfl)) rfl ?_
    refine r_p (p_field0 fo47_1 rfl) rfl ?_
    refine r_p (p_load1 t3 rfl rfl (g_row1 (k := 5) rfl rfl)) rfl ?_
    refine r_call (xs := [.tmp 22, .tmp 24, .tmp 26]) (rcount_spec (useN ops k) (hb0.get (by omega)) (shR ops[k].c).d ops[k].d) cb31 [] [] [] [] rfl rfl rfl rfl rfl rfl rfl rfl (fun _ _ => rfl) (fun _ _ _ => rfl) rfl (fun _ _ => ?_)
    refine r_store_arrAll (k := 3) t30 rfl rfl rfl (vi_one _) rfl ?_
    refine r_nil ?_
    refine r_seq ?_
    refine r_region ?_
    refine r_p (p_loadA t30 rfl rfl (by simp) (g_arr (k := 3) rfl)) rfl ?_
    refine r_p (p_field0 fo43_2 rfl) rfl ?_
    refine r_p (p_load1 t4 rfl rfl (g_row1 (k := 6) rfl rfl)) rfl ?_
    refine r_p (p_field0 fo47_2 rfl) rfl ?_
    refine r_p (p_load1 t3 rfl rfl (g_row1 (k := 5) rfl rfl)) rfl ?_
    refine r_call (xs := [.tmp 28, .tmp 30, .tmp 32]) (rcount_spec (bumpB (shR ops[k].c).d ops[k].d (useN ops k)) (hb1.get (by omega)) (shR ops[k].c).a ops[k].a) cb31 [] [] [] [] rfl rfl rfl rfl rfl rfl rfl rfl (fun _ _ => rfl) (fun _ _ _ => rfl) rfl (fun _ _ => ?_)
    refine r_store_arrAll (k := 3) t30 rfl rfl rfl (vi_one _) rfl ?_
    refine r_nil ?_
    refine r_region ?_
    refine r_p (p_loadA t30 rfl rfl (by simp) (g_arr (k := 3) rfl)) rfl ?_
    refine r_p (p_field0 fo43_3 rfl) rfl ?_
    refine r_p (p_load1 t4 rfl rfl (g_row1 (k := 6) rfl rfl)) rfl ?_
    refine r_p (p_field0 fo47_3 rfl) rfl ?_
    refine r_p (p_load1 t3 rfl rfl (g_row1 (k := 5) rfl rfl)) rfl ?_
    refine r_call (xs := [.tmp 34, .tmp 36, .tmp 38]) (rcount_spec (bumpB (shR ops[k].c).a ops[k].a (bumpB (shR ops[k].c).d ops[k].d (useN ops k))) (hb2.get (by omega)) (shR ops[k].c).b ops[k].b) cb31 [] [] [] [] rfl rfl rfl rfl rfl rfl rfl rfl (fun _ _ => rfl) (fun _ _ _ => rfl) rfl (fun _ _ => ?_)
    refine r_store_arrAll (k := 3) t30 rfl rfl rfl (vi_one _) rfl ?_
    refine r_nil ?_
    refine r_region ?_
    refine r_p (p_move rfl) rfl ?_
    refine r_p (p_bin rfl rfl (b_add (by first | exact w_i64 (by omega) (by omega) | rfl))) rfl ?_
    refine r_p (p_assign rfl) rfl ?_
    refine r_nil ?_
    refine r_here (k + 1) ⟨by omega, by omega⟩ rfl (by rw [useN_succ hk, uses_ref]; rfl) rfl
  · (try simp only [decide_eq_true_eq, decide_eq_false_iff_not, Bool.and_eq_true, Bool.or_eq_true, Bool.and_eq_false_iff, Bool.or_eq_false_iff, Bool.not_eq_true, Bool.not_eq_false, Bool.not_eq_true', Bool.not_eq_false', Bool.not_not, bne_iff_ne, beq_iff_eq] at h1)
    have hk : ops.length ≤ k := by omega
    refine r_exit ?_
    refine r_seq ?_
    refine r_region ?_
    refine r_p (p_loadA t30 rfl rfl (by simp) (g_arr (k := 3) rfl)) rfl ?_
    refine r_store_arrAll (k := 2) t30 rfl rfl rfl (vi_one _) rfl ?_
    refine r_nil ?_
    refine r_cret ?_
    refine r_ret () trivial rfl (rs1 (rv_cellA t30 rfl rfl (by simp) (g_arr (k := 2) rfl))) (by rw [useN_all hk]; rfl) [] [] rfl rfl rfl

end Go.Proofs.Ytfdbkclbcajkiaa
