/-
  A block turned at one place. No condition.
-/
import Derived.Test.YtfdbkclbcajkiaaD6
import Derived.Test.YtfdbkclbcajkiaaK15
namespace Go.Proofs.Ytfdbkclbcajkiaa
set_option linter.unusedSimpArgs false
set_option linter.unusedVariables false
open Go.RowKit

theorem and16 (a : Int) : ∃ n : Nat, n ≤ 65535 ∧ bits .and .i64 a 65535 = (n : Int) := by
  refine ⟨(BitVec.ofInt 64 a &&& BitVec.ofInt 64 65535).toNat, ?_, ?_⟩
  · rw [BitVec.toNat_and]
    exact Nat.and_le_right
  · have h : (BitVec.ofInt 64 a &&& BitVec.ofInt 64 65535).toNat ≤ 65535 := by
      rw [BitVec.toNat_and]
      exact Nat.and_le_right
    show IntKind.i64.wrap ((BitVec.ofInt 64 a &&& BitVec.ofInt 64 65535).toNat : Int) = _
    exact w_i64 (by omega) (by omega)

set_option maxRecDepth 100000 in
set_option maxHeartbeats 1000000 in
theorem turned_spec (va vp vo : SV) (sw sa : List Int) (ops : List OpR) (hl : ops.length ≤ 200) (hal : sw.length ≤ 20 ∧ sa.length ≤ 1) (f : Nat → Int) :
    Spec Try.prog 26 [.agg #[sv va, sv vp, sv vo], .agg ((List.range 3).map (vi f)).toArray] [] [sl 1 eW (sv va) sw, sl 1 eI (sv vp) sa, sl 5 eOp (sv vo) ops] (X := (SV × SV × SV × List OpR)) (fun x => x.2.2.2.length ≤ 201) (fun x => .agg #[sv x.1, sv x.2.1, sv x.2.2.1]) (fun _ => []) (fun x => [sl 5 eOp (sv x.2.2.1) x.2.2.2]) := by
  refine r_enter Try.func26 rfl Try.ntmps26 rfl fun w0 M H => ?_
  obtain ⟨m6, hm6, e6⟩ := and16 (f 2)
  obtain ⟨m7, hm7, e7⟩ := and16 (f 1)
  refine r_nilown 110 (S := 47) (s := 5) (enc := eOp) ?_
  refine r_seq ?_
  refine r_region ?_
  refine r_boxA rfl rfl fun b2 => ?_
  refine r_box_arr rfl rfl fun b3 => ?_
  refine r_alloc t28 rfl rfl fun b4 => ?_
  refine r_nil ?_
  refine r_seq ?_
  refine r_region ?_
  refine r_p (p_loadA t28 rfl rfl rfl (g_all (k := 2) rfl)) rfl ?_
  refine r_call (xs := [.tmp 13]) (ownL_spec va vp vo sw sa ops hl hal) cb20 [] [(false, 0), (false, 1), (false, 2)] [100, 101, 102] [] rfl rfl rfl rfl rfl rfl rfl rfl (fun _ _ => rfl) (fun _ _ _ => rfl) rfl (fun ⟨wa, wp, wo⟩ _ => ?_)
  dsimp only
  refine r_alloc t28 rfl rfl fun b5 => ?_
  refine r_store_all (k := 5) t28 rfl rfl rfl rfl rfl rfl ?_
  refine r_nil ?_
  refine r_seq ?_
  refine r_seq ?_
  refine r_region ?_
  refine r_p (p_field0 fo28_2 rfl) rfl ?_
  refine r_p (p_load1 t26 rfl rfl (g_row1 (k := 5) rfl rfl)) rfl ?_
  refine r_p (p_len_sl Try.underlying26 rfl (hs_own (k := 102) rfl)) rfl ?_
  refine r_p (p_bin rfl rfl b_eq) rfl ?_
  refine r_nil ?_
  refine r_cond rfl (fun h1 => ?_) (fun h1 => ?_)
  · (try simp only [decide_eq_true_eq, decide_eq_false_iff_not, Bool.and_eq_true, Bool.or_eq_true, Bool.and_eq_false_iff, Bool.or_eq_false_iff, Bool.not_eq_true, Bool.not_eq_false, Bool.not_eq_true', Bool.not_eq_false', Bool.not_not, bne_iff_ne, beq_iff_eq] at h1)
    refine r_seq ?_
    refine r_region ?_
    refine r_p (p_loadA t28 rfl rfl rfl (g_all (k := 5) rfl)) rfl ?_
    refine r_store_all (k := 4) t28 rfl rfl rfl rfl rfl rfl ?_
    refine r_nil ?_
    refine r_cret ?_
    refine r_freeze 102 102 rfl own_to_sl ?_
    refine r_ret (wa, wp, wo, _) ?_ rfl (rs1 (rv_cellA t28 rfl rfl rfl (g_all (k := 4) rfl))) rfl [] [102] rfl rfl rfl
    first
      | exact (show ops.length ≤ 201 by omega)
      | (show List.length _ ≤ 201; simp; omega)
  · (try simp only [decide_eq_true_eq, decide_eq_false_iff_not, Bool.and_eq_true, Bool.or_eq_true, Bool.and_eq_false_iff, Bool.or_eq_false_iff, Bool.not_eq_true, Bool.not_eq_false, Bool.not_eq_true', Bool.not_eq_false', Bool.not_not, bne_iff_ne, beq_iff_eq] at h1)
    have hn : 0 < ops.length := by omega
    have hj7 : m7 % ops.length < ops.length := Nat.mod_lt _ hn
    have hc7 : ((m7 : Int) % (ops.length : Int)) = ((m7 % ops.length : Nat) : Int) := (Int.natCast_emod _ _).symm
    refine r_skip ?_
    refine r_seq ?_
    refine r_region ?_
    refine r_p (p_idx_arr1 (j := 2) Try.underlying23 t3 rfl rfl (by first | rfl | omega) (by first | omega | (simp; done) | (simp; omega))) rfl ?_
    refine r_p (p_load1 t3 rfl rfl (g_arr1 (k := 3) rfl (by omega))) rfl ?_
    refine r_p (p_bin rfl rfl (b_and e6)) rfl ?_
    refine r_p (p_assign rfl) rfl ?_
    refine r_nil ?_
    refine r_seq ?_
    refine r_region ?_
    refine r_p (p_idx_arr1 (j := 1) Try.underlying23 t3 rfl rfl (by first | rfl | omega) (by first | omega | (simp; done) | (simp; omega))) rfl ?_
    refine r_p (p_load1 t3 rfl rfl (g_arr1 (k := 3) rfl (by omega))) rfl ?_
    refine r_p (p_bin rfl rfl (b_and e7)) rfl ?_
    refine r_p (p_field0 fo28_2 rfl) rfl ?_
    refine r_p (p_load1 t26 rfl rfl (g_row1 (k := 5) rfl rfl)) rfl ?_
    refine r_p (p_len_sl Try.underlying26 rfl (hs_own (k := 102) rfl)) rfl ?_
    refine r_p (p_bin rfl rfl (b_rem (by omega) (by first | exact tmod_pos (by omega) | rfl))) rfl ?_
    refine r_p (p_assign rfl) rfl ?_
    refine r_nil ?_
    refine r_seq ?_
    refine r_seq ?_
    refine r_region ?_
    refine r_p (p_idx_arr1 (j := 0) Try.underlying23 t3 rfl rfl (by first | rfl | omega) (by first | omega | (simp; done) | (simp; omega))) rfl ?_
    refine r_p (p_load1 t3 rfl rfl (g_arr1 (k := 3) rfl (by omega))) rfl ?_
    refine r_p (p_bin rfl rfl (b_rem (by omega) (by first | exact tmod_pos (by omega) | rfl))) rfl ?_
    refine r_p (p_bin rfl rfl (b_add (by first | exact w_i64 (by omega) (by omega) | rfl))) rfl ?_
    refine r_p (p_bin rfl rfl (b_rem (by omega) (by first | exact tmod_pos (by omega) | rfl))) rfl ?_
    refine r_nil ?_
    refine r_block ?_
    refine r_seq ?_
    refine r_region ?_
    refine r_p (p_bin rfl rfl b_eq) rfl ?_
    refine r_p (p_assign rfl) rfl ?_
    refine r_nil ?_
    refine r_cond rfl (fun h2 => ?_) (fun h2 => ?_)
    · (try simp only [decide_eq_true_eq, decide_eq_false_iff_not, Bool.and_eq_true, Bool.or_eq_true, Bool.and_eq_false_iff, Bool.or_eq_false_iff, Bool.not_eq_true, Bool.not_eq_false, Bool.not_eq_true', Bool.not_eq_false', Bool.not_not, bne_iff_ne, beq_iff_eq] at h2)
      refine r_region ?_
      refine r_p (p_field0 fo28_2 rfl) rfl ?_
      refine r_p (p_load1 t26 rfl rfl (g_row1 (k := 5) rfl rfl)) rfl ?_
      refine r_p (p_move rfl) rfl ?_
      refine r_p (p_move rfl) rfl ?_
      refine r_p (p_bin rfl rfl (b_rem (by omega) (by first | exact tmod_pos (by omega) | rfl))) rfl ?_
      refine r_p (p_idx_sl (j := (m7 % ops.length)) Try.underlying26 t47 rfl rfl (hs_own (k := 102) rfl) (by rw [Int.natCast_emod]) (Nat.mod_lt _ hn)) rfl ?_
      refine r_p (p_field fo47_0 rfl) rfl ?_
      refine r_store_own (k := 102) (o := 0) (e' := ⟨(m6 : Int) % 28, (ops.getD (m7 % ops.length) o0).d, (ops.getD (m7 % ops.length) o0).a, (ops.getD (m7 % ops.length) o0).b, (ops.getD (m7 % ops.length) o0).n⟩) t3 rfl rfl rfl rfl rfl rfl (by intro _; rfl) (getD_get o0 (Nat.mod_lt _ hn)) (by show _ + 1 ≤ _; decide) rfl ?_
      refine r_nil ?_
      refine r_seq ?_
      refine r_region ?_
      refine r_p (p_loadA t28 rfl rfl rfl (g_all (k := 5) rfl)) rfl ?_
      refine r_store_all (k := 4) t28 rfl rfl rfl rfl rfl rfl ?_
      refine r_nil ?_
      refine r_cret ?_
      refine r_freeze 102 102 rfl own_to_sl ?_
      refine r_ret (wa, wp, wo, _) ?_ rfl (rs1 (rv_cellA t28 rfl rfl rfl (g_all (k := 4) rfl))) rfl [] [102] rfl rfl rfl
      first
        | exact (show ops.length ≤ 201 by omega)
        | (show List.length _ ≤ 201; simp; omega)
    · (try simp only [decide_eq_true_eq, decide_eq_false_iff_not, Bool.and_eq_true, Bool.or_eq_true, Bool.and_eq_false_iff, Bool.or_eq_false_iff, Bool.not_eq_true, Bool.not_eq_false, Bool.not_eq_true', Bool.not_eq_false', Bool.not_not, bne_iff_ne, beq_iff_eq] at h2)
      refine r_seq ?_
      refine r_region ?_
      refine r_p (p_bin rfl rfl b_eq) rfl ?_
      refine r_p (p_assign rfl) rfl ?_
      refine r_nil ?_
      refine r_cond rfl (fun h3 => ?_) (fun h3 => ?_)
      · (try simp only [decide_eq_true_eq, decide_eq_false_iff_not, Bool.and_eq_true, Bool.or_eq_true, Bool.and_eq_false_iff, Bool.or_eq_false_iff, Bool.not_eq_true, Bool.not_eq_false, Bool.not_eq_true', Bool.not_eq_false', Bool.not_not, bne_iff_ne, beq_iff_eq] at h3)
        refine r_region ?_
        refine r_p (p_field0 fo28_2 rfl) rfl ?_
        refine r_p (p_load1 t26 rfl rfl (g_row1 (k := 5) rfl rfl)) rfl ?_
        refine r_p (p_move rfl) rfl ?_
        refine r_p (p_move rfl) rfl ?_
        refine r_p (p_bin rfl rfl (b_rem (by omega) (by first | exact tmod_pos (by omega) | rfl))) rfl ?_
        refine r_p (p_bin rfl rfl (b_sub (by first | exact w_i64 (by omega) (by omega) | rfl))) rfl ?_
        refine r_p (p_idx_sl (j := (m7 % ops.length)) Try.underlying26 t47 rfl rfl (hs_own (k := 102) rfl) (by rw [Int.natCast_emod]) (Nat.mod_lt _ hn)) rfl ?_
        refine r_p (p_field fo47_1 rfl) rfl ?_
        refine r_store_own (k := 102) (o := 1) (e' := ⟨(ops.getD (m7 % ops.length) o0).c, (m6 : Int) % 30 - 1, (ops.getD (m7 % ops.length) o0).a, (ops.getD (m7 % ops.length) o0).b, (ops.getD (m7 % ops.length) o0).n⟩) t3 rfl rfl rfl rfl rfl rfl (by intro _; rfl) (getD_get o0 (Nat.mod_lt _ hn)) (by show _ + 1 ≤ _; decide) rfl ?_
        refine r_nil ?_
        refine r_seq ?_
        refine r_region ?_
        refine r_p (p_loadA t28 rfl rfl rfl (g_all (k := 5) rfl)) rfl ?_
        refine r_store_all (k := 4) t28 rfl rfl rfl rfl rfl rfl ?_
        refine r_nil ?_
        refine r_cret ?_
        refine r_freeze 102 102 rfl own_to_sl ?_
        refine r_ret (wa, wp, wo, _) ?_ rfl (rs1 (rv_cellA t28 rfl rfl rfl (g_all (k := 4) rfl))) rfl [] [102] rfl rfl rfl
        first
          | exact (show ops.length ≤ 201 by omega)
          | (show List.length _ ≤ 201; simp; omega)
      · (try simp only [decide_eq_true_eq, decide_eq_false_iff_not, Bool.and_eq_true, Bool.or_eq_true, Bool.and_eq_false_iff, Bool.or_eq_false_iff, Bool.not_eq_true, Bool.not_eq_false, Bool.not_eq_true', Bool.not_eq_false', Bool.not_not, bne_iff_ne, beq_iff_eq] at h3)
        refine r_seq ?_
        refine r_region ?_
        refine r_p (p_bin rfl rfl b_eq) rfl ?_
        refine r_p (p_assign rfl) rfl ?_
        refine r_nil ?_
        refine r_cond rfl (fun h4 => ?_) (fun h4 => ?_)
        · (try simp only [decide_eq_true_eq, decide_eq_false_iff_not, Bool.and_eq_true, Bool.or_eq_true, Bool.and_eq_false_iff, Bool.or_eq_false_iff, Bool.not_eq_true, Bool.not_eq_false, Bool.not_eq_true', Bool.not_eq_false', Bool.not_not, bne_iff_ne, beq_iff_eq] at h4)
          refine r_region ?_
          refine r_p (p_field0 fo28_2 rfl) rfl ?_
          refine r_p (p_load1 t26 rfl rfl (g_row1 (k := 5) rfl rfl)) rfl ?_
          refine r_p (p_move rfl) rfl ?_
          refine r_p (p_move rfl) rfl ?_
          refine r_p (p_bin rfl rfl (b_rem (by omega) (by first | exact tmod_pos (by omega) | rfl))) rfl ?_
          refine r_p (p_bin rfl rfl (b_sub (by first | exact w_i64 (by omega) (by omega) | rfl))) rfl ?_
          refine r_p (p_idx_sl (j := (m7 % ops.length)) Try.underlying26 t47 rfl rfl (hs_own (k := 102) rfl) (by rw [Int.natCast_emod]) (Nat.mod_lt _ hn)) rfl ?_
          refine r_p (p_field fo47_2 rfl) rfl ?_
          refine r_store_own (k := 102) (o := 2) (e' := ⟨(ops.getD (m7 % ops.length) o0).c, (ops.getD (m7 % ops.length) o0).d, (m6 : Int) % 30 - 1, (ops.getD (m7 % ops.length) o0).b, (ops.getD (m7 % ops.length) o0).n⟩) t3 rfl rfl rfl rfl rfl rfl (by intro _; rfl) (getD_get o0 (Nat.mod_lt _ hn)) (by show _ + 1 ≤ _; decide) rfl ?_
          refine r_nil ?_
          refine r_seq ?_
          refine r_region ?_
          refine r_p (p_loadA t28 rfl rfl rfl (g_all (k := 5) rfl)) rfl ?_
          refine r_store_all (k := 4) t28 rfl rfl rfl rfl rfl rfl ?_
          refine r_nil ?_
          refine r_cret ?_
          refine r_freeze 102 102 rfl own_to_sl ?_
          refine r_ret (wa, wp, wo, _) ?_ rfl (rs1 (rv_cellA t28 rfl rfl rfl (g_all (k := 4) rfl))) rfl [] [102] rfl rfl rfl
          first
            | exact (show ops.length ≤ 201 by omega)
            | (show List.length _ ≤ 201; simp; omega)
        · (try simp only [decide_eq_true_eq, decide_eq_false_iff_not, Bool.and_eq_true, Bool.or_eq_true, Bool.and_eq_false_iff, Bool.or_eq_false_iff, Bool.not_eq_true, Bool.not_eq_false, Bool.not_eq_true', Bool.not_eq_false', Bool.not_not, bne_iff_ne, beq_iff_eq] at h4)
          refine r_seq ?_
          refine r_region ?_
          refine r_p (p_bin rfl rfl b_eq) rfl ?_
          refine r_p (p_assign rfl) rfl ?_
          refine r_nil ?_
          refine r_cond rfl (fun h5 => ?_) (fun h5 => ?_)
          · (try simp only [decide_eq_true_eq, decide_eq_false_iff_not, Bool.and_eq_true, Bool.or_eq_true, Bool.and_eq_false_iff, Bool.or_eq_false_iff, Bool.not_eq_true, Bool.not_eq_false, Bool.not_eq_true', Bool.not_eq_false', Bool.not_not, bne_iff_ne, beq_iff_eq] at h5)
            refine r_region ?_
            refine r_p (p_field0 fo28_2 rfl) rfl ?_
            refine r_p (p_load1 t26 rfl rfl (g_row1 (k := 5) rfl rfl)) rfl ?_
            refine r_p (p_move rfl) rfl ?_
            refine r_p (p_move rfl) rfl ?_
            refine r_p (p_bin rfl rfl (b_rem (by omega) (by first | exact tmod_pos (by omega) | rfl))) rfl ?_
            refine r_p (p_bin rfl rfl (b_sub (by first | exact w_i64 (by omega) (by omega) | rfl))) rfl ?_
            refine r_p (p_idx_sl (j := (m7 % ops.length)) Try.underlying26 t47 rfl rfl (hs_own (k := 102) rfl) (by rw [Int.natCast_emod]) (Nat.mod_lt _ hn)) rfl ?_
            refine r_p (p_field fo47_3 rfl) rfl ?_
            refine r_store_own (k := 102) (o := 3) (e' := ⟨(ops.getD (m7 % ops.length) o0).c, (ops.getD (m7 % ops.length) o0).d, (ops.getD (m7 % ops.length) o0).a, (m6 : Int) % 30 - 1, (ops.getD (m7 % ops.length) o0).n⟩) t3 rfl rfl rfl rfl rfl rfl (by intro _; rfl) (getD_get o0 (Nat.mod_lt _ hn)) (by show _ + 1 ≤ _; decide) rfl ?_
            refine r_nil ?_
            refine r_seq ?_
            refine r_region ?_
            refine r_p (p_loadA t28 rfl rfl rfl (g_all (k := 5) rfl)) rfl ?_
            refine r_store_all (k := 4) t28 rfl rfl rfl rfl rfl rfl ?_
            refine r_nil ?_
            refine r_cret ?_
            refine r_freeze 102 102 rfl own_to_sl ?_
            refine r_ret (wa, wp, wo, _) ?_ rfl (rs1 (rv_cellA t28 rfl rfl rfl (g_all (k := 4) rfl))) rfl [] [102] rfl rfl rfl
            first
              | exact (show ops.length ≤ 201 by omega)
              | (show List.length _ ≤ 201; simp; omega)
          · (try simp only [decide_eq_true_eq, decide_eq_false_iff_not, Bool.and_eq_true, Bool.or_eq_true, Bool.and_eq_false_iff, Bool.or_eq_false_iff, Bool.not_eq_true, Bool.not_eq_false, Bool.not_eq_true', Bool.not_eq_false', Bool.not_not, bne_iff_ne, beq_iff_eq] at h5)
            refine r_seq ?_
            refine r_region ?_
            refine r_p (p_bin rfl rfl b_eq) rfl ?_
            refine r_p (p_assign rfl) rfl ?_
            refine r_nil ?_
            refine r_cond rfl (fun h6 => ?_) (fun h6 => ?_)
            · (try simp only [decide_eq_true_eq, decide_eq_false_iff_not, Bool.and_eq_true, Bool.or_eq_true, Bool.and_eq_false_iff, Bool.or_eq_false_iff, Bool.not_eq_true, Bool.not_eq_false, Bool.not_eq_true', Bool.not_eq_false', Bool.not_not, bne_iff_ne, beq_iff_eq] at h6)
              refine r_draw [86, 87, 88, 89, 90, 91, 92, 93, 94, 95, 96, 97, 98, 99, 100, 101] _ rfl (stg_mem0 (V := [(0, 86, _), (1, 87, _), (2, 88, _), (3, 89, _), (4, 90, _), (5, 91, _), (6, 92, _), (7, 93, _), (8, 94, _), (9, 95, _), (10, 96, _), (11, 97, _), (12, 98, _), (13, 99, _), (14, 100, _), (15, 101, _)]) [0, 1, 2, 3, 4, 5, 6, 7, 8, 9, 10, 11, 12, 13, 14, 15] 16 [16, 15, 14, 13, 12, 11, 10, 9, 8, 7, 6, 5, 4, 3, 2, 1, 0] [] (fun _ => []) rfl rfl (prs_cons (pri rfl (p_field0 fo28_2 rfl)) (prs_cons (pri rfl (p_load1 t26 rfl rfl (g_row1 (k := 5) rfl rfl))) (prs_cons (pri rfl (p_move rfl)) (prs_cons (pri rfl (p_field0 fo28_2 rfl)) (prs_cons (pri rfl (p_load1 t26 rfl rfl (g_row1 (k := 5) rfl rfl))) (prs_cons (pri rfl (p_move rfl)) (prs_cons (pri rfl (p_idx_sl (j := (m7 % ops.length)) Try.underlying26 t47 rfl rfl (hs_own (k := 102) rfl) (by rw [Int.natCast_emod]) (Nat.mod_lt _ hn))) (prs_cons (pri rfl (p_field fo47_4 rfl)) (prs_cons (pri rfl (p_load1 t45 rfl rfl (g_elp (hs_own (k := 102) rfl) (by intro _; rfl) (getD_get o0 (Nat.mod_lt _ hn)) rfl))) (prs_cons (pri rfl (p_move rfl)) (prs_cons (pri rfl (p_bin rfl rfl (b_rem (by omega) (by first | exact tmod_pos (by omega) | rfl)))) (prs_cons (pri rfl (p_conv Try.underlying3 Try.underlying45 rfl (by first | exact w_u32 (by omega) (by omega) | rfl))) (prs_cons (pri rfl (p_bin rfl rfl (b_add (by first | exact w_u32 (by omega) (by omega) | rfl)))) (prs_cons (pri rfl (p_bin rfl rfl (b_sub (by first | exact w_u32 (by omega) (by omega) | rfl)))) (prs_cons (pri rfl (p_idx_sl (j := (m7 % ops.length)) Try.underlying26 t47 rfl rfl (hs_own (k := 102) rfl) (by rw [Int.natCast_emod]) (Nat.mod_lt _ hn))) (prs_cons (pri rfl (p_field fo47_4 rfl)) prs_nil)))))))))))))))) rfl rfl rfl rfl rfl rfl rfl rfl rfl (fun _ _ => rfl) rfl (ms_store_own (k := 102) (o := 4) (e' := ⟨(ops.getD (m7 % ops.length) o0).c, (ops.getD (m7 % ops.length) o0).d, (ops.getD (m7 % ops.length) o0).a, (ops.getD (m7 % ops.length) o0).b, IntKind.u32.wrap (IntKind.u32.wrap ((ops.getD (m7 % ops.length) o0).n + (m6 : Int) % 3) - 1)⟩) t45 rfl rfl rfl rfl rfl rfl (by intro _; rfl) (getD_get o0 (Nat.mod_lt _ hn)) (by show _ + 1 ≤ _; decide) rfl) (fun _ _ => stg_end [] rfl rfl prs_nil rfl rfl rfl ?_))
              refine r_seq ?_
              refine r_region ?_
              refine r_p (p_loadA t28 rfl rfl rfl (g_all (k := 5) rfl)) rfl ?_
              refine r_store_all (k := 4) t28 rfl rfl rfl rfl rfl rfl ?_
              refine r_nil ?_
              refine r_cret ?_
              refine r_freeze 102 102 rfl own_to_sl ?_
              refine r_ret (wa, wp, wo, _) ?_ rfl (rs1 (rv_cellA t28 rfl rfl rfl (g_all (k := 4) rfl))) rfl [] [102] rfl rfl rfl
              first
                | exact (show ops.length ≤ 201 by omega)
                | (show List.length _ ≤ 201; simp; omega)
            · (try simp only [decide_eq_true_eq, decide_eq_false_iff_not, Bool.and_eq_true, Bool.or_eq_true, Bool.and_eq_false_iff, Bool.or_eq_false_iff, Bool.not_eq_true, Bool.not_eq_false, Bool.not_eq_true', Bool.not_eq_false', Bool.not_not, bne_iff_ne, beq_iff_eq] at h6)
              refine r_seq ?_
              refine r_region ?_
              refine r_p (p_bin rfl rfl b_eq) rfl ?_
              refine r_p (p_assign rfl) rfl ?_
              refine r_nil ?_
              refine r_cond rfl (fun h7 => ?_) (fun h7 => ?_)
              · (try simp only [decide_eq_true_eq, decide_eq_false_iff_not, Bool.and_eq_true, Bool.or_eq_true, Bool.and_eq_false_iff, Bool.or_eq_false_iff, Bool.not_eq_true, Bool.not_eq_false, Bool.not_eq_true', Bool.not_eq_false', Bool.not_not, bne_iff_ne, beq_iff_eq] at h7)
                refine r_seq ?_
                refine r_region ?_
                refine r_p (p_field0 fo28_2 rfl) rfl ?_
                refine r_p (p_load1 t26 rfl rfl (g_row1 (k := 5) rfl rfl)) rfl ?_
                refine r_p (p_move rfl) rfl ?_
                refine r_p (p_bin rfl rfl (b_add (by first | exact w_i64 (by omega) (by omega) | rfl))) rfl ?_
                refine r_p (p_slice_lo (j := (m7 % ops.length + 1)) Try.underlying26 t47 rfl rfl (hs_own (k := 102) rfl) (by omega) (Nat.succ_le_of_lt (Nat.mod_lt _ hn))) rfl ?_
                refine r_p (p_assign rfl) rfl ?_
                refine r_nil ?_
                refine r_region ?_
                refine r_p (p_field0 fo28_2 rfl) rfl ?_
                refine r_p (p_load1 t26 rfl rfl (g_row1 (k := 5) rfl rfl)) rfl ?_
                refine r_p (p_move rfl) rfl ?_
                refine r_p (p_slice_hi (j := (m7 % ops.length)) Try.underlying26 t47 rfl rfl (hs_own (k := 102) rfl) (by rw [Int.natCast_emod]) (Nat.le_of_lt (Nat.mod_lt _ hn))) rfl ?_
                refine r_p (p_move rfl) rfl ?_
                refine r_appendG 102 Try.underlying26 t47 rfl (by decide) (fun _ => rfl) (fun _ => rfl) rfl rfl rfl (own_hi (by intro _; rfl) (Nat.le_of_lt (Nat.mod_lt _ hn))) ((SlS.of (hs_own (k := 102) rfl)).lo (by intro _; rfl) (Nat.succ_le_of_lt (Nat.mod_lt _ hn))) (by simp; omega) (by unfold maxLen; simp; omega) rfl fun v114 => ?_
                refine r_p (p_field0 fo28_2 rfl) rfl ?_
                refine r_store_row (k := 5) t26 rfl rfl rfl rfl rfl rfl rfl rfl ?_
                refine r_nil ?_
                refine r_seq ?_
                refine r_region ?_
                refine r_p (p_loadA t28 rfl rfl rfl (g_all (k := 5) rfl)) rfl ?_
                refine r_store_all (k := 4) t28 rfl rfl rfl rfl rfl rfl ?_
                refine r_nil ?_
                refine r_cret ?_
                refine r_freeze 102 102 rfl own_to_sl ?_
                refine r_ret (wa, wp, v114, _) ?_ rfl (rs1 (rv_cellA t28 rfl rfl rfl (g_all (k := 4) rfl))) rfl [] [102] rfl rfl rfl
                first
                  | exact (show ops.length ≤ 201 by omega)
                  | (show List.length _ ≤ 201; simp; omega)
              · (try simp only [decide_eq_true_eq, decide_eq_false_iff_not, Bool.and_eq_true, Bool.or_eq_true, Bool.and_eq_false_iff, Bool.or_eq_false_iff, Bool.not_eq_true, Bool.not_eq_false, Bool.not_eq_true', Bool.not_eq_false', Bool.not_not, bne_iff_ne, beq_iff_eq] at h7)
                refine r_seq ?_
                refine r_region ?_
                refine r_p (p_bin rfl rfl b_eq) rfl ?_
                refine r_p (p_assign rfl) rfl ?_
                refine r_nil ?_
                refine r_cond rfl (fun h8 => ?_) (fun h8 => ?_)
                · (try simp only [decide_eq_true_eq, decide_eq_false_iff_not, Bool.and_eq_true, Bool.or_eq_true, Bool.and_eq_false_iff, Bool.or_eq_false_iff, Bool.not_eq_true, Bool.not_eq_false, Bool.not_eq_true', Bool.not_eq_false', Bool.not_not, bne_iff_ne, beq_iff_eq] at h8)
                  refine r_seq ?_
                  refine r_region ?_
                  refine r_p (p_field0 fo28_2 rfl) rfl ?_
                  refine r_p (p_load1 t26 rfl rfl (g_row1 (k := 5) rfl rfl)) rfl ?_
                  refine r_p (p_move rfl) rfl ?_
                  refine r_p (p_idx_sl (j := (m7 % ops.length)) Try.underlying26 t47 rfl rfl (hs_own (k := 102) rfl) (by rw [Int.natCast_emod]) (Nat.mod_lt _ hn)) rfl ?_
                  refine r_p (p_loadA t47 rfl rfl rfl (g_el' (hs_own (k := 102) rfl) (by intro _; rfl) (getD_get o0 (Nat.mod_lt _ hn)) (by rfl))) rfl ?_
                  refine r_alloc t47 rfl rfl fun b9 => ?_
                  refine r_store_all (k := 9) t47 rfl rfl rfl rfl rfl rfl ?_
                  refine r_nil ?_
                  refine r_seq ?_
                  refine r_region ?_
                  refine r_p (p_assign rfl) rfl ?_
                  refine r_nil ?_
                  refine r_seq ?_
                  refine r_region ?_
                  refine r_p (p_move rfl) rfl ?_
                  refine r_p (p_field0 fo28_2 rfl) rfl ?_
                  refine r_p (p_load1 t26 rfl rfl (g_row1 (k := 5) rfl rfl)) rfl ?_
                  refine r_p (p_move rfl) rfl ?_
                  refine r_p (p_slice_hi (j := (m7 % ops.length)) Try.underlying26 t47 rfl rfl (hs_own (k := 102) rfl) (by rw [Int.natCast_emod]) (Nat.le_of_lt (Nat.mod_lt _ hn))) rfl ?_
                  refine r_appendG 110 Try.underlying26 t47 rfl (by decide) (fun _ => rfl) (fun _ => rfl) rfl rfl rfl own_id ((SlS.of (hs_own (k := 102) rfl)).hi (Nat.le_of_lt (Nat.mod_lt _ hn))) (by simp; omega) (by unfold maxLen; simp; omega) rfl fun v128 => ?_
                  refine r_p (p_assign rfl) rfl ?_
                  refine r_nil ?_
                  refine r_seq ?_
                  refine r_region ?_
                  refine r_p (p_move rfl) rfl ?_
                  refine r_p (p_loadA t47 rfl rfl rfl (g_all (k := 9) rfl)) rfl ?_
                  refine r_bslice1 eOp (ops.getD (m7 % ops.length) o0) Try.underlying26 t47 rfl (by decide) (by decide) rfl rfl rfl rfl fun v131 => ?_
                  refine r_append 110 Try.underlying26 t47 rfl (by decide) (fun _ => rfl) (fun _ => rfl) rfl rfl rfl (hs_own (k := 131) rfl) (by simp; omega) (by unfold maxLen; simp; omega) rfl fun v132 => ?_
                  refine r_p (p_assign rfl) rfl ?_
                  refine r_nil ?_
                  refine r_region ?_
                  refine r_p (p_move rfl) rfl ?_
                  refine r_p (p_field0 fo28_2 rfl) rfl ?_
                  refine r_p (p_load1 t26 rfl rfl (g_row1 (k := 5) rfl rfl)) rfl ?_
                  refine r_p (p_move rfl) rfl ?_
                  refine r_p (p_slice_lo (j := (m7 % ops.length)) Try.underlying26 t47 rfl rfl (hs_own (k := 102) rfl) (by rw [Int.natCast_emod]) (Nat.le_of_lt (Nat.mod_lt _ hn))) rfl ?_
                  refine r_appendG 110 Try.underlying26 t47 rfl (by decide) (fun _ => rfl) (fun _ => rfl) rfl rfl rfl own_id ((SlS.of (hs_own (k := 102) rfl)).lo (by intro _; rfl) (Nat.le_of_lt (Nat.mod_lt _ hn))) (by simp; omega) (by unfold maxLen; simp; omega) rfl fun v138 => ?_
                  refine r_p (p_field0 fo28_2 rfl) rfl ?_
                  refine r_store_row (k := 5) t26 rfl rfl rfl rfl rfl rfl rfl rfl ?_
                  refine r_nil ?_
                  refine r_seq ?_
                  refine r_region ?_
                  refine r_p (p_loadA t28 rfl rfl rfl (g_all (k := 5) rfl)) rfl ?_
                  refine r_store_all (k := 4) t28 rfl rfl rfl rfl rfl rfl ?_
                  refine r_nil ?_
                  refine r_cret ?_
                  refine r_freeze 110 110 rfl own_to_sl ?_
                  refine r_ret (wa, wp, v138, _) ?_ rfl (rs1 (rv_cellA t28 rfl rfl rfl (g_all (k := 4) rfl))) rfl [] [110] rfl rfl rfl
                  first
                    | exact (show ops.length ≤ 201 by omega)
                    | (show List.length _ ≤ 201; simp; omega)
                · (try simp only [decide_eq_true_eq, decide_eq_false_iff_not, Bool.and_eq_true, Bool.or_eq_true, Bool.and_eq_false_iff, Bool.or_eq_false_iff, Bool.not_eq_true, Bool.not_eq_false, Bool.not_eq_true', Bool.not_eq_false', Bool.not_not, bne_iff_ne, beq_iff_eq] at h8)
                  refine r_seq ?_
                  refine r_region ?_
                  refine r_p (p_bin rfl rfl b_eq) rfl ?_
                  refine r_p (p_assign rfl) rfl ?_
                  refine r_nil ?_
                  refine r_cond rfl (fun h9 => ?_) (fun h9 => ?_)
                  · (try simp only [decide_eq_true_eq, decide_eq_false_iff_not, Bool.and_eq_true, Bool.or_eq_true, Bool.and_eq_false_iff, Bool.or_eq_false_iff, Bool.not_eq_true, Bool.not_eq_false, Bool.not_eq_true', Bool.not_eq_false', Bool.not_not, bne_iff_ne, beq_iff_eq] at h9)
                    refine r_seq ?_
                    refine r_region ?_
                    refine r_p (p_move rfl) rfl ?_
                    refine r_p (p_field0 fo28_2 rfl) rfl ?_
                    refine r_p (p_load1 t26 rfl rfl (g_row1 (k := 5) rfl rfl)) rfl ?_
                    refine r_p (p_len_sl Try.underlying26 rfl (hs_own (k := 102) rfl)) rfl ?_
                    refine r_p (p_bin rfl rfl (b_rem (by omega) (by first | exact tmod_pos (by omega) | rfl))) rfl ?_
                    refine r_p (p_assign rfl) rfl ?_
                    refine r_nil ?_
                    refine r_seq ?_
                    refine r_region ?_
                    refine r_p (p_field0 fo28_2 rfl) rfl ?_
                    refine r_p (p_load1 t26 rfl rfl (g_row1 (k := 5) rfl rfl)) rfl ?_
                    refine r_p (p_move rfl) rfl ?_
                    refine r_p (p_idx_sl (j := (m7 % ops.length)) Try.underlying26 t47 rfl rfl (hs_own (k := 102) rfl) (by rw [Int.natCast_emod]) (Nat.mod_lt _ hn)) rfl ?_
                    refine r_p (p_loadA t47 rfl rfl rfl (g_el' (hs_own (k := 102) rfl) (by intro _; rfl) (getD_get o0 (Nat.mod_lt _ hn)) (by rfl))) rfl ?_
                    refine r_alloc t47 rfl rfl fun b12 => ?_
                    refine r_store_all (k := 12) t47 rfl rfl rfl rfl rfl rfl ?_
                    refine r_nil ?_
                    refine r_seq ?_
                    refine r_draw [152, 153, 154, 155, 156, 157, 158, 159, 160] _ rfl (stg_mem0 (V := [(0, 152, _), (1, 153, _), (2, 154, _), (3, 155, _), (4, 156, _), (5, 157, _), (6, 158, _), (7, 159, _), (8, 160, _)]) [0, 1, 2, 3, 4, 5, 6, 7, 8] 9 [9, 8, 7, 6, 5, 4, 3, 2, 1, 0] [] (fun _ => []) rfl rfl (prs_cons (pri rfl (p_field0 fo28_2 rfl)) (prs_cons (pri rfl (p_load1 t26 rfl rfl (g_row1 (k := 5) rfl rfl))) (prs_cons (pri rfl (p_move rfl)) (prs_cons (pri rfl (p_field0 fo28_2 rfl)) (prs_cons (pri rfl (p_load1 t26 rfl rfl (g_row1 (k := 5) rfl rfl))) (prs_cons (pri rfl (p_move rfl)) (prs_cons (pri rfl (p_idx_sl (j := (m6 % ops.length)) Try.underlying26 t47 rfl rfl (hs_own (k := 102) rfl) (by rw [Int.natCast_emod]) (Nat.mod_lt _ hn))) (prs_cons (pri rfl (p_loadA t47 rfl rfl rfl (g_el' (hs_own (k := 102) rfl) (by intro _; rfl) (getD_get o0 (Nat.mod_lt _ hn)) (by rfl)))) (prs_cons (pri rfl (p_idx_sl (j := (m7 % ops.length)) Try.underlying26 t47 rfl rfl (hs_own (k := 102) rfl) (by rw [Int.natCast_emod]) (Nat.mod_lt _ hn))) prs_nil))))))))) rfl rfl rfl rfl rfl rfl rfl rfl rfl (fun _ _ => rfl) rfl (ms_store_el (k := 102) (e' := (ops.getD (m6 % ops.length) o0)) t47 rfl rfl rfl (by intro _; rfl) (getD_get o0 (Nat.mod_lt _ hn)) rfl rfl) (fun _ _ => stg_end [] rfl rfl prs_nil rfl rfl rfl ?_))
                    refine r_region ?_
                    refine r_p (p_field0 fo28_2 rfl) rfl ?_
                    refine r_p (p_load1 t26 rfl rfl (g_row1 (k := 5) rfl rfl)) rfl ?_
                    refine r_p (p_move rfl) rfl ?_
                    refine r_p (p_loadA t47 rfl rfl rfl (g_all (k := 12) rfl)) rfl ?_
                    refine r_p (p_idx_sl (j := (m6 % ops.length)) Try.underlying26 t47 rfl rfl (hs_own (k := 102) rfl) (by rw [Int.natCast_emod]) (by rw [List.length_set]; exact Nat.mod_lt _ hn)) rfl ?_
                    refine r_store_el (k := 102) (e' := (ops.getD (m7 % ops.length) o0)) t47 rfl rfl rfl (by intro _; rfl) (getD_get o0 (by rw [List.length_set]; exact Nat.mod_lt _ hn)) rfl rfl ?_
                    refine r_nil ?_
                    refine r_seq ?_
                    refine r_region ?_
                    refine r_p (p_loadA t28 rfl rfl rfl (g_all (k := 5) rfl)) rfl ?_
                    refine r_store_all (k := 4) t28 rfl rfl rfl rfl rfl rfl ?_
                    refine r_nil ?_
                    refine r_cret ?_
                    refine r_freeze 102 102 rfl own_to_sl ?_
                    refine r_ret (wa, wp, wo, _) ?_ rfl (rs1 (rv_cellA t28 rfl rfl rfl (g_all (k := 4) rfl))) rfl [] [102] rfl rfl rfl
                    first
                      | exact (show ops.length ≤ 201 by omega)
                      | (show List.length _ ≤ 201; simp; omega)
                  · (try simp only [decide_eq_true_eq, decide_eq_false_iff_not, Bool.and_eq_true, Bool.or_eq_true, Bool.and_eq_false_iff, Bool.or_eq_false_iff, Bool.not_eq_true, Bool.not_eq_false, Bool.not_eq_true', Bool.not_eq_false', Bool.not_not, bne_iff_ne, beq_iff_eq] at h9)
                    refine r_seq ?_
                    refine r_region ?_
                    refine r_p (p_bin rfl rfl b_eq) rfl ?_
                    refine r_p (p_assign rfl) rfl ?_
                    refine r_nil ?_
                    refine r_cond rfl (fun h10 => ?_) (fun h10 => ?_)
                    · (try simp only [decide_eq_true_eq, decide_eq_false_iff_not, Bool.and_eq_true, Bool.or_eq_true, Bool.and_eq_false_iff, Bool.or_eq_false_iff, Bool.not_eq_true, Bool.not_eq_false, Bool.not_eq_true', Bool.not_eq_false', Bool.not_not, bne_iff_ne, beq_iff_eq] at h10)
                      refine r_region ?_
                      refine r_p (p_field0 fo28_0 rfl) rfl ?_
                      refine r_p (p_load1 t25 rfl rfl (g_row1 (k := 5) rfl rfl)) rfl ?_
                      refine r_p (p_move rfl) rfl ?_
                      refine r_p (p_conv Try.underlying3 Try.underlying45 rfl (by first | exact w_u32 (by omega) (by omega) | rfl)) rfl ?_
                      refine r_bslice1 eW _ Try.underlying25 t45 rfl (by decide) (by decide) rfl rfl rfl rfl fun v172 => ?_
                      refine r_append 100 Try.underlying25 t45 rfl (by decide) (fun _ => rfl) (fun _ => rfl) rfl rfl rfl (hs_own (k := 172) rfl) (by simp; omega) (by unfold maxLen; simp; omega) rfl fun v173 => ?_
                      refine r_p (p_field0 fo28_0 rfl) rfl ?_
                      refine r_store_row (k := 5) t25 rfl rfl rfl rfl rfl rfl rfl rfl ?_
                      refine r_nil ?_
                      refine r_seq ?_
                      refine r_region ?_
                      refine r_p (p_loadA t28 rfl rfl rfl (g_all (k := 5) rfl)) rfl ?_
                      refine r_store_all (k := 4) t28 rfl rfl rfl rfl rfl rfl ?_
                      refine r_nil ?_
                      refine r_cret ?_
                      refine r_freeze 102 102 rfl own_to_sl ?_
                      refine r_ret (v173, wp, wo, _) ?_ rfl (rs1 (rv_cellA t28 rfl rfl rfl (g_all (k := 4) rfl))) rfl [] [102] rfl rfl rfl
                      first
                        | exact (show ops.length ≤ 201 by omega)
                        | (show List.length _ ≤ 201; simp; omega)
                    · (try simp only [decide_eq_true_eq, decide_eq_false_iff_not, Bool.and_eq_true, Bool.or_eq_true, Bool.and_eq_false_iff, Bool.or_eq_false_iff, Bool.not_eq_true, Bool.not_eq_false, Bool.not_eq_true', Bool.not_eq_false', Bool.not_not, bne_iff_ne, beq_iff_eq] at h10)
                      refine r_seq ?_
                      refine r_region ?_
                      refine r_p (p_bin rfl rfl b_eq) rfl ?_
                      refine r_p (p_assign rfl) rfl ?_
                      refine r_nil ?_
                      refine r_cond rfl (fun h11 => ?_) (fun h11 => ?_)
                      · (try simp only [decide_eq_true_eq, decide_eq_false_iff_not, Bool.and_eq_true, Bool.or_eq_true, Bool.and_eq_false_iff, Bool.or_eq_false_iff, Bool.not_eq_true, Bool.not_eq_false, Bool.not_eq_true', Bool.not_eq_false', Bool.not_not, bne_iff_ne, beq_iff_eq] at h11)
                        refine r_region ?_
                        refine r_p (p_field0 fo28_1 rfl) rfl ?_
                        refine r_p (p_load1 t22 rfl rfl (g_row1 (k := 5) rfl rfl)) rfl ?_
                        refine r_p (p_move rfl) rfl ?_
                        refine r_p (p_bin rfl rfl (b_rem (by omega) (by first | exact tmod_pos (by omega) | rfl))) rfl ?_
                        refine r_p (p_bin rfl rfl (b_sub (by first | exact w_i64 (by omega) (by omega) | rfl))) rfl ?_
                        refine r_bslice1 eI _ Try.underlying22 t3 rfl (by decide) (by decide) rfl rfl rfl rfl fun v182 => ?_
                        refine r_append 101 Try.underlying22 t3 rfl (by decide) (fun _ => rfl) (fun _ => rfl) rfl rfl rfl (hs_own (k := 182) rfl) (by simp; omega) (by unfold maxLen; simp; omega) rfl fun v183 => ?_
                        refine r_p (p_field0 fo28_1 rfl) rfl ?_
                        refine r_store_row (k := 5) t22 rfl rfl rfl rfl rfl rfl rfl rfl ?_
                        refine r_nil ?_
                        refine r_seq ?_
                        refine r_region ?_
                        refine r_p (p_loadA t28 rfl rfl rfl (g_all (k := 5) rfl)) rfl ?_
                        refine r_store_all (k := 4) t28 rfl rfl rfl rfl rfl rfl ?_
                        refine r_nil ?_
                        refine r_cret ?_
                        refine r_freeze 102 102 rfl own_to_sl ?_
                        refine r_ret (wa, v183, wo, _) ?_ rfl (rs1 (rv_cellA t28 rfl rfl rfl (g_all (k := 4) rfl))) rfl [] [102] rfl rfl rfl
                        first
                          | exact (show ops.length ≤ 201 by omega)
                          | (show List.length _ ≤ 201; simp; omega)
                      · (try simp only [decide_eq_true_eq, decide_eq_false_iff_not, Bool.and_eq_true, Bool.or_eq_true, Bool.and_eq_false_iff, Bool.or_eq_false_iff, Bool.not_eq_true, Bool.not_eq_false, Bool.not_eq_true', Bool.not_eq_false', Bool.not_not, bne_iff_ne, beq_iff_eq] at h11)
                        refine r_draw [35, 36, 37, 38, 39, 40, 41, 42, 43, 44] _ rfl (stg_mem0 (V := [(0, 35, _), (1, 36, _), (2, 37, _), (3, 38, _), (4, 39, _), (5, 40, _), (6, 41, _), (7, 42, _), (8, 43, _), (9, 44, _)]) [0, 1, 2, 3, 4, 5, 6, 7, 8, 9] 10 [10, 9, 8, 7, 6, 5, 4, 3, 2, 1, 0] [] (fun _ => []) rfl rfl (prs_cons (pri rfl (p_field0 fo28_0 rfl)) (prs_cons (pri rfl (p_load1 t25 rfl rfl (g_row1 (k := 5) rfl rfl))) (prs_cons (pri rfl (p_move rfl)) (prs_cons (pri rfl (p_field0 fo28_0 rfl)) (prs_cons (pri rfl (p_load1 t25 rfl rfl (g_row1 (k := 5) rfl rfl))) (prs_cons (pri rfl (p_len_sl Try.underlying25 rfl (hs_own (k := 100) rfl))) (prs_cons (pri rfl (p_bin rfl rfl (b_add (by first | exact w_i64 (by omega) (by omega) | rfl)))) (prs_cons (pri rfl (p_bin rfl rfl (b_rem (by omega) (by first | exact tmod_pos (by omega) | rfl)))) (prs_cons (pri rfl (p_slice_hi (j := (m6 % (sw.length + 1))) Try.underlying25 t45 rfl rfl (hs_own (k := 100) rfl) (by rw [Int.natCast_emod]; rfl) (Nat.le_of_lt_succ (Nat.mod_lt _ (by omega))))) (prs_cons (pri rfl (p_field0 fo28_0 rfl)) prs_nil)))))))))) rfl rfl rfl rfl rfl rfl rfl rfl rfl (fun _ _ => rfl) rfl (ms_store_row (k := 5) t25 rfl rfl rfl rfl rfl rfl rfl rfl) (fun _ _ => stg_end [] rfl rfl prs_nil rfl rfl rfl ?_))
                        refine r_seq ?_
                        refine r_region ?_
                        refine r_p (p_loadA t28 rfl rfl rfl (g_all (k := 5) rfl)) rfl ?_
                        refine r_store_all (k := 4) t28 rfl rfl rfl rfl rfl rfl ?_
                        refine r_nil ?_
                        refine r_cret ?_
                        refine r_freeze 102 102 rfl own_to_sl ?_
                        refine r_ret ((hiS wa (m6 % (sw.length + 1))), wp, wo, _) ?_ rfl (rs1 (rv_cellA t28 rfl rfl rfl (g_all (k := 4) rfl))) rfl [] [102] rfl rfl rfl
                        first
                          | exact (show ops.length ≤ 201 by omega)
                          | (show List.length _ ≤ 201; simp; omega)

end Go.Proofs.Ytfdbkclbcajkiaa
