/-
  What the maker gives: a block of at most 200 operations. No condition.
-/
import Derived.Test.YtfdbkclbcajkiaaC4
import Derived.Test.YtfdbkclbcajkiaaKB
namespace Go.Proofs.Ytfdbkclbcajkiaa
set_option linter.unusedSimpArgs false
set_option linter.unusedVariables false
open Go.RowKit

set_option maxRecDepth 100000 in
set_option maxHeartbeats 1000000 in
theorem made_spec (vs : SV) (s : List Int) :
    Spec Try.prog 19 [sv vs] [] [sl 1 eI (sv vs) s] (X := (SV × SV × SV × List Int × List Int × List OpR)) (fun x => x.2.2.2.2.2.length ≤ 200 ∧ x.2.2.2.1.length ≤ 20 ∧ x.2.2.2.2.1.length ≤ 1) (fun x => .agg #[sv x.1, sv x.2.1, sv x.2.2.1]) (fun _ => []) (fun x => [sl 1 eW (sv x.1) x.2.2.2.1, sl 1 eI (sv x.2.1) x.2.2.2.2.1, sl 5 eOp (sv x.2.2.1) x.2.2.2.2.2]) := by
  refine r_enter Try.func19 rfl Try.ntmps19 rfl fun w0 M H => ?_
  refine r_nilown 100 (S := 45) (s := 1) (enc := eW) ?_
  refine r_nilown 102 (S := 47) (s := 5) (enc := eOp) ?_
  refine r_seq ?_
  refine r_region ?_
  refine r_alloc t28 rfl rfl fun b2 => ?_
  refine r_nil ?_
  refine r_seq ?_
  refine r_region ?_
  refine r_p (p_move rfl) rfl ?_
  refine r_p (p_build (parts := [(0, .tmp 9)]) t64 pl64 rfl rfl) rfl ?_
  refine r_boxA rfl rfl fun b11 => ?_
  refine r_p (p_assign rfl) rfl ?_
  refine r_nil ?_
  refine r_seq ?_
  refine r_region ?_
  refine r_p (p_move rfl) rfl ?_
  refine r_call (xs := [.tmp 12, .const (.int .i64 12)]) (take_ex _ _ _ 0 12 (by omega) (by omega) (by omega)) cb35 [11] [(false, 0)] [11] [] rfl rfl rfl rfl rfl rfl rfl rfl (fun _ _ => rfl) (fun _ _ _ => rfl) rfl (fun n13 hn13 => ?_)
  refine r_p (p_bin rfl rfl (b_add (by first | exact w_i64 (by omega) (by omega) | rfl))) rfl ?_
  refine r_p (p_assign rfl) rfl ?_
  refine r_nil ?_
  refine r_seq ?_
  refine r_region ?_
  refine r_p (p_move rfl) rfl ?_
  refine r_call (xs := [.tmp 15, .const (.int .i64 64)]) (take_ex _ _ _ 1 64 (by omega) (by omega) (by omega)) cb35 [11] [(false, 0)] [11] [] rfl rfl rfl rfl rfl rfl rfl rfl (fun _ _ => rfl) (fun _ _ _ => rfl) rfl (fun n16 hn16 => ?_)
  refine r_p (p_conv Try.underlying3 Try.underlying45 rfl (by first | exact w_u32 (by omega) (by omega) | rfl)) rfl ?_
  refine r_p (p_bin rfl rfl (b_mul (by first | exact w_u32 (by omega) (by omega) | rfl))) rfl ?_
  refine r_p (p_assign rfl) rfl ?_
  refine r_nil ?_
  refine r_seq ?_
  refine r_region ?_
  refine r_p (p_move rfl) rfl ?_
  refine r_p (p_bin rfl rfl (b_quo (by omega) (show IntKind.u32.wrap _ = (n16 * 8) / 256 by rw [Int.tdiv_eq_ediv_of_nonneg (by omega)]; exact w_u32 (by omega) (by omega)))) rfl ?_
  refine r_p (p_conv Try.underlying45 Try.underlying3 rfl (by first | exact w_i64 (by omega) (by omega) | rfl)) rfl ?_
  refine r_bslice1 eI _ Try.underlying22 t3 rfl (by decide) (by decide) rfl rfl rfl rfl fun v22 => ?_
  refine r_p (p_build (parts := [(1, .tmp 22)]) t28 pl28 rfl rfl) rfl ?_
  refine r_alloc t28 rfl rfl fun b6 => ?_
  refine r_store_all (k := 6) t28 rfl rfl rfl rfl rfl rfl ?_
  refine r_nil ?_
  refine r_seq ?_
  refine r_seq ?_
  refine r_region ?_
  refine r_p (p_assign rfl) rfl ?_
  refine r_nil ?_
  refine r_block ?_
  refine r_loop (X := Nat × Nat × SV × SV × List Int × List OpR) (fun x => (x.1 : Int) ≤ 1 + n13 ∧ x.2.1 ≤ 2 + 61 * x.1 ∧ x.2.2.2.2.1.length = x.1 ∧ x.2.2.2.2.2.length ≤ 8 * x.1) (fun x => [(2, .pointer (some ⟨b2, 0, none⟩)), (3, .pointer (some ⟨b11, 0, none⟩)), (4, .int .i64 (1 + n13)), (5, .int .u32 (n16 * 8)), (6, .pointer (some ⟨b6, 0, none⟩)), (7, .int .i64 (x.1 : Int))]) (fun x => [(11, row b11 64 [sv vs, .int .i64 (x.2.1 : Int)]), (6, row b6 28 [sv x.2.2.1, sv v22, sv x.2.2.2.1]), (2, row b2 28 [.slice none 0 0, .slice none 0 0, .slice none 0 0]), (100, own 45 1 eW (sv x.2.2.1) x.2.2.2.2.1), (22, own 3 1 eI (sv v22) [(n16 * 8) / 256]), (102, own 47 5 eOp (sv x.2.2.2.1) x.2.2.2.2.2)]) (fun x => [(0, sl 1 eI (sv vs) s)]) (fun x => (1 + n13 - x.1).toNat) (0, 2, nilS, nilS, [], []) ⟨by dsimp only; omega, by dsimp only; omega, rfl, by simp⟩ rfl rfl rfl (fun ⟨i, k, va, vo, ats, ops⟩ hx => ?_)
  obtain ⟨hi, hk, hat, hop⟩ := hx
  dsimp only at hi hk hat hop ⊢
  refine r_seq ?_
  refine r_seq ?_
  refine r_region ?_
  refine r_p (p_move rfl) rfl ?_
  refine r_p (p_move rfl) rfl ?_
  refine r_p (p_bin rfl rfl b_lt) rfl ?_
  refine r_nil ?_
  refine r_cond rfl (fun h1 => ?_) (fun h1 => ?_)
  · (try simp only [decide_eq_true_eq, decide_eq_false_iff_not, Bool.and_eq_true, Bool.or_eq_true, Bool.and_eq_false_iff, Bool.or_eq_false_iff, Bool.not_eq_true, Bool.not_eq_false, Bool.not_eq_true', Bool.not_eq_false', Bool.not_not, bne_iff_ne, beq_iff_eq] at h1)
    refine r_skip ?_
    refine r_seq ?_
    refine r_block ?_
    refine r_seq ?_
    refine r_region ?_
    refine r_p (p_field0 fo28_0 rfl) rfl ?_
    refine r_p (p_load1 t25 rfl rfl (g_row1 (k := 6) rfl rfl)) rfl ?_
    refine r_p (p_move rfl) rfl ?_
    refine r_p (p_move rfl) rfl ?_
    refine r_p (p_bin rfl rfl (b_mul (by first | exact w_i64 (by omega) (by omega) | rfl))) rfl ?_
    refine r_p (p_conv Try.underlying3 Try.underlying45 rfl (by first | exact w_u32 (by omega) (by omega) | rfl)) rfl ?_
    refine r_p (p_bin rfl rfl (b_add (by first | exact w_u32 (by omega) (by omega) | rfl))) rfl ?_
    refine r_bslice1 eW _ Try.underlying25 t45 rfl (by decide) (by decide) rfl rfl rfl rfl fun v36 => ?_
    refine r_append 100 Try.underlying25 t45 rfl (by decide) (fun _ => rfl) (fun _ => rfl) rfl rfl rfl (hs_own (k := 36) rfl) (by first | omega | (simp; done) | (simp; omega)) (by unfold maxLen; first | omega | (simp; done) | (simp; omega)) rfl fun v37 => ?_
    refine r_p (p_field0 fo28_0 rfl) rfl ?_
    refine r_store_row (k := 6) t25 rfl rfl rfl rfl rfl rfl rfl rfl ?_
    refine r_nil ?_
    refine r_seq ?_
    refine r_region ?_
    refine r_p (p_field0 fo28_2 rfl) rfl ?_
    refine r_p (p_load1 t26 rfl rfl (g_row1 (k := 6) rfl rfl)) rfl ?_
    refine r_p (p_move rfl) rfl ?_
    refine r_p (p_conv Try.underlying3 Try.underlying45 rfl (by first | exact w_u32 (by omega) (by omega) | rfl)) rfl ?_
    refine r_p (p_build (parts := [(0, .const (.int .i64 20)), (4, .tmp 42)]) t47 pl47 rfl rfl) rfl ?_
    refine r_bslice1 eOp (⟨20, 0, 0, 0, (i : Int)⟩ : OpR) Try.underlying26 t47 rfl (by decide) (by decide) rfl rfl rfl rfl fun v44 => ?_
    refine r_append 102 Try.underlying26 t47 rfl (by decide) (fun _ => rfl) (fun _ => rfl) rfl rfl rfl (hs_own (k := 44) rfl) (by first | omega | (simp; done) | (simp; omega)) (by unfold maxLen; first | omega | (simp; done) | (simp; omega)) rfl fun v45 => ?_
    refine r_p (p_field0 fo28_2 rfl) rfl ?_
    refine r_store_row (k := 6) t26 rfl rfl rfl rfl rfl rfl rfl rfl ?_
    refine r_nil ?_
    refine r_seq ?_
    refine r_region ?_
    refine r_p (p_move rfl) rfl ?_
    refine r_p (p_move rfl) rfl ?_
    refine r_p (p_bin rfl rfl (b_sub (by first | exact w_i64 (by omega) (by omega) | rfl))) rfl ?_
    refine r_p (p_bin rfl rfl b_lt) rfl ?_
    refine r_p (p_move rfl) rfl ?_
    refine r_split (t := 51) rfl (fun h2 => ?_) (fun h2 => ?_)
    · (try simp only [decide_eq_true_eq, decide_eq_false_iff_not, Bool.and_eq_true, Bool.or_eq_true, Bool.and_eq_false_iff, Bool.or_eq_false_iff, Bool.not_eq_true, Bool.not_eq_false, Bool.not_eq_true', Bool.not_eq_false', Bool.not_not, bne_iff_ne, beq_iff_eq] at h2)
      refine r_gno rfl rfl rfl rfl ?_
      refine r_gno rfl rfl rfl rfl ?_
      refine r_gno rfl rfl rfl rfl ?_
      refine r_p (p_pick rfl rfl rfl (by first | exact pick_and | exact pick_or |  rfl)) rfl ?_
      refine r_nil ?_
      refine r_cond rfl (fun h3 => ?_) (fun h3 => ?_)
      · (try simp only [decide_eq_true_eq, decide_eq_false_iff_not, Bool.and_eq_true, Bool.or_eq_true, Bool.and_eq_false_iff, Bool.or_eq_false_iff, Bool.not_eq_true, Bool.not_eq_false, Bool.not_eq_true', Bool.not_eq_false', Bool.not_not, bne_iff_ne, beq_iff_eq] at h3)
        refine r_draw [56, 57, 58, 59, 60, 61] _ rfl (stg_mem (V := [(0, 56, _), (1, 57, _), (2, 58, _)]) [0, 1, 2] 3 [3, 2] [] (fun x59 => []) rfl rfl (prs_cons (pri rfl (p_field0 fo28_2 rfl)) (prs_cons (pri rfl (p_load1 t26 rfl rfl (g_row1 (k := 6) rfl rfl))) (prs_cons (pri rfl (p_move rfl)) prs_nil))) rfl rfl rfl rfl rfl rfl rfl rfl rfl rfl rfl (fun _ _ => rfl) rfl (ms_call (xs := [.tmp 58]) (instr_spec _ _ _ _ (by omega)) cb36 [11] [(false, 0)] [11, 59] [] rfl rfl rfl rfl rfl rfl rfl rfl (fun _ _ => rfl) (fun _ _ _ => rfl)) (fun x59 hx59 => stg_mem [0, 1] 4 [4, 3, 2, 1, 0] [5] (fun v60 => [(5, 61, _)]) rfl rfl (prs_cons (pri rfl (p_field0 fo28_2 rfl)) (prs_cons (pri rfl (p_load1 t26 rfl rfl (g_row1 (k := 6) rfl rfl))) prs_nil)) rfl rfl rfl rfl rfl rfl rfl rfl rfl rfl rfl (fun _ _ => rfl) rfl (ms_append 102 Try.underlying26 t47 rfl (by decide) (fun _ => rfl) (fun _ => rfl) rfl rfl rfl (hs_own (k := 59) rfl) (by have h2 : x59.2.1.length ≤ 7 := hx59.2; simp; omega) (by have h2 : x59.2.1.length ≤ 7 := hx59.2; unfold maxLen; simp; omega)) (fun v60 _ => stg_mem0 [5] 6 [6, 5, 4, 3, 2, 1, 0] [] (fun _ => []) rfl rfl (prs_cons (pri rfl (p_field0 fo28_2 rfl)) prs_nil) rfl rfl rfl rfl rfl rfl rfl rfl rfl (fun _ _ => rfl) rfl (ms_store_row (k := 6) t26 rfl rfl rfl rfl rfl rfl rfl rfl) (fun _ _ => stg_end [] rfl rfl prs_nil rfl rfl rfl ?_))))
        obtain ⟨k59, ops59, v59⟩ := x59
        obtain ⟨hx59a, hx59b⟩ := hx59
        dsimp only at hx59a hx59b ⊢
        refine r_region ?_
        refine r_p (p_move rfl) rfl ?_
        refine r_p (p_bin rfl rfl (b_add (by first | exact w_i64 (by omega) (by omega) | rfl))) rfl ?_
        refine r_p (p_assign rfl) rfl ?_
        refine r_nil ?_
        refine r_here (i + 1, _, _, _, _, _) ⟨⟨by dsimp only; omega, by dsimp only; omega, by simp [hat], by simp; omega⟩, by dsimp only; omega⟩ rfl rfl rfl
      · exact absurd h3 (by simp)
    · (try simp only [decide_eq_true_eq, decide_eq_false_iff_not, Bool.and_eq_true, Bool.or_eq_true, Bool.and_eq_false_iff, Bool.or_eq_false_iff, Bool.not_eq_true, Bool.not_eq_false, Bool.not_eq_true', Bool.not_eq_false', Bool.not_not, bne_iff_ne, beq_iff_eq] at h2)
      refine r_gyes rfl rfl ?_
      refine r_p (p_move rfl) rfl ?_
      refine r_gyes rfl rfl ?_
      refine r_call (xs := [.tmp 52, .const (.int .i64 4)]) (take_ex _ _ _ _ 4 (by omega) (by omega) (by omega)) cb35 [11] [(false, 0)] [11] [] rfl rfl rfl rfl rfl rfl rfl rfl (fun _ _ => rfl) (fun _ _ _ => rfl) rfl (fun n53 hn53 => ?_)
      refine r_gyes rfl rfl ?_
      refine r_p (p_bin rfl rfl b_gt) rfl ?_
      refine r_p (p_pick rfl rfl rfl (by first | exact pick_and | exact pick_or |  rfl)) rfl ?_
      refine r_nil ?_
      refine r_cond rfl (fun h4 => ?_) (fun h4 => ?_)
      · (try simp only [decide_eq_true_eq, decide_eq_false_iff_not, Bool.and_eq_true, Bool.or_eq_true, Bool.and_eq_false_iff, Bool.or_eq_false_iff, Bool.not_eq_true, Bool.not_eq_false, Bool.not_eq_true', Bool.not_eq_false', Bool.not_not, bne_iff_ne, beq_iff_eq] at h4)
        refine r_draw [56, 57, 58, 59, 60, 61] _ rfl (stg_mem (V := [(0, 56, _), (1, 57, _), (2, 58, _)]) [0, 1, 2] 3 [3, 2] [] (fun x59 => []) rfl rfl (prs_cons (pri rfl (p_field0 fo28_2 rfl)) (prs_cons (pri rfl (p_load1 t26 rfl rfl (g_row1 (k := 6) rfl rfl))) (prs_cons (pri rfl (p_move rfl)) prs_nil))) rfl rfl rfl rfl rfl rfl rfl rfl rfl rfl rfl (fun _ _ => rfl) rfl (ms_call (xs := [.tmp 58]) (instr_spec _ _ _ _ (by omega)) cb36 [11] [(false, 0)] [11, 59] [] rfl rfl rfl rfl rfl rfl rfl rfl (fun _ _ => rfl) (fun _ _ _ => rfl)) (fun x59 hx59 => stg_mem [0, 1] 4 [4, 3, 2, 1, 0] [5] (fun v60 => [(5, 61, _)]) rfl rfl (prs_cons (pri rfl (p_field0 fo28_2 rfl)) (prs_cons (pri rfl (p_load1 t26 rfl rfl (g_row1 (k := 6) rfl rfl))) prs_nil)) rfl rfl rfl rfl rfl rfl rfl rfl rfl rfl rfl (fun _ _ => rfl) rfl (ms_append 102 Try.underlying26 t47 rfl (by decide) (fun _ => rfl) (fun _ => rfl) rfl rfl rfl (hs_own (k := 59) rfl) (by have h2 : x59.2.1.length ≤ 7 := hx59.2; simp; omega) (by have h2 : x59.2.1.length ≤ 7 := hx59.2; unfold maxLen; simp; omega)) (fun v60 _ => stg_mem0 [5] 6 [6, 5, 4, 3, 2, 1, 0] [] (fun _ => []) rfl rfl (prs_cons (pri rfl (p_field0 fo28_2 rfl)) prs_nil) rfl rfl rfl rfl rfl rfl rfl rfl rfl (fun _ _ => rfl) rfl (ms_store_row (k := 6) t26 rfl rfl rfl rfl rfl rfl rfl rfl) (fun _ _ => stg_end [] rfl rfl prs_nil rfl rfl rfl ?_))))
        obtain ⟨k59, ops59, v59⟩ := x59
        obtain ⟨hx59a, hx59b⟩ := hx59
        dsimp only at hx59a hx59b ⊢
        refine r_region ?_
        refine r_p (p_move rfl) rfl ?_
        refine r_p (p_bin rfl rfl (b_add (by first | exact w_i64 (by omega) (by omega) | rfl))) rfl ?_
        refine r_p (p_assign rfl) rfl ?_
        refine r_nil ?_
        refine r_here (i + 1, _, _, _, _, _) ⟨⟨by dsimp only; omega, by dsimp only; omega, by simp [hat], by simp; omega⟩, by dsimp only; omega⟩ rfl rfl rfl
      · (try simp only [decide_eq_true_eq, decide_eq_false_iff_not, Bool.and_eq_true, Bool.or_eq_true, Bool.and_eq_false_iff, Bool.or_eq_false_iff, Bool.not_eq_true, Bool.not_eq_false, Bool.not_eq_true', Bool.not_eq_false', Bool.not_not, bne_iff_ne, beq_iff_eq] at h4)
        refine r_skip ?_
        refine r_region ?_
        refine r_p (p_move rfl) rfl ?_
        refine r_p (p_bin rfl rfl (b_add (by first | exact w_i64 (by omega) (by omega) | rfl))) rfl ?_
        refine r_p (p_assign rfl) rfl ?_
        refine r_nil ?_
        refine r_here (i + 1, _, _, _, _, _) ⟨⟨by dsimp only; omega, by dsimp only; omega, by simp [hat], by simp; omega⟩, by dsimp only; omega⟩ rfl rfl rfl
  · (try simp only [decide_eq_true_eq, decide_eq_false_iff_not, Bool.and_eq_true, Bool.or_eq_true, Bool.and_eq_false_iff, Bool.or_eq_false_iff, Bool.not_eq_true, Bool.not_eq_false, Bool.not_eq_true', Bool.not_eq_false', Bool.not_not, bne_iff_ne, beq_iff_eq] at h1)
    refine r_exit ?_
    refine r_seq ?_
    refine r_region ?_
    refine r_p (p_move rfl) rfl ?_
    refine r_call (xs := [.tmp 62, .const (.int .i64 128)]) (take_ex _ _ _ _ 128 (by omega) (by omega) (by omega)) cb35 [11] [(false, 0)] [11] [] rfl rfl rfl rfl rfl rfl rfl rfl (fun _ _ => rfl) (fun _ _ _ => rfl) rfl (fun n63 hn63 => ?_)
    refine r_p (p_conv Try.underlying3 Try.underlying45 rfl (by first | exact w_u32 (by omega) (by omega) | rfl)) rfl ?_
    refine r_p (p_bin rfl rfl (b_mul (by first | exact w_u32 (by omega) (by omega) | rfl))) rfl ?_
    refine r_p (p_assign rfl) rfl ?_
    refine r_nil ?_
    refine r_seq_cut (X := Nat × SV × SV × List Int × List OpR) (fun x => x.2.2.2.1.length ≤ 20 ∧ x.2.2.2.2.length ≤ 200) (fun x => [(2, .pointer (some ⟨b2, 0, none⟩)), (6, .pointer (some ⟨b6, 0, none⟩))]) (fun x => [(6, row b6 28 [sv x.2.1, sv v22, sv x.2.2.1]), (2, row b2 28 [.slice none 0 0, .slice none 0 0, .slice none 0 0]), (100, own 45 1 eW (sv x.2.1) x.2.2.2.1), (22, own 3 1 eI (sv v22) [(n16 * 8) / 256]), (102, own 47 5 eOp (sv x.2.2.1) x.2.2.2.2)]) (fun x => [(0, sl 1 eI (sv vs) s)]) ?_ (fun ⟨k2, va2, vo2, ats2, ops2⟩ hc => ?_)
    · refine r_seq ?_
      refine r_region ?_
      refine r_p (p_move rfl) rfl ?_
      refine r_call (xs := [.tmp 66, .const (.int .i64 6)]) (take_ex _ _ _ _ 6 (by omega) (by omega) (by omega)) cb35 [11] [(false, 0)] [11] [] rfl rfl rfl rfl rfl rfl rfl rfl (fun _ _ => rfl) (fun _ _ _ => rfl) rfl (fun n67 hn67 => ?_)
      refine r_nil ?_
      refine r_block ?_
      refine r_seq ?_
      refine r_region ?_
      refine r_p (p_bin rfl rfl b_eq) rfl ?_
      refine r_p (p_assign rfl) rfl ?_
      refine r_nil ?_
      refine r_cond rfl (fun h5 => ?_) (fun h5 => ?_)
      · (try simp only [decide_eq_true_eq, decide_eq_false_iff_not, Bool.and_eq_true, Bool.or_eq_true, Bool.and_eq_false_iff, Bool.or_eq_false_iff, Bool.not_eq_true, Bool.not_eq_false, Bool.not_eq_true', Bool.not_eq_false', Bool.not_not, bne_iff_ne, beq_iff_eq] at h5)
        refine r_seq ?_
        refine r_region ?_
        refine r_p (p_field0 fo28_2 rfl) rfl ?_
        refine r_p (p_load1 t26 rfl rfl (g_row1 (k := 6) rfl rfl)) rfl ?_
        refine r_p (p_move rfl) rfl ?_
        refine r_p (p_conv Try.underlying3 Try.underlying45 rfl (by first | exact w_u32 (by omega) (by omega) | rfl)) rfl ?_
        refine r_p (p_build (parts := [(0, .const (.int .i64 20)), (4, .tmp 80)]) t47 pl47 rfl rfl) rfl ?_
        refine r_p (p_build (parts := [(0, .const (.int .i64 22))]) t47 pl47 rfl rfl) rfl ?_
        refine r_bslice eOp [(⟨20, 0, 0, 0, 1 + n13⟩ : OpR), ⟨22, 0, 0, 0, 0⟩] (parts := [(0, .tmp 81), (1, .tmp 82)]) Try.underlying26 t47 rfl (by decide) (by intro _; rfl) rfl (by decide) (by decide) rfl rfl rfl rfl fun v83 => ?_
        refine r_append 102 Try.underlying26 t47 rfl (by decide) (fun _ => rfl) (fun _ => rfl) rfl rfl rfl (hs_own (k := 83) rfl) (by first | omega | (simp; done) | (simp; omega)) (by unfold maxLen; first | omega | (simp; done) | (simp; omega)) rfl fun v84 => ?_
        refine r_p (p_field0 fo28_2 rfl) rfl ?_
        refine r_store_row (k := 6) t26 rfl rfl rfl rfl rfl rfl rfl rfl ?_
        refine r_nil ?_
        refine r_region ?_
        refine r_p (p_field0 fo28_0 rfl) rfl ?_
        refine r_p (p_load1 t25 rfl rfl (g_row1 (k := 6) rfl rfl)) rfl ?_
        refine r_p (p_move rfl) rfl ?_
        refine r_p (p_move rfl) rfl ?_
        refine r_p (p_bin rfl rfl (b_mul (by first | exact w_i64 (by omega) (by omega) | rfl))) rfl ?_
        refine r_p (p_conv Try.underlying3 Try.underlying45 rfl (by first | exact w_u32 (by omega) (by omega) | rfl)) rfl ?_
        refine r_p (p_bin rfl rfl (b_add (by first | exact w_u32 (by omega) (by omega) | rfl))) rfl ?_
        refine r_bslice1 eW _ Try.underlying25 t45 rfl (by decide) (by decide) rfl rfl rfl rfl fun v93 => ?_
        refine r_append 100 Try.underlying25 t45 rfl (by decide) (fun _ => rfl) (fun _ => rfl) rfl rfl rfl (hs_own (k := 93) rfl) (by first | omega | (simp; done) | (simp; omega)) (by unfold maxLen; first | omega | (simp; done) | (simp; omega)) rfl fun v94 => ?_
        refine r_p (p_field0 fo28_0 rfl) rfl ?_
        refine r_store_row (k := 6) t25 rfl rfl rfl rfl rfl rfl rfl rfl ?_
        refine r_nil ?_
        refine r_here (0, _, _, _, _) ⟨by simp; omega, by simp; omega⟩ rfl rfl rfl
      · (try simp only [decide_eq_true_eq, decide_eq_false_iff_not, Bool.and_eq_true, Bool.or_eq_true, Bool.and_eq_false_iff, Bool.or_eq_false_iff, Bool.not_eq_true, Bool.not_eq_false, Bool.not_eq_true', Bool.not_eq_false', Bool.not_not, bne_iff_ne, beq_iff_eq] at h5)
        refine r_seq ?_
        refine r_region ?_
        refine r_p (p_bin rfl rfl b_eq) rfl ?_
        refine r_p (p_assign rfl) rfl ?_
        refine r_nil ?_
        refine r_cond rfl (fun h6 => ?_) (fun h6 => ?_)
        · (try simp only [decide_eq_true_eq, decide_eq_false_iff_not, Bool.and_eq_true, Bool.or_eq_true, Bool.and_eq_false_iff, Bool.or_eq_false_iff, Bool.not_eq_true, Bool.not_eq_false, Bool.not_eq_true', Bool.not_eq_false', Bool.not_not, bne_iff_ne, beq_iff_eq] at h6)
          refine r_draw [98, 99, 100, 101, 102, 103, 104, 105] _ rfl (stg_mem (V := [(0, 98, _), (1, 99, _), (2, 100, _)]) [0, 1, 2] 3 [3, 2] [4] (fun n101 => [(4, 102, _)]) rfl rfl (prs_cons (pri rfl (p_field0 fo28_2 rfl)) (prs_cons (pri rfl (p_load1 t26 rfl rfl (g_row1 (k := 6) rfl rfl))) (prs_cons (pri rfl (p_move rfl)) prs_nil))) rfl rfl rfl rfl rfl rfl rfl rfl rfl rfl rfl (fun _ _ => rfl) rfl (ms_call (xs := [.tmp 100, .const (.int .i64 19)]) (take_ex _ _ _ _ 19 (by omega) (by omega) (by omega)) cb35 [11] [(false, 0)] [11] [] rfl rfl rfl rfl rfl rfl rfl rfl (fun _ _ => rfl) (fun _ _ _ => rfl)) (fun n101 hn101 => stg_mem [4, 0, 1] 5 [5, 4, 3, 2] [] (fun v103 => []) rfl rfl (prs_cons (pri rfl (p_build (parts := [(0, .const (.int .i64 25)), (2, .tmp 101)]) t47 pl47 rfl rfl)) (prs_cons (pri rfl (p_field0 fo28_2 rfl)) (prs_cons (pri rfl (p_load1 t26 rfl rfl (g_row1 (k := 6) rfl rfl))) prs_nil))) rfl rfl rfl rfl rfl rfl rfl rfl rfl rfl rfl (fun _ _ => rfl) rfl (ms_bslice1 eOp (⟨25, 0, n101, 0, 0⟩ : OpR) Try.underlying26 t47 rfl (by decide) (by decide) rfl rfl rfl) (fun v103 _ => stg_mem [0, 1] 6 [6, 5, 4, 3, 2, 1, 0] [7] (fun v104 => [(7, 105, _)]) rfl rfl (prs_cons (pri rfl (p_field0 fo28_2 rfl)) (prs_cons (pri rfl (p_load1 t26 rfl rfl (g_row1 (k := 6) rfl rfl))) prs_nil)) rfl rfl rfl rfl rfl rfl rfl rfl rfl rfl rfl (fun _ _ => rfl) rfl (ms_append 102 Try.underlying26 t47 rfl (by decide) (fun _ => rfl) (fun _ => rfl) rfl rfl rfl (hs_own (k := 103) rfl) (by first | omega | (simp; done) | (simp; omega)) (by unfold maxLen; first | omega | (simp; done) | (simp; omega))) (fun v104 _ => stg_mem0 [7] 8 [8, 7, 6, 5, 4, 3, 2, 1, 0] [] (fun _ => []) rfl rfl (prs_cons (pri rfl (p_field0 fo28_2 rfl)) prs_nil) rfl rfl rfl rfl rfl rfl rfl rfl rfl (fun _ _ => rfl) rfl (ms_store_row (k := 6) t26 rfl rfl rfl rfl rfl rfl rfl rfl) (fun _ _ => stg_end [] rfl rfl prs_nil rfl rfl rfl ?_)))))
          refine r_here (0, _, _, _, _) ⟨by simp; omega, by simp; omega⟩ rfl rfl rfl
        · (try simp only [decide_eq_true_eq, decide_eq_false_iff_not, Bool.and_eq_true, Bool.or_eq_true, Bool.and_eq_false_iff, Bool.or_eq_false_iff, Bool.not_eq_true, Bool.not_eq_false, Bool.not_eq_true', Bool.not_eq_false', Bool.not_not, bne_iff_ne, beq_iff_eq] at h6)
          refine r_seq ?_
          refine r_seq ?_
          refine r_region ?_
          refine r_p (p_bin rfl rfl b_eq) rfl ?_
          refine r_p (p_assign rfl) rfl ?_
          refine r_nil ?_
          refine r_cond rfl (fun h7 => ?_) (fun h7 => ?_)
          · (try simp only [decide_eq_true_eq, decide_eq_false_iff_not, Bool.and_eq_true, Bool.or_eq_true, Bool.and_eq_false_iff, Bool.or_eq_false_iff, Bool.not_eq_true, Bool.not_eq_false, Bool.not_eq_true', Bool.not_eq_false', Bool.not_not, bne_iff_ne, beq_iff_eq] at h7)
            refine r_skip ?_
            refine r_cond rfl (fun h8 => ?_) (fun h8 => ?_)
            · (try simp only [decide_eq_true_eq, decide_eq_false_iff_not, Bool.and_eq_true, Bool.or_eq_true, Bool.and_eq_false_iff, Bool.or_eq_false_iff, Bool.not_eq_true, Bool.not_eq_false, Bool.not_eq_true', Bool.not_eq_false', Bool.not_not, bne_iff_ne, beq_iff_eq] at h8)
              refine r_draw [109, 110, 111, 112, 113, 114, 115, 116, 117, 118, 119, 120, 121, 122, 123] _ rfl (stg_mem (V := [(0, 109, _), (1, 110, _), (2, 111, _), (4, 113, _), (6, 115, _), (7, 116, _), (8, 117, _), (9, 118, _), (10, 119, _), (11, 120, _)]) [0, 1, 2, 4, 6, 7, 8, 9, 10, 11] 3 [3, 2] [5] (fun n112 => [(5, 114, _)]) rfl rfl (prs_cons (pri rfl (p_field0 fo28_2 rfl)) (prs_cons (pri rfl (p_load1 t26 rfl rfl (g_row1 (k := 6) rfl rfl))) (prs_cons (pri rfl (p_move rfl)) (prs_cons (pri rfl (p_move rfl)) (prs_cons (pri rfl (p_move rfl)) (prs_cons (pri rfl (p_move rfl)) (prs_cons (pri rfl (p_bin rfl rfl (b_mul (by first | exact w_i64 (by omega) (by omega) | rfl)))) (prs_cons (pri rfl (p_conv Try.underlying3 Try.underlying45 rfl (by first | exact w_u32 (by omega) (by omega) | rfl))) (prs_cons (pri rfl (p_bin rfl rfl (b_add (by first | exact w_u32 (by omega) (by omega) | rfl)))) (prs_cons (pri rfl (p_build (parts := [(0, .const (.int .i64 24)), (4, .tmp 119)]) t47 pl47 rfl rfl)) prs_nil)))))))))) rfl rfl rfl rfl rfl rfl rfl rfl rfl rfl rfl (fun _ _ => rfl) rfl (ms_call (xs := [.tmp 111, .const (.int .i64 19)]) (take_ex _ _ _ _ 19 (by omega) (by omega) (by omega)) cb35 [11] [(false, 0)] [11] [] rfl rfl rfl rfl rfl rfl rfl rfl (fun _ _ => rfl) (fun _ _ _ => rfl)) (fun n112 hn112 => stg_mem [5, 0, 1, 4, 6, 7, 8, 9, 10, 11] 12 [12, 11, 10, 9, 8, 7, 6, 5, 4, 3, 2] [] (fun v121 => []) rfl rfl (prs_cons (pri rfl (p_build (parts := [(0, .const (.int .i64 23)), (2, .tmp 112), (4, .tmp 113)]) t47 pl47 rfl rfl)) (prs_cons (pri rfl (p_field0 fo28_2 rfl)) (prs_cons (pri rfl (p_load1 t26 rfl rfl (g_row1 (k := 6) rfl rfl))) (prs_cons (pri rfl (p_move rfl)) (prs_cons (pri rfl (p_move rfl)) (prs_cons (pri rfl (p_move rfl)) (prs_cons (pri rfl (p_bin rfl rfl (b_mul (by first | exact w_i64 (by omega) (by omega) | rfl)))) (prs_cons (pri rfl (p_conv Try.underlying3 Try.underlying45 rfl (by first | exact w_u32 (by omega) (by omega) | rfl))) (prs_cons (pri rfl (p_bin rfl rfl (b_add (by first | exact w_u32 (by omega) (by omega) | rfl)))) (prs_cons (pri rfl (p_build (parts := [(0, .const (.int .i64 24)), (4, .tmp 119)]) t47 pl47 rfl rfl)) prs_nil)))))))))) rfl rfl rfl rfl rfl rfl rfl rfl rfl rfl rfl (fun _ _ => rfl) rfl (ms_bslice eOp [(⟨23, 0, n112, 0, n63 * 4⟩ : OpR), ⟨24, 0, 0, 0, n16 * 8 + 4 * (1 + n13)⟩] (parts := [(0, .tmp 114), (1, .tmp 120)]) Try.underlying26 t47 rfl (by decide) (by intro _; rfl) rfl (by decide) (by decide) rfl rfl rfl) (fun v121 _ => stg_mem [0, 1] 13 [13, 12, 11, 10, 9, 8, 7, 6, 5, 4, 3, 2, 1, 0] [14] (fun v122 => [(14, 123, _)]) rfl rfl (prs_cons (pri rfl (p_field0 fo28_2 rfl)) (prs_cons (pri rfl (p_load1 t26 rfl rfl (g_row1 (k := 6) rfl rfl))) prs_nil)) rfl rfl rfl rfl rfl rfl rfl rfl rfl rfl rfl (fun _ _ => rfl) rfl (ms_append 102 Try.underlying26 t47 rfl (by decide) (fun _ => rfl) (fun _ => rfl) rfl rfl rfl (hs_own (k := 121) rfl) (by first | omega | (simp; done) | (simp; omega)) (by unfold maxLen; first | omega | (simp; done) | (simp; omega))) (fun v122 _ => stg_mem0 [14] 15 [15, 14, 13, 12, 11, 10, 9, 8, 7, 6, 5, 4, 3, 2, 1, 0] [] (fun _ => []) rfl rfl (prs_cons (pri rfl (p_field0 fo28_2 rfl)) prs_nil) rfl rfl rfl rfl rfl rfl rfl rfl rfl (fun _ _ => rfl) rfl (ms_store_row (k := 6) t26 rfl rfl rfl rfl rfl rfl rfl rfl) (fun _ _ => stg_end [] rfl rfl prs_nil rfl rfl rfl ?_)))))
              refine r_here (0, _, _, _, _) ⟨by simp; omega, by simp; omega⟩ rfl rfl rfl
            · (try simp only [decide_eq_true_eq, decide_eq_false_iff_not, Bool.and_eq_true, Bool.or_eq_true, Bool.and_eq_false_iff, Bool.or_eq_false_iff, Bool.not_eq_true, Bool.not_eq_false, Bool.not_eq_true', Bool.not_eq_false', Bool.not_not, bne_iff_ne, beq_iff_eq] at h8)
              refine r_region ?_
              refine r_p (p_field0 fo28_2 rfl) rfl ?_
              refine r_p (p_load1 t26 rfl rfl (g_row1 (k := 6) rfl rfl)) rfl ?_
              refine r_p (p_move rfl) rfl ?_
              refine r_p (p_build (parts := [(0, .const (.int .i64 24)), (4, .tmp 70)]) t47 pl47 rfl rfl) rfl ?_
              refine r_bslice1 eOp (⟨24, 0, 0, 0, n63 * 4⟩ : OpR) Try.underlying26 t47 rfl (by decide) (by decide) rfl rfl rfl rfl fun v72 => ?_
              refine r_append 102 Try.underlying26 t47 rfl (by decide) (fun _ => rfl) (fun _ => rfl) rfl rfl rfl (hs_own (k := 72) rfl) (by first | omega | (simp; done) | (simp; omega)) (by unfold maxLen; first | omega | (simp; done) | (simp; omega)) rfl fun v73 => ?_
              refine r_p (p_field0 fo28_2 rfl) rfl ?_
              refine r_store_row (k := 6) t26 rfl rfl rfl rfl rfl rfl rfl rfl ?_
              refine r_nil ?_
              refine r_here (0, _, _, _, _) ⟨by simp; omega, by simp; omega⟩ rfl rfl rfl
          · (try simp only [decide_eq_true_eq, decide_eq_false_iff_not, Bool.and_eq_true, Bool.or_eq_true, Bool.and_eq_false_iff, Bool.or_eq_false_iff, Bool.not_eq_true, Bool.not_eq_false, Bool.not_eq_true', Bool.not_eq_false', Bool.not_not, bne_iff_ne, beq_iff_eq] at h7)
            refine r_region ?_
            refine r_p (p_bin rfl rfl b_eq) rfl ?_
            refine r_p (p_assign rfl) rfl ?_
            refine r_nil ?_
            refine r_cond rfl (fun h9 => ?_) (fun h9 => ?_)
            · (try simp only [decide_eq_true_eq, decide_eq_false_iff_not, Bool.and_eq_true, Bool.or_eq_true, Bool.and_eq_false_iff, Bool.or_eq_false_iff, Bool.not_eq_true, Bool.not_eq_false, Bool.not_eq_true', Bool.not_eq_false', Bool.not_not, bne_iff_ne, beq_iff_eq] at h9)
              refine r_draw [109, 110, 111, 112, 113, 114, 115, 116, 117, 118, 119, 120, 121, 122, 123] _ rfl (stg_mem (V := [(0, 109, _), (1, 110, _), (2, 111, _), (4, 113, _), (6, 115, _), (7, 116, _), (8, 117, _), (9, 118, _), (10, 119, _), (11, 120, _)]) [0, 1, 2, 4, 6, 7, 8, 9, 10, 11] 3 [3, 2] [5] (fun n112 => [(5, 114, _)]) rfl rfl (prs_cons (pri rfl (p_field0 fo28_2 rfl)) (prs_cons (pri rfl (p_load1 t26 rfl rfl (g_row1 (k := 6) rfl rfl))) (prs_cons (pri rfl (p_move rfl)) (prs_cons (pri rfl (p_move rfl)) (prs_cons (pri rfl (p_move rfl)) (prs_cons (pri rfl (p_move rfl)) (prs_cons (pri rfl (p_bin rfl rfl (b_mul (by first | exact w_i64 (by omega) (by omega) | rfl)))) (prs_cons (pri rfl (p_conv Try.underlying3 Try.underlying45 rfl (by first | exact w_u32 (by omega) (by omega) | rfl))) (prs_cons (pri rfl (p_bin rfl rfl (b_add (by first | exact w_u32 (by omega) (by omega) | rfl)))) (prs_cons (pri rfl (p_build (parts := [(0, .const (.int .i64 24)), (4, .tmp 119)]) t47 pl47 rfl rfl)) prs_nil)))))))))) rfl rfl rfl rfl rfl rfl rfl rfl rfl rfl rfl (fun _ _ => rfl) rfl (ms_call (xs := [.tmp 111, .const (.int .i64 19)]) (take_ex _ _ _ _ 19 (by omega) (by omega) (by omega)) cb35 [11] [(false, 0)] [11] [] rfl rfl rfl rfl rfl rfl rfl rfl (fun _ _ => rfl) (fun _ _ _ => rfl)) (fun n112 hn112 => stg_mem [5, 0, 1, 4, 6, 7, 8, 9, 10, 11] 12 [12, 11, 10, 9, 8, 7, 6, 5, 4, 3, 2] [] (fun v121 => []) rfl rfl (prs_cons (pri rfl (p_build (parts := [(0, .const (.int .i64 23)), (2, .tmp 112), (4, .tmp 113)]) t47 pl47 rfl rfl)) (prs_cons (pri rfl (p_field0 fo28_2 rfl)) (prs_cons (pri rfl (p_load1 t26 rfl rfl (g_row1 (k := 6) rfl rfl))) (prs_cons (pri rfl (p_move rfl)) (prs_cons (pri rfl (p_move rfl)) (prs_cons (pri rfl (p_move rfl)) (prs_cons (pri rfl (p_bin rfl rfl (b_mul (by first | exact w_i64 (by omega) (by omega) | rfl)))) (prs_cons (pri rfl (p_conv Try.underlying3 Try.underlying45 rfl (by first | exact w_u32 (by omega) (by omega) | rfl))) (prs_cons (pri rfl (p_bin rfl rfl (b_add (by first | exact w_u32 (by omega) (by omega) | rfl)))) (prs_cons (pri rfl (p_build (parts := [(0, .const (.int .i64 24)), (4, .tmp 119)]) t47 pl47 rfl rfl)) prs_nil)))))))))) rfl rfl rfl rfl rfl rfl rfl rfl rfl rfl rfl (fun _ _ => rfl) rfl (ms_bslice eOp [(⟨23, 0, n112, 0, n63 * 4⟩ : OpR), ⟨24, 0, 0, 0, n16 * 8 + 4 * (1 + n13)⟩] (parts := [(0, .tmp 114), (1, .tmp 120)]) Try.underlying26 t47 rfl (by decide) (by intro _; rfl) rfl (by decide) (by decide) rfl rfl rfl) (fun v121 _ => stg_mem [0, 1] 13 [13, 12, 11, 10, 9, 8, 7, 6, 5, 4, 3, 2, 1, 0] [14] (fun v122 => [(14, 123, _)]) rfl rfl (prs_cons (pri rfl (p_field0 fo28_2 rfl)) (prs_cons (pri rfl (p_load1 t26 rfl rfl (g_row1 (k := 6) rfl rfl))) prs_nil)) rfl rfl rfl rfl rfl rfl rfl rfl rfl rfl rfl (fun _ _ => rfl) rfl (ms_append 102 Try.underlying26 t47 rfl (by decide) (fun _ => rfl) (fun _ => rfl) rfl rfl rfl (hs_own (k := 121) rfl) (by first | omega | (simp; done) | (simp; omega)) (by unfold maxLen; first | omega | (simp; done) | (simp; omega))) (fun v122 _ => stg_mem0 [14] 15 [15, 14, 13, 12, 11, 10, 9, 8, 7, 6, 5, 4, 3, 2, 1, 0] [] (fun _ => []) rfl rfl (prs_cons (pri rfl (p_field0 fo28_2 rfl)) prs_nil) rfl rfl rfl rfl rfl rfl rfl rfl rfl (fun _ _ => rfl) rfl (ms_store_row (k := 6) t26 rfl rfl rfl rfl rfl rfl rfl rfl) (fun _ _ => stg_end [] rfl rfl prs_nil rfl rfl rfl ?_)))))
              refine r_here (0, _, _, _, _) ⟨by simp; omega, by simp; omega⟩ rfl rfl rfl
            · (try simp only [decide_eq_true_eq, decide_eq_false_iff_not, Bool.and_eq_true, Bool.or_eq_true, Bool.and_eq_false_iff, Bool.or_eq_false_iff, Bool.not_eq_true, Bool.not_eq_false, Bool.not_eq_true', Bool.not_eq_false', Bool.not_not, bne_iff_ne, beq_iff_eq] at h9)
              refine r_region ?_
              refine r_p (p_field0 fo28_2 rfl) rfl ?_
              refine r_p (p_load1 t26 rfl rfl (g_row1 (k := 6) rfl rfl)) rfl ?_
              refine r_p (p_move rfl) rfl ?_
              refine r_p (p_build (parts := [(0, .const (.int .i64 24)), (4, .tmp 70)]) t47 pl47 rfl rfl) rfl ?_
              refine r_bslice1 eOp (⟨24, 0, 0, 0, n63 * 4⟩ : OpR) Try.underlying26 t47 rfl (by decide) (by decide) rfl rfl rfl rfl fun v72 => ?_
              refine r_append 102 Try.underlying26 t47 rfl (by decide) (fun _ => rfl) (fun _ => rfl) rfl rfl rfl (hs_own (k := 72) rfl) (by first | omega | (simp; done) | (simp; omega)) (by unfold maxLen; first | omega | (simp; done) | (simp; omega)) rfl fun v73 => ?_
              refine r_p (p_field0 fo28_2 rfl) rfl ?_
              refine r_store_row (k := 6) t26 rfl rfl rfl rfl rfl rfl rfl rfl ?_
              refine r_nil ?_
              refine r_here (0, _, _, _, _) ⟨by simp; omega, by simp; omega⟩ rfl rfl rfl
    · obtain ⟨hc1, hc2⟩ := hc
      dsimp only at hc1 hc2 ⊢
      refine r_freeze 100 100 rfl own_to_sl ?_
      refine r_freeze 22 22 rfl own_to_sl ?_
      refine r_freeze 102 102 rfl own_to_sl ?_
      refine r_seq ?_
      refine r_region ?_
      refine r_p (p_loadA t28 rfl rfl rfl (g_all (k := 6) rfl)) rfl ?_
      refine r_store_all (k := 2) t28 rfl rfl rfl rfl rfl rfl ?_
      refine r_nil ?_
      refine r_cret ?_
      refine r_ret (va2, v22, vo2, ats2, [(n16 * 8) / 256], ops2) ⟨by dsimp only; omega, by dsimp only; omega, by simp⟩ rfl (rs1 (rv_cellA t28 rfl rfl rfl (g_all (k := 2) rfl))) rfl [] [100, 22, 102] rfl rfl rfl

end Go.Proofs.Ytfdbkclbcajkiaa
