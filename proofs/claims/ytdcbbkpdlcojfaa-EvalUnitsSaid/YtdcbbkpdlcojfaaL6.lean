/-
  The law of units. Condition: the number is small.
-/
import Derived.Test.YtdcbbkpdlcojfaaB0
namespace Go.Proofs.Ytdcbbkpdlcojfaa
set_option linter.unusedSimpArgs false
set_option linter.unusedVariables false
open Go.RowKit

set_option maxHeartbeats 4000000 in
set_option maxRecDepth 100000 in
theorem units_law (n : Int) (hn : 0 ≤ n ∧ n < 65536) :
    Spec Try.prog 6 [.int .u16 n] [] [] (X := Unit) (fun _ => True) (fun _ => .bool true) (fun _ => []) (fun _ => []) := by
  refine r_enter Try.func6 rfl Try.ntmps6 rfl fun w0 M H => ?_
  obtain ⟨k, hk, hk3⟩ : ∃ k : Nat, n % 300 = (k : Int) ∧ k < 300 := ⟨(n % 300).toNat, by omega, by omega⟩
  refine r_nilsl 93 (α := Int) (s := 1) (enc := eU) ?_
  refine r_seq ?_
  refine r_region ?_
  refine r_p (p_assign rfl) rfl ?_
  refine r_nil ?_
  refine r_seq ?_
  refine r_region ?_
  refine r_call (xs := []) sanity_spec cb12 [] [] [] [] rfl rfl rfl rfl rfl rfl rfl rfl (fun _ _ => rfl) (fun _ _ _ => rfl) rfl (fun _ _ => ?_)
  refine r_p (p_assign rfl) rfl ?_
  refine r_nil ?_
  refine r_seq ?_
  refine r_region ?_
  refine r_p (p_move rfl) rfl ?_
  refine r_p (p_bin rfl rfl (b_rem (by omega) (by first | exact tmod_pos (by omega) | rfl))) rfl ?_
  rw [hk]
  refine r_p (p_conv Try.underlying36 Try.underlying3 rfl (by first | exact w_i64 (by omega) (by omega) | rfl)) rfl ?_
  refine r_p (p_assign rfl) rfl ?_
  refine r_nil ?_
  refine r_seq ?_
  refine r_region ?_
  refine r_p (p_move rfl) rfl ?_
  refine r_p (p_bin rfl rfl (b_add (by first | exact w_i64 (by omega) (by omega) | rfl))) rfl ?_
  refine r_p (p_bin rfl rfl (b_add (by first | exact w_i64 (by omega) (by omega) | rfl))) rfl ?_
  refine r_p (p_move rfl) rfl ?_
  refine r_p (p_bin rfl rfl (b_mul (by first | exact w_i64 (by omega) (by omega) | rfl))) rfl ?_
  refine r_p (p_bin rfl rfl (b_add (by first | exact w_i64 (by omega) (by omega) | rfl))) rfl ?_
  refine r_p (p_assign rfl) rfl ?_
  refine r_nil ?_
  refine r_seq ?_
  refine r_region ?_
  refine r_p (p_move rfl) rfl ?_
  refine r_p (p_conv Try.underlying3 Try.underlying22 rfl (by first | exact w_u32 (by omega) (by omega) | rfl)) rfl ?_
  refine r_call (xs := [.tmp 25]) (loop_spec (k : Int)) cb22 [] [] [51] [] rfl rfl rfl rfl rfl rfl rfl rfl (fun _ _ => rfl) (fun _ _ _ => rfl) rfl (fun lv _ => ?_)
  have hr1 : RunIs (lv.p (k : Int)) [] (3 + (k : Int) + 1 + 6 * (k : Int)) ⟨0, cnt k, (List.range 256).map fun _ => 0⟩ := by
    rw [show 3 + (k : Int) + 1 + 6 * (k : Int) = 4 + 7 * (k : Int) by omega]
    exact lp_run_ok k (by omega) lv
  refine r_p (p_move rfl) rfl ?_
  refine r_call (xs := [.tmp 26, .const (.slice Option.none 0 0), .tmp 27]) (run_spec lv.v7 nilS (lv.p (k : Int)) [] (3 + (k : Int) + 1 + 6 * (k : Int)) (lp_gp ⟨by omega, by omega⟩ lv) (by simp) (by simp) (by omega) _ hr1) cb20 [] [(true, 51), (false, 93)] [60, 61] [] rfl rfl rfl rfl rfl rfl rfl rfl (fun _ _ => rfl) (fun _ _ _ => rfl) rfl (fun ⟨ra, rb⟩ _ => ?_)
  refine r_p (p_move rfl) rfl ?_
  refine r_p (p_extract rfl rfl) rfl ?_
  refine r_p (p_extract rfl rfl) rfl ?_
  refine r_p (p_extract rfl rfl) rfl ?_
  refine r_p (p_assign rfl) rfl ?_
  refine r_p (p_assign rfl) rfl ?_
  refine r_p (p_assign rfl) rfl ?_
  refine r_nil ?_
  refine r_seq ?_
  refine r_region ?_
  refine r_p (p_move rfl) rfl ?_
  refine r_p (p_conv Try.underlying3 Try.underlying22 rfl (by first | exact w_u32 (by omega) (by omega) | rfl)) rfl ?_
  refine r_call (xs := [.tmp 34]) (loop_spec (k : Int)) cb22 [] [] [52] [] rfl rfl rfl rfl rfl rfl rfl rfl (fun _ _ => rfl) (fun _ _ _ => rfl) rfl (fun lw _ => ?_)
  have hr2 : RunIs (lw.p (k : Int)) [] (3 + (k : Int) + 1 + 6 * (k : Int) - 1) ⟨25, [], []⟩ := by
    rw [show 3 + (k : Int) + 1 + 6 * (k : Int) - 1 = 4 + 7 * (k : Int) - 1 by omega]
    exact lp_run_no k (by omega) lw
  refine r_p (p_move rfl) rfl ?_
  refine r_p (p_bin rfl rfl (b_sub (by first | exact w_i64 (by omega) (by omega) | rfl))) rfl ?_
  refine r_call (xs := [.tmp 35, .const (.slice Option.none 0 0), .tmp 37]) (run_spec lw.v7 nilS (lw.p (k : Int)) [] (3 + (k : Int) + 1 + 6 * (k : Int) - 1) (lp_gp ⟨by omega, by omega⟩ lw) (by simp) (by simp) (by omega) _ hr2) cb20 [] [(true, 52), (false, 93)] [62, 63] [] rfl rfl rfl rfl rfl rfl rfl rfl (fun _ _ => rfl) (fun _ _ _ => rfl) rfl (fun ⟨rc, rd⟩ _ => ?_)
  refine r_p (p_move rfl) rfl ?_
  refine r_p (p_extract rfl rfl) rfl ?_
  refine r_p (p_extract rfl rfl) rfl ?_
  refine r_p (p_extract rfl rfl) rfl ?_
  refine r_p (p_assign rfl) rfl ?_
  refine r_p (p_assign rfl) rfl ?_
  refine r_p (p_assign rfl) rfl ?_
  refine r_nil ?_
  refine r_seq ?_
  refine r_seq ?_
  refine r_region ?_
  refine r_p (p_assign rfl) rfl ?_
  refine r_nil ?_
  refine r_block ?_
  have hcl := cnt_len k
  refine r_loop (X := Nat) (fun i => i ≤ k) (fun i => [(3, .bool true), (4, .int .i64 (k : Int)), (6, sv ra), (8, .int .i64 0), (11, .int .i64 25), (12, .int .i64 (i : Int))]) (fun i => [(60, own 22 1 eU (sv ra) (cnt k))]) (fun i => []) (fun i => k - i) 0 (Nat.zero_le _) rfl rfl rfl (fun i n1 => ?_)
  refine r_seq ?_
  refine r_seq ?_
  refine r_region ?_
  refine r_p (p_move rfl) rfl ?_
  refine r_p (p_move rfl) rfl ?_
  refine r_p (p_len_sl Try.underlying35 rfl (hs_own (k := 60) rfl)) rfl ?_
  refine r_p (p_bin rfl rfl b_lt) rfl ?_
  refine r_nil ?_
  refine r_cond rfl (fun h1 => ?_) (fun h1 => ?_)
  · (try simp only [decide_eq_true_eq, decide_eq_false_iff_not, Bool.and_eq_true, Bool.or_eq_true, Bool.and_eq_false_iff, Bool.or_eq_false_iff, Bool.not_eq_true, Bool.not_eq_false, Bool.not_eq_true', Bool.not_eq_false', Bool.not_not, bne_iff_ne, beq_iff_eq] at h1)
    have hi : i < k := by omega
    have hxi := cnt_get k i hi
    refine r_skip ?_
    refine r_seq ?_
    refine r_block ?_
    refine r_seq ?_
    refine r_region ?_
    refine r_p (p_move rfl) rfl ?_
    refine r_p (p_move rfl) rfl ?_
    refine r_p (p_idx_sl (j := i) Try.underlying35 t22 rfl rfl (hs_own (k := 60) rfl) (by first | rfl | omega) (by first | omega | (simp; done) | (simp; omega))) rfl ?_
    refine r_p (p_load1 t22 rfl rfl (g_el' (hs_own (k := 60) rfl) (by intro _; rfl) hxi (by rfl))) rfl ?_
    refine r_p (p_move rfl) rfl ?_
    refine r_p (p_move rfl) rfl ?_
    refine r_p (p_bin rfl rfl (b_sub (by first | exact w_i64 (by omega) (by omega) | rfl))) rfl ?_
    refine r_p (p_conv Try.underlying3 Try.underlying22 rfl (by first | exact w_u32 (by omega) (by omega) | rfl)) rfl ?_
    refine r_p (p_bin rfl rfl b_ne) rfl ?_
    refine r_nil ?_
    refine r_cond rfl (fun h2 => ?_) (fun h2 => ?_)
    · exact absurd h2 (by simp)
    · refine r_skip ?_
      refine r_region ?_
      refine r_p (p_move rfl) rfl ?_
      refine r_p (p_bin rfl rfl (b_add (by first | exact w_i64 (by omega) (by omega) | rfl))) rfl ?_
      refine r_p (p_assign rfl) rfl ?_
      refine r_nil ?_
      refine r_here (i + 1) ⟨by omega, by omega⟩ rfl rfl rfl
  · (try simp only [decide_eq_true_eq, decide_eq_false_iff_not, Bool.and_eq_true, Bool.or_eq_true, Bool.and_eq_false_iff, Bool.or_eq_false_iff, Bool.not_eq_true, Bool.not_eq_false, Bool.not_eq_true', Bool.not_eq_false', Bool.not_not, bne_iff_ne, beq_iff_eq] at h1)
    have hi : i = k := by omega
    subst hi
    refine r_exit ?_
    refine r_seq ?_
    refine r_region ?_
    refine r_p (p_move rfl) rfl ?_
    refine r_p (p_move rfl) rfl ?_
    refine r_gp [] rfl rfl trivial (fun hg3 => p_move rfl) rfl ?_
    refine r_gp [(59, _)] rfl rfl ⟨rfl, trivial⟩ (fun hg4 => p_bin rfl rfl b_eq) rfl ?_
    refine r_p (p_pick rfl rfl rfl (by first | exact pick_and | exact pick_or |  rfl)) rfl ?_
    refine r_p (p_move rfl) rfl ?_
    refine r_gp [] rfl rfl trivial (fun hg5 => p_move rfl) rfl ?_
    refine r_gp [(63, _)] rfl rfl ⟨rfl, trivial⟩ (fun hg6 => p_len_sl Try.underlying35 rfl (hs_own (k := 60) rfl)) rfl ?_
    refine r_gp [(63, _), (64, _)] rfl rfl ⟨rfl, rfl, trivial⟩ (fun hg7 => p_move rfl) rfl ?_
    refine r_gp [(63, _), (64, _), (65, _)] rfl rfl ⟨rfl, rfl, rfl, trivial⟩ (fun hg8 => p_bin rfl rfl b_eq) rfl ?_
    refine r_p (p_pick rfl rfl rfl (by first | exact pick_and | exact pick_or |  rfl)) rfl ?_
    refine r_p (p_move rfl) rfl ?_
    refine r_gp [] rfl rfl trivial (fun hg9 => p_move rfl) rfl ?_
    refine r_gp [(69, _)] rfl rfl ⟨rfl, trivial⟩ (fun hg10 => p_bin rfl rfl b_eq) rfl ?_
    refine r_p (p_pick rfl rfl rfl (by first | exact pick_and | exact pick_or |  rfl)) rfl ?_
    refine r_p (p_assign rfl) rfl ?_
    refine r_nil ?_
    refine r_cret ?_
    refine r_ret () trivial rfl (rs1 (rv_tmp rfl)) (congrArg Value.bool (by rw [hcl]; simp)) [] [] rfl rfl rfl

end Go.Proofs.Ytdcbbkpdlcojfaa
