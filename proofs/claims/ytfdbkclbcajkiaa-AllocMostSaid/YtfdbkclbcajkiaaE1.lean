/-
  AllocMost walks. No condition.
-/
import Derived.Test.YtfdbkclbcajkiaaD3
import Derived.Test.YtfdbkclbcajkiaaC5
namespace Go.Proofs.Ytfdbkclbcajkiaa
set_option linter.unusedSimpArgs false
set_option linter.unusedVariables false
open Go.RowKit

set_option maxRecDepth 100000 in
set_option maxHeartbeats 1000000 in
theorem most_law (vs : SV) (s : List Int) (regs : Int) :
    Spec Try.prog 5 [sv vs, .int .i64 regs] [] [sl 1 eI (sv vs) s] (X := Unit) (fun _ => True) (fun _ => .bool true) (fun _ => []) (fun _ => []) := by
  refine r_enter Try.func5 rfl Try.ntmps5 rfl fun w0 M H => ?_
  refine r_seq ?_
  refine r_region ?_
  refine r_p (p_assign rfl) rfl ?_
  refine r_nil ?_
  refine r_seq ?_
  refine r_region ?_
  refine r_call (xs := []) sanity_spec cb13 [] [] [] [] rfl rfl rfl rfl rfl rfl rfl rfl (fun _ _ => rfl) (fun _ _ _ => rfl) rfl (fun _ _ => ?_)
  refine r_p (p_assign rfl) rfl ?_
  refine r_nil ?_
  refine r_seq ?_
  refine r_region ?_
  refine r_p (p_move rfl) rfl ?_
  refine r_call (xs := [.tmp 13]) (made_spec vs s) cb19 [] [(false, 0)] [] [60, 61, 62] rfl rfl rfl rfl rfl rfl rfl rfl (fun _ _ => rfl) (fun _ _ _ => rfl) rfl (fun ⟨va, vp, vo, sw, sa, ops⟩ hx14 => ?_)
  obtain ⟨hl, hal⟩ := hx14
  dsimp only at hl hal
  have hl5 : ops.length ≤ 100000 := by omega
  have hub := uses_bd ops hl5
  refine r_alloc t28 rfl rfl fun b6 => ?_
  refine r_store_all (k := 6) t28 rfl rfl rfl rfl rfl rfl ?_
  refine r_nil ?_
  refine r_seq ?_
  refine r_region ?_
  refine r_p (p_loadA t28 rfl rfl rfl (g_all (k := 6) rfl)) rfl ?_
  refine r_call (xs := [.tmp 15]) (uses_spec va vp vo ops hl5) cb15 [] [(false, 62)] [] [] rfl rfl rfl rfl rfl rfl rfl rfl (fun _ _ => rfl) (fun _ _ _ => rfl) rfl (fun _ _ => ?_)
  refine r_alloc_arr (n := 28) (u := (.int .i64 0)) t30 rfl rfl fun b7 => ?_
  refine r_store_arrAll (k := 7) t30 rfl rfl rfl (vi_one _) rfl ?_
  refine r_nil ?_
  refine r_seq ?_
  refine r_region ?_
  refine r_p (p_loadA t28 rfl rfl rfl (g_all (k := 6) rfl)) rfl ?_
  refine r_p (p_move rfl) rfl ?_
  refine r_call (xs := [.tmp 17, .tmp 18]) (assign_spec va vp vo ops hl5 regs) cb17 [] [(false, 62)] [] [] rfl rfl rfl rfl rfl rfl rfl rfl (fun _ _ => rfl) (fun _ _ _ => rfl) rfl (fun _ _ => ?_)
  refine r_alloc_arr (n := 28) (u := (.int .i64 0)) t33 rfl rfl fun b8 => ?_
  refine r_store_arrAll (k := 8) t33 rfl rfl rfl (vi_one _) rfl ?_
  refine r_nil ?_
  refine r_seq ?_
  refine r_region ?_
  refine r_p (p_assign rfl) rfl ?_
  refine r_nil ?_
  refine r_seq ?_
  refine r_region ?_
  refine r_p (p_assign rfl) rfl ?_
  refine r_nil ?_
  refine r_seq ?_
  refine r_seq ?_
  refine r_region ?_
  refine r_p (p_assign rfl) rfl ?_
  refine r_nil ?_
  refine r_block ?_
  refine r_loop (X := Nat) (fun k => k ≤ 28) (fun k => [(1, .int .i64 regs), (5, .bool true), (7, .pointer (some ⟨b7, 0, none⟩)), (8, .pointer (some ⟨b8, 0, none⟩)), (9, .int .i64 ((occ (uses ops) k).length : Int)), (10, .int .i64 (cnt (asgU (uses ops) regs) k : Int)), (11, .int .i64 (k : Int))]) (fun k => [(7, arr b7 30 28 (vi (uses ops))), (8, arr b8 33 28 (vi (asgU (uses ops) regs)))]) (fun k => []) (fun k => 28 - k) 0 (Nat.zero_le _) rfl rfl rfl (fun k hk0 => ?_)
  refine r_seq ?_
  refine r_seq ?_
  refine r_region ?_
  refine r_p (p_move rfl) rfl ?_
  refine r_p (p_bin rfl rfl b_lt) rfl ?_
  refine r_nil ?_
  refine r_cond rfl (fun h1 => ?_) (fun h1 => ?_)
  · (try simp only [decide_eq_true_eq, decide_eq_false_iff_not, Bool.and_eq_true, Bool.or_eq_true, Bool.and_eq_false_iff, Bool.or_eq_false_iff, Bool.not_eq_true, Bool.not_eq_false, Bool.not_eq_true', Bool.not_eq_false', Bool.not_not, bne_iff_ne, beq_iff_eq] at h1)
    have hk : k < 28 := by omega
    have hu1 := hub k
    have hol := occ_len (uses ops) k
    have hcl := cnt_le (asgU (uses ops) regs) k
    have hos := occ_succ (uses ops) k
    have hcs := cnt_succ (asgU (uses ops) regs) k
    have haz := @asgU_zero (uses ops) regs k hk
    have hal := asgU_lt (uses ops) regs k
    refine r_skip ?_
    refine r_seq ?_
    refine r_block ?_
    refine r_seq ?_
    refine r_seq ?_
    refine r_region ?_
    refine r_p (p_move rfl) rfl ?_
    refine r_p (p_idx_arr1 (j := k) Try.underlying30 t3 rfl rfl (by first | rfl | omega) (by first | omega | (simp; done) | (simp; omega))) rfl ?_
    refine r_p (p_load1 t3 rfl rfl (g_arr1 (k := 7) rfl (by omega))) rfl ?_
    refine r_p (p_bin rfl rfl b_gt) rfl ?_
    refine r_nil ?_
    refine r_cond rfl (fun h2 => ?_) (fun h2 => ?_)
    · (try simp only [decide_eq_true_eq, decide_eq_false_iff_not, Bool.and_eq_true, Bool.or_eq_true, Bool.and_eq_false_iff, Bool.or_eq_false_iff, Bool.not_eq_true, Bool.not_eq_false, Bool.not_eq_true', Bool.not_eq_false', Bool.not_not, bne_iff_ne, beq_iff_eq] at h2)
      refine r_region ?_
      refine r_p (p_move rfl) rfl ?_
      refine r_p (p_bin rfl rfl (b_add (by first | exact w_i64 (by omega) (by omega) | rfl))) rfl ?_
      refine r_p (p_assign rfl) rfl ?_
      refine r_nil ?_
      refine r_seq ?_
      refine r_seq ?_
      refine r_region ?_
      refine r_p (p_move rfl) rfl ?_
      refine r_p (p_idx_arr1 (j := k) Try.underlying33 t3 rfl rfl (by first | rfl | omega) (by first | omega | (simp; done) | (simp; omega))) rfl ?_
      refine r_p (p_load1 t3 rfl rfl (g_arr1 (k := 8) rfl (by omega))) rfl ?_
      refine r_p (p_bin rfl rfl b_ge) rfl ?_
      refine r_nil ?_
      refine r_cond rfl (fun h3 => ?_) (fun h3 => ?_)
      · (try simp only [decide_eq_true_eq, decide_eq_false_iff_not, Bool.and_eq_true, Bool.or_eq_true, Bool.and_eq_false_iff, Bool.or_eq_false_iff, Bool.not_eq_true, Bool.not_eq_false, Bool.not_eq_true', Bool.not_eq_false', Bool.not_not, bne_iff_ne, beq_iff_eq] at h3)
        refine r_region ?_
        refine r_p (p_move rfl) rfl ?_
        refine r_p (p_bin rfl rfl (b_add (by first | exact w_i64 (by omega) (by omega) | rfl))) rfl ?_
        refine r_p (p_assign rfl) rfl ?_
        refine r_nil ?_
        refine r_seq ?_
        refine r_region ?_
        refine r_p (p_move rfl) rfl ?_
        refine r_p (p_idx_arr1 (j := k) Try.underlying30 t3 rfl rfl (by first | rfl | omega) (by first | omega | (simp; done) | (simp; omega))) rfl ?_
        refine r_p (p_load1 t3 rfl rfl (g_arr1 (k := 7) rfl (by omega))) rfl ?_
        refine r_p (p_bin rfl rfl b_lt) rfl ?_
        refine r_p (p_move rfl) rfl ?_
        refine r_gp [] rfl rfl trivial (fun hg4 => p_move rfl) rfl ?_
        refine r_gp [(41, _)] rfl rfl ⟨rfl, trivial⟩ (fun hg5 => p_idx_arr1 (j := k) Try.underlying30 t3 rfl rfl (by first | rfl | omega) (by first | omega | (simp; done) | (simp; omega))) rfl ?_
        refine r_gp [(41, _), (42, _)] rfl rfl ⟨rfl, rfl, trivial⟩ (fun hg6 => p_load1 t3 rfl rfl (g_arr1 (k := 7) rfl (by omega))) rfl ?_
        refine r_gp [(41, _), (42, _), (43, _)] rfl rfl ⟨rfl, rfl, rfl, trivial⟩ (fun hg7 => p_bin rfl rfl b_eq) rfl ?_
        refine r_gp [(41, _), (42, _), (43, _), (44, _)] rfl rfl ⟨rfl, rfl, rfl, rfl, trivial⟩ (fun hg8 => p_move rfl) rfl ?_
        refine r_gp2 [] [(41, _), (42, _), (43, _), (44, _), (45, _)] rfl rfl trivial ⟨rfl, rfl, rfl, rfl, rfl, trivial⟩ (fun hg9 hg9' => p_move rfl) rfl ?_
        refine r_gp2 [(46, _)] [(41, _), (42, _), (43, _), (44, _), (45, _)] rfl rfl ⟨rfl, trivial⟩ ⟨rfl, rfl, rfl, rfl, rfl, trivial⟩ (fun hg10 hg10' => p_idx_arr1 (j := k) Try.underlying33 t3 rfl rfl (by first | rfl | omega) (by first | omega | (simp; done) | (simp; omega))) rfl ?_
        refine r_gp2 [(46, _), (47, _)] [(41, _), (42, _), (43, _), (44, _), (45, _)] rfl rfl ⟨rfl, rfl, trivial⟩ ⟨rfl, rfl, rfl, rfl, rfl, trivial⟩ (fun hg11 hg11' => p_load1 t3 rfl rfl (g_arr1 (k := 8) rfl (by omega))) rfl ?_
        refine r_gp2 [(46, _), (47, _), (48, _)] [(41, _), (42, _), (43, _), (44, _), (45, _)] rfl rfl ⟨rfl, rfl, rfl, trivial⟩ ⟨rfl, rfl, rfl, rfl, rfl, trivial⟩ (fun hg12 hg12' => p_bin rfl rfl b_ne) rfl ?_
        refine r_gp [(41, _), (42, _), (43, _), (44, _), (45, _)] rfl rfl ⟨rfl, rfl, rfl, rfl, rfl, trivial⟩ (fun hg13 => p_pick rfl rfl rfl (by first | exact pick_and | exact pick_or | exact pick_and2 hg13 | exact pick_or2 hg13 | rfl)) rfl ?_
        refine r_p (p_pick rfl rfl rfl (by first | exact pick_and | exact pick_or |  rfl)) rfl ?_
        refine r_p (p_move rfl) rfl ?_
        refine r_gp [] rfl rfl trivial (fun hg14 => p_move rfl) rfl ?_
        refine r_gp [(53, _)] rfl rfl ⟨rfl, trivial⟩ (fun hg15 => p_idx_arr1 (j := k) Try.underlying33 t3 rfl rfl (by first | rfl | omega) (by first | omega | (simp; done) | (simp; omega))) rfl ?_
        refine r_gp [(53, _), (54, _)] rfl rfl ⟨rfl, rfl, trivial⟩ (fun hg16 => p_load1 t3 rfl rfl (g_arr1 (k := 8) rfl (by omega))) rfl ?_
        refine r_gp [(53, _), (54, _), (55, _)] rfl rfl ⟨rfl, rfl, rfl, trivial⟩ (fun hg17 => p_bin rfl rfl b_ge) rfl ?_
        refine r_p (p_pick rfl rfl rfl (by first | exact pick_and | exact pick_or |  rfl)) rfl ?_
        refine r_nil ?_
        refine r_cond rfl (fun h18 => ?_) (fun h18 => ?_)
        · exfalso; simp at h18; omega
        · (try simp only [decide_eq_true_eq, decide_eq_false_iff_not, Bool.and_eq_true, Bool.or_eq_true, Bool.and_eq_false_iff, Bool.or_eq_false_iff, Bool.not_eq_true, Bool.not_eq_false, Bool.not_eq_true', Bool.not_eq_false', Bool.not_not, bne_iff_ne, beq_iff_eq] at h18)
          refine r_skip ?_
          refine r_region ?_
          refine r_p (p_move rfl) rfl ?_
          refine r_p (p_bin rfl rfl (b_add (by first | exact w_i64 (by omega) (by omega) | rfl))) rfl ?_
          refine r_p (p_assign rfl) rfl ?_
          refine r_nil ?_
          have e1 : ((occ (uses ops) (k + 1)).length : Int) = ((occ (uses ops) k).length : Int) + 1 := by rw [hos, if_pos (by omega)]; simp
          have e2 : (cnt (asgU (uses ops) regs) (k + 1) : Int) = (cnt (asgU (uses ops) regs) k : Int) + 1 := by rw [hcs, if_pos (by omega)]; simp
          refine r_here (k + 1) ⟨by omega, by omega⟩ (by rw [e1, e2]; rfl) rfl rfl
      · (try simp only [decide_eq_true_eq, decide_eq_false_iff_not, Bool.and_eq_true, Bool.or_eq_true, Bool.and_eq_false_iff, Bool.or_eq_false_iff, Bool.not_eq_true, Bool.not_eq_false, Bool.not_eq_true', Bool.not_eq_false', Bool.not_not, bne_iff_ne, beq_iff_eq] at h3)
        refine r_skip ?_
        refine r_seq ?_
        refine r_region ?_
        refine r_p (p_move rfl) rfl ?_
        refine r_p (p_idx_arr1 (j := k) Try.underlying30 t3 rfl rfl (by first | rfl | omega) (by first | omega | (simp; done) | (simp; omega))) rfl ?_
        refine r_p (p_load1 t3 rfl rfl (g_arr1 (k := 7) rfl (by omega))) rfl ?_
        refine r_p (p_bin rfl rfl b_lt) rfl ?_
        refine r_p (p_move rfl) rfl ?_
        refine r_gp [] rfl rfl trivial (fun hg19 => p_move rfl) rfl ?_
        refine r_gp [(41, _)] rfl rfl ⟨rfl, trivial⟩ (fun hg20 => p_idx_arr1 (j := k) Try.underlying30 t3 rfl rfl (by first | rfl | omega) (by first | omega | (simp; done) | (simp; omega))) rfl ?_
        refine r_gp [(41, _), (42, _)] rfl rfl ⟨rfl, rfl, trivial⟩ (fun hg21 => p_load1 t3 rfl rfl (g_arr1 (k := 7) rfl (by omega))) rfl ?_
        refine r_gp [(41, _), (42, _), (43, _)] rfl rfl ⟨rfl, rfl, rfl, trivial⟩ (fun hg22 => p_bin rfl rfl b_eq) rfl ?_
        refine r_gp [(41, _), (42, _), (43, _), (44, _)] rfl rfl ⟨rfl, rfl, rfl, rfl, trivial⟩ (fun hg23 => p_move rfl) rfl ?_
        refine r_gp2 [] [(41, _), (42, _), (43, _), (44, _), (45, _)] rfl rfl trivial ⟨rfl, rfl, rfl, rfl, rfl, trivial⟩ (fun hg24 hg24' => p_move rfl) rfl ?_
        refine r_gp2 [(46, _)] [(41, _), (42, _), (43, _), (44, _), (45, _)] rfl rfl ⟨rfl, trivial⟩ ⟨rfl, rfl, rfl, rfl, rfl, trivial⟩ (fun hg25 hg25' => p_idx_arr1 (j := k) Try.underlying33 t3 rfl rfl (by first | rfl | omega) (by first | omega | (simp; done) | (simp; omega))) rfl ?_
        refine r_gp2 [(46, _), (47, _)] [(41, _), (42, _), (43, _), (44, _), (45, _)] rfl rfl ⟨rfl, rfl, trivial⟩ ⟨rfl, rfl, rfl, rfl, rfl, trivial⟩ (fun hg26 hg26' => p_load1 t3 rfl rfl (g_arr1 (k := 8) rfl (by omega))) rfl ?_
        refine r_gp2 [(46, _), (47, _), (48, _)] [(41, _), (42, _), (43, _), (44, _), (45, _)] rfl rfl ⟨rfl, rfl, rfl, trivial⟩ ⟨rfl, rfl, rfl, rfl, rfl, trivial⟩ (fun hg27 hg27' => p_bin rfl rfl b_ne) rfl ?_
        refine r_gp [(41, _), (42, _), (43, _), (44, _), (45, _)] rfl rfl ⟨rfl, rfl, rfl, rfl, rfl, trivial⟩ (fun hg28 => p_pick rfl rfl rfl (by first | exact pick_and | exact pick_or | exact pick_and2 hg28 | exact pick_or2 hg28 | rfl)) rfl ?_
        refine r_p (p_pick rfl rfl rfl (by first | exact pick_and | exact pick_or |  rfl)) rfl ?_
        refine r_p (p_move rfl) rfl ?_
        refine r_gp [] rfl rfl trivial (fun hg29 => p_move rfl) rfl ?_
        refine r_gp [(53, _)] rfl rfl ⟨rfl, trivial⟩ (fun hg30 => p_idx_arr1 (j := k) Try.underlying33 t3 rfl rfl (by first | rfl | omega) (by first | omega | (simp; done) | (simp; omega))) rfl ?_
        refine r_gp [(53, _), (54, _)] rfl rfl ⟨rfl, rfl, trivial⟩ (fun hg31 => p_load1 t3 rfl rfl (g_arr1 (k := 8) rfl (by omega))) rfl ?_
        refine r_gp [(53, _), (54, _), (55, _)] rfl rfl ⟨rfl, rfl, rfl, trivial⟩ (fun hg32 => p_bin rfl rfl b_ge) rfl ?_
        refine r_p (p_pick rfl rfl rfl (by first | exact pick_and | exact pick_or |  rfl)) rfl ?_
        refine r_nil ?_
        refine r_cond rfl (fun h33 => ?_) (fun h33 => ?_)
        · exfalso; simp at h33; omega
        · (try simp only [decide_eq_true_eq, decide_eq_false_iff_not, Bool.and_eq_true, Bool.or_eq_true, Bool.and_eq_false_iff, Bool.or_eq_false_iff, Bool.not_eq_true, Bool.not_eq_false, Bool.not_eq_true', Bool.not_eq_false', Bool.not_not, bne_iff_ne, beq_iff_eq] at h33)
          refine r_skip ?_
          refine r_region ?_
          refine r_p (p_move rfl) rfl ?_
          refine r_p (p_bin rfl rfl (b_add (by first | exact w_i64 (by omega) (by omega) | rfl))) rfl ?_
          refine r_p (p_assign rfl) rfl ?_
          refine r_nil ?_
          have e1 : ((occ (uses ops) (k + 1)).length : Int) = ((occ (uses ops) k).length : Int) + 1 := by rw [hos, if_pos (by omega)]; simp
          have e2 : (cnt (asgU (uses ops) regs) (k + 1) : Int) = (cnt (asgU (uses ops) regs) k : Int) := by rw [hcs, if_neg (by omega)]; simp
          refine r_here (k + 1) ⟨by omega, by omega⟩ (by rw [e1, e2]; rfl) rfl rfl
    · (try simp only [decide_eq_true_eq, decide_eq_false_iff_not, Bool.and_eq_true, Bool.or_eq_true, Bool.and_eq_false_iff, Bool.or_eq_false_iff, Bool.not_eq_true, Bool.not_eq_false, Bool.not_eq_true', Bool.not_eq_false', Bool.not_not, bne_iff_ne, beq_iff_eq] at h2)
      refine r_skip ?_
      refine r_seq ?_
      refine r_seq ?_
      refine r_region ?_
      refine r_p (p_move rfl) rfl ?_
      refine r_p (p_idx_arr1 (j := k) Try.underlying33 t3 rfl rfl (by first | rfl | omega) (by first | omega | (simp; done) | (simp; omega))) rfl ?_
      refine r_p (p_load1 t3 rfl rfl (g_arr1 (k := 8) rfl (by omega))) rfl ?_
      refine r_p (p_bin rfl rfl b_ge) rfl ?_
      refine r_nil ?_
      refine r_cond rfl (fun h34 => ?_) (fun h34 => ?_)
      · (try simp only [decide_eq_true_eq, decide_eq_false_iff_not, Bool.and_eq_true, Bool.or_eq_true, Bool.and_eq_false_iff, Bool.or_eq_false_iff, Bool.not_eq_true, Bool.not_eq_false, Bool.not_eq_true', Bool.not_eq_false', Bool.not_not, bne_iff_ne, beq_iff_eq] at h34)
        refine r_region ?_
        refine r_p (p_move rfl) rfl ?_
        refine r_p (p_bin rfl rfl (b_add (by first | exact w_i64 (by omega) (by omega) | rfl))) rfl ?_
        refine r_p (p_assign rfl) rfl ?_
        refine r_nil ?_
        refine r_seq ?_
        refine r_region ?_
        refine r_p (p_move rfl) rfl ?_
        refine r_p (p_idx_arr1 (j := k) Try.underlying30 t3 rfl rfl (by first | rfl | omega) (by first | omega | (simp; done) | (simp; omega))) rfl ?_
        refine r_p (p_load1 t3 rfl rfl (g_arr1 (k := 7) rfl (by omega))) rfl ?_
        refine r_p (p_bin rfl rfl b_lt) rfl ?_
        refine r_p (p_move rfl) rfl ?_
        refine r_gp [] rfl rfl trivial (fun hg35 => p_move rfl) rfl ?_
        refine r_gp [(41, _)] rfl rfl ⟨rfl, trivial⟩ (fun hg36 => p_idx_arr1 (j := k) Try.underlying30 t3 rfl rfl (by first | rfl | omega) (by first | omega | (simp; done) | (simp; omega))) rfl ?_
        refine r_gp [(41, _), (42, _)] rfl rfl ⟨rfl, rfl, trivial⟩ (fun hg37 => p_load1 t3 rfl rfl (g_arr1 (k := 7) rfl (by omega))) rfl ?_
        refine r_gp [(41, _), (42, _), (43, _)] rfl rfl ⟨rfl, rfl, rfl, trivial⟩ (fun hg38 => p_bin rfl rfl b_eq) rfl ?_
        refine r_gp [(41, _), (42, _), (43, _), (44, _)] rfl rfl ⟨rfl, rfl, rfl, rfl, trivial⟩ (fun hg39 => p_move rfl) rfl ?_
        refine r_gp2 [] [(41, _), (42, _), (43, _), (44, _), (45, _)] rfl rfl trivial ⟨rfl, rfl, rfl, rfl, rfl, trivial⟩ (fun hg40 hg40' => p_move rfl) rfl ?_
        refine r_gp2 [(46, _)] [(41, _), (42, _), (43, _), (44, _), (45, _)] rfl rfl ⟨rfl, trivial⟩ ⟨rfl, rfl, rfl, rfl, rfl, trivial⟩ (fun hg41 hg41' => p_idx_arr1 (j := k) Try.underlying33 t3 rfl rfl (by first | rfl | omega) (by first | omega | (simp; done) | (simp; omega))) rfl ?_
        refine r_gp2 [(46, _), (47, _)] [(41, _), (42, _), (43, _), (44, _), (45, _)] rfl rfl ⟨rfl, rfl, trivial⟩ ⟨rfl, rfl, rfl, rfl, rfl, trivial⟩ (fun hg42 hg42' => p_load1 t3 rfl rfl (g_arr1 (k := 8) rfl (by omega))) rfl ?_
        refine r_gp2 [(46, _), (47, _), (48, _)] [(41, _), (42, _), (43, _), (44, _), (45, _)] rfl rfl ⟨rfl, rfl, rfl, trivial⟩ ⟨rfl, rfl, rfl, rfl, rfl, trivial⟩ (fun hg43 hg43' => p_bin rfl rfl b_ne) rfl ?_
        refine r_gp [(41, _), (42, _), (43, _), (44, _), (45, _)] rfl rfl ⟨rfl, rfl, rfl, rfl, rfl, trivial⟩ (fun hg44 => p_pick rfl rfl rfl (by first | exact pick_and | exact pick_or | exact pick_and2 hg44 | exact pick_or2 hg44 | rfl)) rfl ?_
        refine r_p (p_pick rfl rfl rfl (by first | exact pick_and | exact pick_or |  rfl)) rfl ?_
        refine r_p (p_move rfl) rfl ?_
        refine r_gp [] rfl rfl trivial (fun hg45 => p_move rfl) rfl ?_
        refine r_gp [(53, _)] rfl rfl ⟨rfl, trivial⟩ (fun hg46 => p_idx_arr1 (j := k) Try.underlying33 t3 rfl rfl (by first | rfl | omega) (by first | omega | (simp; done) | (simp; omega))) rfl ?_
        refine r_gp [(53, _), (54, _)] rfl rfl ⟨rfl, rfl, trivial⟩ (fun hg47 => p_load1 t3 rfl rfl (g_arr1 (k := 8) rfl (by omega))) rfl ?_
        refine r_gp [(53, _), (54, _), (55, _)] rfl rfl ⟨rfl, rfl, rfl, trivial⟩ (fun hg48 => p_bin rfl rfl b_ge) rfl ?_
        refine r_p (p_pick rfl rfl rfl (by first | exact pick_and | exact pick_or |  rfl)) rfl ?_
        refine r_nil ?_
        refine r_cond rfl (fun h49 => ?_) (fun h49 => ?_)
        · exfalso; simp at h49; omega
        · (try simp only [decide_eq_true_eq, decide_eq_false_iff_not, Bool.and_eq_true, Bool.or_eq_true, Bool.and_eq_false_iff, Bool.or_eq_false_iff, Bool.not_eq_true, Bool.not_eq_false, Bool.not_eq_true', Bool.not_eq_false', Bool.not_not, bne_iff_ne, beq_iff_eq] at h49)
          refine r_skip ?_
          refine r_region ?_
          refine r_p (p_move rfl) rfl ?_
          refine r_p (p_bin rfl rfl (b_add (by first | exact w_i64 (by omega) (by omega) | rfl))) rfl ?_
          refine r_p (p_assign rfl) rfl ?_
          refine r_nil ?_
          have e1 : ((occ (uses ops) (k + 1)).length : Int) = ((occ (uses ops) k).length : Int) := by rw [hos, if_neg (by omega)]; simp
          have e2 : (cnt (asgU (uses ops) regs) (k + 1) : Int) = (cnt (asgU (uses ops) regs) k : Int) + 1 := by rw [hcs, if_pos (by omega)]; simp
          refine r_here (k + 1) ⟨by omega, by omega⟩ (by rw [e1, e2]; rfl) rfl rfl
      · (try simp only [decide_eq_true_eq, decide_eq_false_iff_not, Bool.and_eq_true, Bool.or_eq_true, Bool.and_eq_false_iff, Bool.or_eq_false_iff, Bool.not_eq_true, Bool.not_eq_false, Bool.not_eq_true', Bool.not_eq_false', Bool.not_not, bne_iff_ne, beq_iff_eq] at h34)
        refine r_skip ?_
        refine r_seq ?_
        refine r_region ?_
        refine r_p (p_move rfl) rfl ?_
        refine r_p (p_idx_arr1 (j := k) Try.underlying30 t3 rfl rfl (by first | rfl | omega) (by first | omega | (simp; done) | (simp; omega))) rfl ?_
        refine r_p (p_load1 t3 rfl rfl (g_arr1 (k := 7) rfl (by omega))) rfl ?_
        refine r_p (p_bin rfl rfl b_lt) rfl ?_
        refine r_p (p_move rfl) rfl ?_
        refine r_gp [] rfl rfl trivial (fun hg50 => p_move rfl) rfl ?_
        refine r_gp [(41, _)] rfl rfl ⟨rfl, trivial⟩ (fun hg51 => p_idx_arr1 (j := k) Try.underlying30 t3 rfl rfl (by first | rfl | omega) (by first | omega | (simp; done) | (simp; omega))) rfl ?_
        refine r_gp [(41, _), (42, _)] rfl rfl ⟨rfl, rfl, trivial⟩ (fun hg52 => p_load1 t3 rfl rfl (g_arr1 (k := 7) rfl (by omega))) rfl ?_
        refine r_gp [(41, _), (42, _), (43, _)] rfl rfl ⟨rfl, rfl, rfl, trivial⟩ (fun hg53 => p_bin rfl rfl b_eq) rfl ?_
        refine r_gp [(41, _), (42, _), (43, _), (44, _)] rfl rfl ⟨rfl, rfl, rfl, rfl, trivial⟩ (fun hg54 => p_move rfl) rfl ?_
        refine r_gp2 [] [(41, _), (42, _), (43, _), (44, _), (45, _)] rfl rfl trivial ⟨rfl, rfl, rfl, rfl, rfl, trivial⟩ (fun hg55 hg55' => p_move rfl) rfl ?_
        refine r_gp2 [(46, _)] [(41, _), (42, _), (43, _), (44, _), (45, _)] rfl rfl ⟨rfl, trivial⟩ ⟨rfl, rfl, rfl, rfl, rfl, trivial⟩ (fun hg56 hg56' => p_idx_arr1 (j := k) Try.underlying33 t3 rfl rfl (by first | rfl | omega) (by first | omega | (simp; done) | (simp; omega))) rfl ?_
        refine r_gp2 [(46, _), (47, _)] [(41, _), (42, _), (43, _), (44, _), (45, _)] rfl rfl ⟨rfl, rfl, trivial⟩ ⟨rfl, rfl, rfl, rfl, rfl, trivial⟩ (fun hg57 hg57' => p_load1 t3 rfl rfl (g_arr1 (k := 8) rfl (by omega))) rfl ?_
        refine r_gp2 [(46, _), (47, _), (48, _)] [(41, _), (42, _), (43, _), (44, _), (45, _)] rfl rfl ⟨rfl, rfl, rfl, trivial⟩ ⟨rfl, rfl, rfl, rfl, rfl, trivial⟩ (fun hg58 hg58' => p_bin rfl rfl b_ne) rfl ?_
        refine r_gp [(41, _), (42, _), (43, _), (44, _), (45, _)] rfl rfl ⟨rfl, rfl, rfl, rfl, rfl, trivial⟩ (fun hg59 => p_pick rfl rfl rfl (by first | exact pick_and | exact pick_or | exact pick_and2 hg59 | exact pick_or2 hg59 | rfl)) rfl ?_
        refine r_p (p_pick rfl rfl rfl (by first | exact pick_and | exact pick_or |  rfl)) rfl ?_
        refine r_p (p_move rfl) rfl ?_
        refine r_gp [] rfl rfl trivial (fun hg60 => p_move rfl) rfl ?_
        refine r_gp [(53, _)] rfl rfl ⟨rfl, trivial⟩ (fun hg61 => p_idx_arr1 (j := k) Try.underlying33 t3 rfl rfl (by first | rfl | omega) (by first | omega | (simp; done) | (simp; omega))) rfl ?_
        refine r_gp [(53, _), (54, _)] rfl rfl ⟨rfl, rfl, trivial⟩ (fun hg62 => p_load1 t3 rfl rfl (g_arr1 (k := 8) rfl (by omega))) rfl ?_
        refine r_gp [(53, _), (54, _), (55, _)] rfl rfl ⟨rfl, rfl, rfl, trivial⟩ (fun hg63 => p_bin rfl rfl b_ge) rfl ?_
        refine r_p (p_pick rfl rfl rfl (by first | exact pick_and | exact pick_or |  rfl)) rfl ?_
        refine r_nil ?_
        refine r_cond rfl (fun h64 => ?_) (fun h64 => ?_)
        · exfalso; simp at h64; omega
        · (try simp only [decide_eq_true_eq, decide_eq_false_iff_not, Bool.and_eq_true, Bool.or_eq_true, Bool.and_eq_false_iff, Bool.or_eq_false_iff, Bool.not_eq_true, Bool.not_eq_false, Bool.not_eq_true', Bool.not_eq_false', Bool.not_not, bne_iff_ne, beq_iff_eq] at h64)
          refine r_skip ?_
          refine r_region ?_
          refine r_p (p_move rfl) rfl ?_
          refine r_p (p_bin rfl rfl (b_add (by first | exact w_i64 (by omega) (by omega) | rfl))) rfl ?_
          refine r_p (p_assign rfl) rfl ?_
          refine r_nil ?_
          have e1 : ((occ (uses ops) (k + 1)).length : Int) = ((occ (uses ops) k).length : Int) := by rw [hos, if_neg (by omega)]; simp
          have e2 : (cnt (asgU (uses ops) regs) (k + 1) : Int) = (cnt (asgU (uses ops) regs) k : Int) := by rw [hcs, if_neg (by omega)]; simp
          refine r_here (k + 1) ⟨by omega, by omega⟩ (by rw [e1, e2]; rfl) rfl rfl
  · (try simp only [decide_eq_true_eq, decide_eq_false_iff_not, Bool.and_eq_true, Bool.or_eq_true, Bool.and_eq_false_iff, Bool.or_eq_false_iff, Bool.not_eq_true, Bool.not_eq_false, Bool.not_eq_true', Bool.not_eq_false', Bool.not_not, bne_iff_ne, beq_iff_eq] at h1)
    have hk : k = 28 := by omega
    subst hk
    refine r_exit ?_
    refine r_seq ?_
    refine r_region ?_
    refine r_p (p_move rfl) rfl ?_
    refine r_p (p_move rfl) rfl ?_
    refine r_gp [] rfl rfl trivial (fun hg65 => p_move rfl) rfl ?_
    refine r_gp [(60, _)] rfl rfl ⟨rfl, trivial⟩ (fun hg66 => p_move rfl) rfl ?_
    refine r_gp [(60, _), (61, _)] rfl rfl ⟨rfl, rfl, trivial⟩ (fun hg67 => p_move rfl) rfl ?_
    refine r_gp [(60, _), (61, _), (62, _)] rfl rfl ⟨rfl, rfl, rfl, trivial⟩ (fun hg68 => p_min rfl rfl rfl) rfl ?_
    refine r_gp [(60, _), (61, _), (62, _), (63, _)] rfl rfl ⟨rfl, rfl, rfl, rfl, trivial⟩ (fun hg69 => p_max rfl rfl rfl) rfl ?_
    refine r_gp [(60, _), (61, _), (62, _), (63, _), (64, _)] rfl rfl ⟨rfl, rfl, rfl, rfl, rfl, trivial⟩ (fun hg70 => p_bin rfl rfl b_eq) rfl ?_
    refine r_p (p_pick rfl rfl rfl (by first | exact pick_and | exact pick_or |  rfl)) rfl ?_
    refine r_p (p_assign rfl) rfl ?_
    refine r_nil ?_
    refine r_cret ?_
    refine r_ret () trivial rfl (rs1 (rv_tmp rfl)) (by have := most_eq (uses ops) regs; simp; omega) [] [] rfl rfl rfl

end Go.Proofs.Ytfdbkclbcajkiaa
