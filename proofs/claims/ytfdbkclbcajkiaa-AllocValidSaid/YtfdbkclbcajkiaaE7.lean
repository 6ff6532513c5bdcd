/-
  AllocValid walks. No condition.
-/
import Derived.Test.YtfdbkclbcajkiaaV9
import Derived.Test.YtfdbkclbcajkiaaVA
import Derived.Test.YtfdbkclbcajkiaaC5
import Derived.Test.YtfdbkclbcajkiaaD3
import Derived.Test.YtfdbkclbcajkiaaKB
namespace Go.Proofs.Ytfdbkclbcajkiaa
set_option linter.unusedSimpArgs false
set_option linter.unusedVariables false
open Go.RowKit

theorem bumps_pc : ∀ (l : List Int) (u : Nat → Int), bumps l u 19 = u 19
  | [], u => rfl
  | v :: l, u => by
    rw [bumps_cons, bumps_pc l]
    unfold bump
    rw [if_neg]
    rintro ⟨h, e⟩
    simp [isV] at h
    omega
theorem uses_pc (ops : List OpR) : uses ops 19 = 0 := bumps_pc _ _
/-- What Assign gives is valid. -/
theorem valid_asg (ops : List OpR) (regs : Int) : ValidP (asgU (uses ops) regs) regs := by
  have hc : cut regs (srt (uses ops)).length ≤ (srt (uses ops)).length := by unfold cut; omega
  refine ⟨fun i hi => ⟨asg_bd.1, fun h => ?_, fun h => ?_⟩, fun i j h1 h2 h0 e => ?_⟩
  · have := (asg_bd (l := srt (uses ops)) (r := cut regs (srt (uses ops)).length) (i := i)).2
    unfold asgU at h ⊢
    unfold cut at *
    omega
  · subst h
    exact asgU_zero hi (by rw [uses_pc]; omega)
  · have h3 : 0 ≤ asgU (uses ops) regs j := by omega
    obtain ⟨k, hk, hik⟩ := asg_num h0
    obtain ⟨m, hm, hjm⟩ := asg_num h3
    have e1 := asg_get (srt_nodup (uses ops)) (srt_in (uses ops)) hc hk
    have e2 := asg_get (srt_nodup (uses ops)) (srt_in (uses ops)) hc hm
    rw [← hik] at e1
    rw [← hjm] at e2
    unfold asgU at e
    have : k = m := by omega
    subst this
    omega
theorem valid_dec (a : Nat → Int) (regs : Int) : ∃ c : Bool, c = true ↔ ValidP a regs := by
  by_cases h : ValidP a regs
  · exact ⟨true, by simp [h]⟩
  · exact ⟨false, by simp [h]⟩
theorem valid_isA (a : Nat → Int) (regs : Int) (c : Bool) (hc : c = true ↔ ValidP a regs) :
    Spec Try.prog 24 [uA a, .int .i64 regs] [] [] (X := Unit) (fun _ => True) (fun _ => .bool c) (fun _ => []) (fun _ => []) :=
  (valid_spec a regs 28 (spills_len a 28) (fun v xs h => sort_any v xs (by omega))).mono fun x hx => ⟨(), trivial, by rw [Bool.eq_iff_iff.2 (hx.trans hc.symm)], rfl, rfl⟩
theorem rvalid_isA (a : Nat → Int) (regs : Int) (c : Bool) (hc : c = true ↔ ValidP a regs) :
    Spec Try.prog 25 [uA a, .int .i64 regs] [] [] (X := Unit) (fun _ => True) (fun _ => .bool c) (fun _ => []) (fun _ => []) :=
  (rvalid_spec a regs).mono fun x hx => ⟨(), trivial, by rw [Bool.eq_iff_iff.2 (hx.trans hc.symm)], rfl, rfl⟩
/-- The first k numbers of a list, the others -1. -/
def lsA (l : List Int) (k : Nat) : Nat → Int := fun i => if i < k then l.getD i 0 else -1
theorem lsA_zero (l : List Int) : vi noneF = vi (lsA l 0) := by
  funext i
  simp [vi, noneF, lsA]
theorem lsA_succ {l : List Int} {k : Nat} : fset (vi (lsA l k)) k (.int .i64 (l.getD k 0)) = vi (lsA l (k + 1)) := by
  funext i
  simp only [fset, vi, lsA]
  by_cases h : i = k
  · subst h; simp
  · rw [if_neg h]
    by_cases h2 : i < k
    · rw [if_pos h2, if_pos (by omega)]
    · rw [if_neg h2, if_neg (by omega)]

set_option maxRecDepth 100000 in
set_option maxHeartbeats 1000000 in
theorem valid_law (us : SV) (l : List Int) (vs : SV) (s : List Int) (regs : Int) :
    Spec Try.prog 11 [sv us, sv vs, .int .i64 regs] [] [sl 1 eI (sv us) l, sl 1 eI (sv vs) s] (X := Unit) (fun _ => True) (fun _ => .bool true) (fun _ => []) (fun _ => []) := by
  refine r_enter Try.func11 rfl Try.ntmps11 rfl fun w0 M H => ?_
  refine r_seq ?_
  refine r_region ?_
  refine r_p (p_assign rfl) rfl ?_
  refine r_nil ?_
  refine r_seq ?_
  refine r_region ?_
  refine r_call (xs := []) sanity_spec cb13 [] [] [] [] rfl rfl rfl rfl rfl rfl rfl rfl (fun _ _ => rfl) (fun _ _ _ => rfl) rfl (fun _ _ => ?_)
  refine r_p (p_assign rfl) rfl ?_
  refine r_nil ?_
  refine r_seq ?_
  refine r_region ?_
  refine r_call (xs := []) none_spec cb23 [] [] [] [] rfl rfl rfl rfl rfl rfl rfl rfl (fun _ _ => rfl) (fun _ _ _ => rfl) rfl (fun _ _ => ?_)
  refine r_alloc_arr (n := 28) (u := (.int .i64 0)) t33 rfl rfl fun b8 => ?_
  refine r_store_arrAll (k := 8) t33 rfl rfl rfl (vi_one _) rfl ?_
  refine r_nil ?_
  refine r_seq ?_
  refine r_seq ?_
  refine r_region ?_
  refine r_p (p_assign rfl) rfl ?_
  refine r_nil ?_
  refine r_block ?_
  refine r_loop (X := Nat) (fun k => k ≤ l.length ∧ k ≤ 28) (fun k => [(0, sv us), (1, sv vs), (2, .int .i64 regs), (7, .bool true), (8, .pointer (some ⟨b8, 0, none⟩)), (9, .int .i64 (k : Int))]) (fun k => [(8, arr b8 33 28 (vi (lsA l k)))]) (fun k => [(0, sl 1 eI (sv us) l), (1, sl 1 eI (sv vs) s)]) (fun k => 28 - k) 0 ⟨Nat.zero_le _, Nat.zero_le _⟩ rfl (by rw [← lsA_zero]; rfl) rfl (fun k hk0 => ?_)
  refine r_seq ?_
  refine r_seq ?_
  refine r_region ?_
  refine r_p (p_move rfl) rfl ?_
  refine r_p (p_move rfl) rfl ?_
  refine r_p (p_len_sl Try.underlying22 rfl (hs_sl (k := 0) rfl)) rfl ?_
  refine r_p (p_bin rfl rfl b_lt) rfl ?_
  refine r_p (p_move rfl) rfl ?_
  refine r_gp [] rfl rfl trivial (fun hg1 => p_move rfl) rfl ?_
  refine r_gp [(18, _)] rfl rfl ⟨rfl, trivial⟩ (fun hg2 => p_bin rfl rfl b_lt) rfl ?_
  refine r_p (p_pick rfl rfl rfl (by first | exact pick_and | exact pick_or |  rfl)) rfl ?_
  refine r_nil ?_
  refine r_cond rfl (fun h3 => ?_) (fun h3 => ?_)
  · (try simp only [decide_eq_true_eq, decide_eq_false_iff_not, Bool.and_eq_true, Bool.or_eq_true, Bool.and_eq_false_iff, Bool.or_eq_false_iff, Bool.not_eq_true, Bool.not_eq_false, Bool.not_eq_true', Bool.not_eq_false', Bool.not_not, bne_iff_ne, beq_iff_eq] at h3)
    have hk : k < l.length ∧ k < 28 := by omega
    refine r_skip ?_
    refine r_seq ?_
    refine r_block ?_
    refine r_region ?_
    refine r_p (p_move rfl) rfl ?_
    refine r_p (p_move rfl) rfl ?_
    refine r_p (p_move rfl) rfl ?_
    refine r_p (p_idx_sl (j := k) Try.underlying22 t3 rfl rfl (hs_sl (k := 0) rfl) (by first | rfl | omega) (by first | omega | (simp; done) | (simp; omega))) rfl ?_
    refine r_p (p_load1 t3 rfl rfl (g_el' (hs_sl (k := 0) rfl) (by intro _; rfl) (getD_get 0 (by omega)) (by rfl))) rfl ?_
    refine r_p (p_idx_arr1 (j := k) Try.underlying33 t3 rfl rfl (by first | rfl | omega) (by first | omega | (simp; done) | (simp; omega))) rfl ?_
    refine r_store_arr (k := 8) t3 rfl rfl rfl rfl rfl (by omega) ?_
    refine r_nil ?_
    refine r_region ?_
    refine r_p (p_move rfl) rfl ?_
    refine r_p (p_bin rfl rfl (b_add (by first | exact w_i64 (by omega) (by omega) | rfl))) rfl ?_
    refine r_p (p_assign rfl) rfl ?_
    refine r_nil ?_
    refine r_here (k + 1) ⟨⟨by omega, by omega⟩, by omega⟩ rfl (by rw [← lsA_succ]; rfl) rfl
  · (try simp only [decide_eq_true_eq, decide_eq_false_iff_not, Bool.and_eq_true, Bool.or_eq_true, Bool.and_eq_false_iff, Bool.or_eq_false_iff, Bool.not_eq_true, Bool.not_eq_false, Bool.not_eq_true', Bool.not_eq_false', Bool.not_not, bne_iff_ne, beq_iff_eq] at h3)
    refine r_exit ?_
    refine r_seq ?_
    refine r_region ?_
    refine r_p (p_move rfl) rfl ?_
    refine r_call (xs := [.tmp 29]) (made_spec vs s) cb19 [] [(false, 1)] [] [60, 61, 62] rfl rfl rfl rfl rfl rfl rfl rfl (fun _ _ => rfl) (fun _ _ _ => rfl) rfl (fun ⟨va, vp, vo, sw, sa, ops⟩ hx14 => ?_)
    obtain ⟨hl, hal⟩ := hx14
    dsimp only at hl hal
    have hl5 : ops.length ≤ 100000 := by omega
    have hub := uses_bd ops hl5
    dsimp only
    refine r_alloc t28 rfl rfl fun b10 => ?_
    refine r_store_all (k := 10) t28 rfl rfl rfl rfl rfl rfl ?_
    refine r_nil ?_
    refine r_seq ?_
    obtain ⟨c, hc⟩ := valid_dec (lsA l k) regs
    refine r_draw [31, 32, 33, 34, 35, 36, 37, 38, 39, 40, 41, 42, 43, 44, 45, 46, 47, 48, 49, 50, 51, 52, 53, 54, 6] _ rfl (stg_memg (V := [(0, 31, _), (1, 32, _), (2, 33, _), (3, 34, _), (5, 36, _), (6, 37, _)]) [0, 1, 2, 3, 5, 6] 4 [4, 3, 2, 1, 0] [] (fun _ => []) rfl rfl (prs_cons (pri rfl (p_move rfl)) (prs_cons (pri rfl (p_move rfl)) (prs_cons (prig_y rfl rfl rfl rfl (p_loadA t33 rfl rfl (by simp) (g_arr (k := 8) rfl))) (prs_cons (prig_y rfl rfl rfl rfl (p_move rfl)) (prs_cons (prig_y rfl rfl rfl rfl (p_loadA t33 rfl rfl (by simp) (g_arr (k := 8) rfl))) (prs_cons (prig_y rfl rfl rfl rfl (p_move rfl)) prs_nil)))))) rfl rfl rfl rfl rfl rfl rfl rfl rfl rfl rfl rfl (fun _ _ => rfl) rfl (ms_call (xs := [.tmp 33, .tmp 34]) (valid_isA (lsA l k) regs c hc) cb24 [] [] [] [] rfl rfl rfl rfl rfl rfl rfl rfl (fun _ _ => rfl) (fun _ _ _ => rfl)) (fun _ _ => stg_memg [5, 6] 7 [7, 6, 5, 4, 3, 2, 1, 0] [8, 9, 10, 11, 12, 14] (fun _ => [(8, 39, _), (9, 40, _), (10, 41, _), (11, 42, _), (12, 43, _), (14, 45, _)]) rfl rfl (prs_cons (prig_y rfl rfl rfl rfl (p_loadA t33 rfl rfl (by simp) (g_arr (k := 8) rfl))) (prs_cons (prig_y rfl rfl rfl rfl (p_move rfl)) prs_nil)) rfl rfl rfl rfl rfl rfl rfl rfl rfl rfl rfl rfl (fun _ _ => rfl) rfl (ms_call (xs := [.tmp 36, .tmp 37]) (rvalid_isA (lsA l k) regs c hc) cb25 [] [] [] [] rfl rfl rfl rfl rfl rfl rfl rfl (fun _ _ => rfl) (fun _ _ _ => rfl)) (fun _ _ => stg_memg [8, 9, 10, 11, 12, 14] 13 [13, 12, 11, 10, 9, 8, 7, 6, 5, 4, 3, 2, 1, 0] [] (fun _ => []) rfl rfl (prs_cons (prig_y rfl rfl rfl rfl (p_bin rfl rfl (b_beq Try.underlying4))) (prs_cons (pri rfl (p_pick rfl rfl rfl (pick_t rfl))) (prs_cons (pri rfl (p_move rfl)) (prs_cons (prig_y rfl rfl rfl (by simp) (p_loadA t28 rfl rfl rfl (g_all (k := 10) rfl))) (prs_cons (prig_y rfl rfl rfl (by simp) (p_move rfl)) (prs_cons (prig_y rfl rfl rfl (by simp) (p_move rfl)) prs_nil)))))) rfl rfl rfl rfl rfl (by simp) rfl rfl rfl rfl rfl rfl (fun _ _ => rfl) rfl (ms_call (xs := [.tmp 42, .tmp 43]) (assign_spec va vp vo ops hl5 regs) cb17 [] [(false, 62)] [] [] rfl rfl rfl rfl rfl rfl rfl rfl (fun _ _ => rfl) (fun _ _ _ => rfl)) (fun _ _ => stg_memg [14] 15 [15, 14, 13, 12, 11, 10, 9, 8, 7, 6, 5, 4, 3, 2, 1, 0] [16, 17, 18, 19, 21] (fun _ => [(16, 47, _), (17, 48, _), (18, 49, _), (19, 50, _), (21, 52, _)]) rfl rfl (prs_cons (prig_y rfl rfl rfl (by simp) (p_move rfl)) prs_nil) rfl rfl rfl rfl rfl (by simp) rfl rfl rfl rfl rfl rfl (fun _ _ => rfl) rfl (ms_call (xs := [.tmp 44, .tmp 45]) (valid_isA (asgU (uses ops) regs) regs true ⟨fun _ => valid_asg ops regs, fun _ => rfl⟩) cb24 [] [] [] [] rfl rfl rfl rfl rfl rfl rfl rfl (fun _ _ => rfl) (fun _ _ _ => rfl)) (fun _ _ => stg_memg [16, 17, 18, 19, 21] 20 [20, 19, 18, 17, 16, 15, 14, 13, 12, 11, 10, 9, 8, 7, 6, 5, 4, 3, 2, 1, 0] [] (fun _ => []) rfl rfl (prs_cons (pri rfl (p_pick rfl rfl rfl (pick_t (by simp)))) (prs_cons (pri rfl (p_move rfl)) (prs_cons (prig_y rfl rfl rfl rfl (p_loadA t28 rfl rfl rfl (g_all (k := 10) rfl))) (prs_cons (prig_y rfl rfl rfl rfl (p_move rfl)) (prs_cons (prig_y rfl rfl rfl rfl (p_move rfl)) prs_nil))))) rfl rfl rfl rfl rfl rfl rfl rfl rfl rfl rfl rfl (fun _ _ => rfl) rfl (ms_call (xs := [.tmp 49, .tmp 50]) (assign_spec va vp vo ops hl5 regs) cb17 [] [(false, 62)] [] [] rfl rfl rfl rfl rfl rfl rfl rfl (fun _ _ => rfl) (fun _ _ _ => rfl)) (fun _ _ => stg_memg [21] 22 [22, 21, 20, 19, 18, 17, 16, 15, 14, 13, 12, 11, 10, 9, 8, 7, 6, 5, 4, 3, 2, 1, 0] [23, 24] (fun _ => [(23, 54, _), (24, 6, _)]) rfl rfl (prs_cons (prig_y rfl rfl rfl rfl (p_move rfl)) prs_nil) rfl rfl rfl rfl rfl rfl rfl rfl rfl rfl rfl rfl (fun _ _ => rfl) rfl (ms_call (xs := [.tmp 51, .tmp 52]) (rvalid_isA (asgU (uses ops) regs) regs true ⟨fun _ => valid_asg ops regs, fun _ => rfl⟩) cb25 [] [] [] [] rfl rfl rfl rfl rfl rfl rfl rfl (fun _ _ => rfl) (fun _ _ _ => rfl)) (fun _ _ => stg_end [23, 24] rfl rfl (prs_cons (pri rfl (p_pick rfl rfl rfl (pick_t rfl))) (prs_cons (pri rfl (p_assign rfl)) prs_nil)) rfl rfl rfl ?_)))))))
    refine r_cret ?_
    refine r_ret () trivial rfl (rs1 (rv_tmp rfl)) rfl [] [] rfl rfl rfl

end Go.Proofs.Ytfdbkclbcajkiaa
