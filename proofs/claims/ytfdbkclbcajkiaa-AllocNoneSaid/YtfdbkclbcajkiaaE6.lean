/-
  AllocNone walks. No condition.
-/
import Derived.Test.YtfdbkclbcajkiaaV9
import Derived.Test.YtfdbkclbcajkiaaC5
import Derived.Test.YtfdbkclbcajkiaaD3
import Derived.Test.YtfdbkclbcajkiaaKB
namespace Go.Proofs.Ytfdbkclbcajkiaa
set_option linter.unusedSimpArgs false
set_option linter.unusedVariables false
open Go.RowKit

def upd (f : Nat → Int) (n : Nat) (c : Int) : Nat → Int := fun i => if i = n then c else f i
theorem upd_vi (f : Nat → Int) (n : Nat) (c : Int) : ∀ i, i < 28 → fset (vi f) n (.int .i64 c) i = vi (upd f n c) i := by
  intro i _
  simp only [fset, vi, upd]
  by_cases h : i = n <;> simp [h]
theorem spills_upd (f : Nat → Int) (n : Nat) (c : Int) : ∀ k, (spills (upd f n c) k).length ≤ (spills f k).length + (if n < k then 1 else 0)
  | 0 => by simp [spills]
  | k + 1 => by
    have ih := spills_upd f n c k
    rw [spills_succ, spills_succ, List.length_append, List.length_append]
    by_cases h : k = n
    · subst h
      rw [if_neg (Nat.lt_irrefl _)] at ih
      rw [if_pos (Nat.lt_succ_self _)]
      have : (if 28 ≤ upd f k c k then [upd f k c k] else []).length ≤ 1 := by split <;> simp
      omega
    · have : upd f n c k = f k := by simp [upd, h]
      rw [this]
      have e : (if n < k + 1 then 1 else 0 : Nat) = if n < k then 1 else 0 := by
        by_cases h2 : n < k
        · rw [if_pos h2, if_pos (by omega)]
        · rw [if_neg h2, if_neg (by omega)]
      omega
theorem spills_none : ∀ k, (spills noneF k).length = 0
  | 0 => by simp [spills]
  | k + 1 => by
    rw [spills_succ, List.length_append, spills_none k]
    simp [noneF]
theorem spills_upd_le {f : Nat → Int} {m : Nat} (h : (spills f 28).length ≤ m) (n : Nat) (c : Int) : (spills (upd f n c) 28).length ≤ m + 1 := by
  have := spills_upd f n c 28
  split at this <;> omega
theorem valid_none (regs : Int) : ValidP noneF regs := ⟨fun i _ => by simp [noneF], fun i j _ _ h => by simp [noneF] at h⟩
theorem valid_upd {n : Nat} (hn : n < 28) {m : Int} (hm : 1 ≤ m) : ValidP (upd noneF n (m - 1)) m ↔ n ≠ 19 := by
  constructor
  · intro h e
    have := (h.1 n hn).2.2 e
    simp [upd] at this
    omega
  · intro h
    refine ⟨fun i _ => ?_, fun i j h1 _ h0 => ?_⟩
    · simp only [upd, noneF]
      split <;> omega
    · simp only [upd, noneF] at h0 ⊢
      split at h0 <;> split <;> omega
theorem valid_low {n : Nat} (hn : n < 28) {m : Int} (hm : 1 ≤ m) : ¬ ValidP (upd noneF n (m - 1)) (m - 1) := by
  intro h
  have := (h.1 n hn).2.1
  simp [upd] at this
  omega
theorem valid_two {n n2 : Nat} (hn : n < 28) (hn2 : n2 < 28) {m : Int} (hm : 1 ≤ m) : ValidP (upd (upd noneF n (m - 1)) n2 (m - 1)) m ↔ n = n2 ∧ n ≠ 19 := by
  have same : n = n2 → upd (upd noneF n (m - 1)) n2 (m - 1) = upd noneF n (m - 1) := fun e => by
    subst e
    funext i
    simp only [upd]
    split <;> simp_all
  constructor
  · intro h
    have e : n = n2 := by
      rcases Nat.lt_trichotomy n n2 with hlt | he | hlt
      · exact absurd (show upd (upd noneF n (m - 1)) n2 (m - 1) n = upd (upd noneF n (m - 1)) n2 (m - 1) n2 by simp [upd]) (h.2 n n2 hlt hn2 (by simp [upd]; omega))
      · exact he
      · exact absurd (show upd (upd noneF n (m - 1)) n2 (m - 1) n2 = upd (upd noneF n (m - 1)) n2 (m - 1) n by simp [upd]) (h.2 n2 n hlt hn (by simp [upd]; omega))
    rw [same e] at h
    exact ⟨e, (valid_upd hn hm).1 h⟩
  · rintro ⟨e, h⟩
    rw [same e]
    exact (valid_upd hn hm).2 h
theorem valid_two_neg {n : Nat} (hn : n < 28) {m : Int} : ¬ ValidP (upd noneF n (-2)) m := by
  intro h
  have := (h.1 n hn).1
  simp [upd] at this
/-- Valid where its answer is known and few numbers are spilled. -/
theorem valid_is (a : Nat → Int) (regs : Int) (c : Bool) (hK : (spills a 28).length ≤ 12) (hc : c = true ↔ ValidP a regs) :
    Spec Try.prog 24 [uA a, .int .i64 regs] [] [] (X := Unit) (fun _ => True) (fun _ => .bool c) (fun _ => []) (fun _ => []) :=
  (valid_spec a regs 12 hK (fun v xs h => sort_small v xs h)).mono fun x hx => ⟨(), trivial, by rw [Bool.eq_iff_iff.2 (hx.trans hc.symm)], rfl, rfl⟩
theorem asgU_none (u : Nat → Int) {regs : Int} (h : regs ≤ 0) : asgU u regs = noneF := by
  have : cut regs (srt u).length = 0 := by unfold cut; omega
  unfold asgU
  rw [this]
  rfl
theorem assign_none (va vp vo : SV) (ops : List OpR) (hl : ops.length ≤ 100000) (regs : Int) (h : regs ≤ 0) :
    Spec Try.prog 17 [.agg #[sv va, sv vp, sv vo], .int .i64 regs] [] [sl 5 eOp (sv vo) ops] (X := Unit) (fun _ => True) (fun _ => uA noneF) (fun _ => []) (fun _ => []) := by
  have := assign_spec va vp vo ops hl regs
  rw [asgU_none _ h] at this
  exact this
def vb2 (a b : Int) : Nat → Value
  | 0 => .int .u8 a
  | _ => .int .u8 b

set_option maxRecDepth 100000 in
set_option maxHeartbeats 1000000 in
theorem none_law (vs : SV) (s : List Int) (a0 a1 : Int) (ha0 : 0 ≤ a0 ∧ a0 < 256) (ha1 : 0 ≤ a1 ∧ a1 < 256) (a2 : Int) (ha2 : 0 ≤ a2 ∧ a2 < 256) :
    Spec Try.prog 12 [sv vs, .agg ((List.range 2).map (vb2 a0 a1)).toArray, .int .u8 a2] [] [sl 1 eI (sv vs) s] (X := Unit) (fun _ => True) (fun _ => .bool true) (fun _ => []) (fun _ => []) := by
  refine r_enter Try.func12 rfl Try.ntmps12 rfl fun w0 M H => ?_
  refine r_seq ?_
  refine r_region ?_
  refine r_box_arr rfl rfl fun b4 => ?_
  refine r_p (p_assign rfl) rfl ?_
  refine r_nil ?_
  refine r_seq ?_
  refine r_region ?_
  refine r_call (xs := []) sanity_spec cb13 [] [] [] [] rfl rfl rfl rfl rfl rfl rfl rfl (fun _ _ => rfl) (fun _ _ _ => rfl) rfl (fun _ _ => ?_)
  refine r_p (p_assign rfl) rfl ?_
  refine r_nil ?_
  refine r_seq ?_
  refine r_region ?_
  refine r_call (xs := []) none_spec cb23 [] [] [] [] rfl rfl rfl rfl rfl rfl rfl rfl (fun _ _ => rfl) (fun _ _ _ => rfl) rfl (fun _ _ => ?_)
  refine r_alloc_arr (n := 28) (u := (.int .i64 0)) t33 rfl rfl fun b8 => ?_
  refine r_store_arrAll (k := 8) t33 rfl rfl rfl (vi_one _) rfl ?_
  refine r_nil ?_
  refine r_seq ?_
  refine r_seq ?_
  refine r_region ?_
  refine r_p (p_assign rfl) rfl ?_
  refine r_nil ?_
  refine r_block ?_
  refine r_loop (X := Nat) (fun k => k ≤ 28) (fun k => [(2, .int .u8 a2), (0, sv vs), (4, .pointer (some ⟨b4, 0, none⟩)), (7, .bool true), (8, .pointer (some ⟨b8, 0, none⟩)), (9, .int .i64 (k : Int))]) (fun k => [(4, arr b4 38 2 (vb2 a0 a1)), (8, arr b8 33 28 (vi noneF))]) (fun k => [(0, sl 1 eI (sv vs) s)]) (fun k => 28 - k) 0 (Nat.zero_le _) rfl rfl rfl (fun k hk0 => ?_)
  refine r_seq ?_
  refine r_seq ?_
  refine r_region ?_
  refine r_p (p_move rfl) rfl ?_
  refine r_p (p_bin rfl rfl b_lt) rfl ?_
  refine r_nil ?_
  refine r_cond rfl (fun h1 => ?_) (fun h1 => ?_)
  · (try simp only [decide_eq_true_eq, decide_eq_false_iff_not, Bool.and_eq_true, Bool.or_eq_true, Bool.and_eq_false_iff, Bool.or_eq_false_iff, Bool.not_eq_true, Bool.not_eq_false, Bool.not_eq_true', Bool.not_eq_false', Bool.not_not, bne_iff_ne, beq_iff_eq] at h1)
    have hk : k < 28 := by omega
    refine r_skip ?_
    refine r_seq ?_
    refine r_block ?_
    refine r_seq ?_
    refine r_region ?_
    refine r_p (p_move rfl) rfl ?_
    refine r_p (p_idx_arr1 (j := k) Try.underlying33 t3 rfl rfl (by first | rfl | omega) (by first | omega | (simp; done) | (simp; omega))) rfl ?_
    refine r_p (p_load1 t3 rfl rfl (g_arr1 (k := 8) rfl (by omega))) rfl ?_
    refine r_p (p_bin rfl rfl b_ne) rfl ?_
    refine r_nil ?_
    refine r_cond rfl (fun h2 => ?_) (fun h2 => ?_)
    · exfalso; simp [vi, noneF] at h2
    · (try simp only [decide_eq_true_eq, decide_eq_false_iff_not, Bool.and_eq_true, Bool.or_eq_true, Bool.and_eq_false_iff, Bool.or_eq_false_iff, Bool.not_eq_true, Bool.not_eq_false, Bool.not_eq_true', Bool.not_eq_false', Bool.not_not, bne_iff_ne, beq_iff_eq] at h2)
      refine r_skip ?_
      refine r_region ?_
      refine r_p (p_move rfl) rfl ?_
      refine r_p (p_bin rfl rfl (b_add (by first | exact w_i64 (by omega) (by omega) | rfl))) rfl ?_
      refine r_p (p_assign rfl) rfl ?_
      refine r_nil ?_
      refine r_here (k + 1) ⟨by omega, by omega⟩ rfl rfl rfl
  · (try simp only [decide_eq_true_eq, decide_eq_false_iff_not, Bool.and_eq_true, Bool.or_eq_true, Bool.and_eq_false_iff, Bool.or_eq_false_iff, Bool.not_eq_true, Bool.not_eq_false, Bool.not_eq_true', Bool.not_eq_false', Bool.not_not, bne_iff_ne, beq_iff_eq] at h1)
    have hk : k = 28 := by omega
    subst hk
    refine r_exit ?_
    refine r_seq ?_
    refine r_region ?_
    refine r_p (p_move rfl) rfl ?_
    refine r_call (xs := [.tmp 28]) (made_spec vs s) cb19 [] [(false, 0)] [] [60, 61, 62] rfl rfl rfl rfl rfl rfl rfl rfl (fun _ _ => rfl) (fun _ _ _ => rfl) rfl (fun ⟨va, vp, vo, sw, sa, ops⟩ hx14 => ?_)
    obtain ⟨hl, hal⟩ := hx14
    dsimp only at hl hal
    have hl5 : ops.length ≤ 100000 := by omega
    have hub := uses_bd ops hl5
    dsimp only
    refine r_alloc t28 rfl rfl fun b10 => ?_
    refine r_store_all (k := 10) t28 rfl rfl rfl rfl rfl rfl ?_
    refine r_nil ?_
    refine r_seq ?_
    refine r_region ?_
    refine r_p (p_idx_arr1 (j := 0) Try.underlying38 t5 rfl rfl (by rfl) (by decide)) rfl ?_
    refine r_p (p_load1 t5 rfl rfl (g_arr1 (k := 4) rfl (by omega))) rfl ?_
    refine r_p (p_bin rfl rfl (b_rem (by omega) (tmod_pos (by omega)))) rfl ?_
    refine r_p (p_conv Try.underlying5 Try.underlying3 rfl (by first | exact w_i64 (by omega) (by omega) | rfl)) rfl ?_
    refine r_p (p_assign rfl) rfl ?_
    refine r_nil ?_
    refine r_seq ?_
    refine r_region ?_
    refine r_p (p_idx_arr1 (j := 1) Try.underlying38 t5 rfl rfl (by rfl) (by decide)) rfl ?_
    refine r_p (p_load1 t5 rfl rfl (g_arr1 (k := 4) rfl (by omega))) rfl ?_
    refine r_p (p_bin rfl rfl (b_rem (by omega) (tmod_pos (by omega)))) rfl ?_
    refine r_p (p_conv Try.underlying5 Try.underlying3 rfl (by first | exact w_i64 (by omega) (by omega) | rfl)) rfl ?_
    refine r_p (p_assign rfl) rfl ?_
    refine r_nil ?_
    refine r_seq ?_
    refine r_region ?_
    refine r_p (p_move rfl) rfl ?_
    refine r_p (p_bin rfl rfl (b_rem (by omega) (tmod_pos (by omega)))) rfl ?_
    refine r_p (p_conv Try.underlying5 Try.underlying3 rfl (by first | exact w_i64 (by omega) (by omega) | rfl)) rfl ?_
    refine r_p (p_bin rfl rfl (b_add (by first | exact w_i64 (by omega) (by omega) | rfl))) rfl ?_
    refine r_p (p_assign rfl) rfl ?_
    refine r_nil ?_
    refine r_seq ?_
    refine r_region ?_
    refine r_p (p_loadA t33 rfl rfl (by simp) (g_arr (k := 8) rfl)) rfl ?_
    refine r_alloc_arr (n := 28) (u := (.int .i64 0)) t33 rfl rfl fun b14 => ?_
    refine r_store_arrAll (k := 14) t33 rfl rfl rfl (vi_one _) rfl ?_
    refine r_nil ?_
    refine r_seq ?_
    refine r_region ?_
    refine r_p (p_move rfl) rfl ?_
    refine r_p (p_move rfl) rfl ?_
    refine r_p (p_bin rfl rfl (b_sub (by first | exact w_i64 (by omega) (by omega) | rfl))) rfl ?_
    refine r_p (p_idx_arr1 (j := (a0 % 28).toNat) Try.underlying33 t3 rfl rfl (by omega) (by omega)) rfl ?_
    refine r_store_arr (k := 14) t3 rfl rfl rfl rfl rfl (by omega) ?_
    refine r_conva (k := 14) rfl (arr_fg (upd_vi _ _ _)) ?_
    refine r_nil ?_
    refine r_seq ?_
    refine r_region ?_
    refine r_p (p_loadA t33 rfl rfl (by simp) (g_arr (k := 14) rfl)) rfl ?_
    refine r_alloc_arr (n := 28) (u := (.int .i64 0)) t33 rfl rfl fun b15 => ?_
    refine r_store_arrAll (k := 15) t33 rfl rfl rfl (vi_one _) rfl ?_
    refine r_nil ?_
    refine r_seq ?_
    refine r_region ?_
    refine r_p (p_move rfl) rfl ?_
    refine r_p (p_move rfl) rfl ?_
    refine r_p (p_bin rfl rfl (b_sub (by first | exact w_i64 (by omega) (by omega) | rfl))) rfl ?_
    refine r_p (p_idx_arr1 (j := (a1 % 28).toNat) Try.underlying33 t3 rfl rfl (by omega) (by omega)) rfl ?_
    refine r_store_arr (k := 15) t3 rfl rfl rfl rfl rfl (by omega) ?_
    refine r_conva (k := 15) rfl (arr_fg (upd_vi _ _ _)) ?_
    refine r_nil ?_
    refine r_seq ?_
    refine r_region ?_
    refine r_p (p_loadA t33 rfl rfl (by simp) (g_arr (k := 8) rfl)) rfl ?_
    refine r_alloc_arr (n := 28) (u := (.int .i64 0)) t33 rfl rfl fun b16 => ?_
    refine r_store_arrAll (k := 16) t33 rfl rfl rfl (vi_one _) rfl ?_
    refine r_nil ?_
    refine r_seq ?_
    refine r_region ?_
    refine r_p (p_move rfl) rfl ?_
    refine r_p (p_idx_arr1 (j := (a0 % 28).toNat) Try.underlying33 t3 rfl rfl (by omega) (by omega)) rfl ?_
    refine r_store_arr (k := 16) t3 rfl rfl rfl rfl rfl (by omega) ?_
    refine r_conva (k := 16) rfl (arr_fg (upd_vi _ _ _)) ?_
    refine r_nil ?_
    refine r_seq ?_
    refine r_draw [55, 56, 57, 58, 59, 60, 61, 62, 63, 64, 65, 66, 67, 68, 69, 70, 71, 72, 73, 74, 75, 76, 77, 78, 79, 80, 17] _ rfl (stg_mem (V := [(0, 55, _), (1, 56, _)]) [0, 1] 2 [2, 1, 0] [3, 4] (fun _ => [(3, 58, _), (4, 59, _)]) rfl rfl (prs_cons (pri rfl (p_loadA t33 rfl rfl (by simp) (g_arr (k := 8) rfl))) (prs_cons (pri rfl (p_move rfl)) prs_nil)) rfl rfl rfl rfl rfl rfl rfl rfl rfl rfl rfl (fun _ _ => rfl) rfl (ms_call (xs := [.tmp 55, .tmp 56]) (valid_is noneF (a2 % 30 + 1) true (by have := spills_none 28; omega) ⟨fun _ => valid_none _, fun _ => rfl⟩) cb24 [] [] [] [] rfl rfl rfl rfl rfl rfl rfl rfl (fun _ _ => rfl) (fun _ _ _ => rfl)) (fun _ _ => stg_memg [3, 4] 5 [5, 4, 3, 2, 1, 0] [6, 7, 8] (fun _ => [(6, 61, _), (7, 62, _), (8, 63, _)]) rfl rfl (prs_cons (pri rfl (p_move rfl)) (prs_cons (prig_y rfl rfl rfl rfl (p_loadA t33 rfl rfl (by simp) (g_arr (k := 8) rfl))) prs_nil)) rfl rfl rfl rfl rfl rfl rfl rfl rfl rfl rfl rfl (fun _ _ => rfl) rfl (ms_call (xs := [.tmp 59, .const (.int .i64 0)]) (valid_is noneF 0 true (by have := spills_none 28; omega) ⟨fun _ => valid_none _, fun _ => rfl⟩) cb24 [] [] [] [] rfl rfl rfl rfl rfl rfl rfl rfl (fun _ _ => rfl) (fun _ _ _ => rfl)) (fun _ _ => stg_memg [6, 7, 8] 9 [9, 8, 7, 6, 5, 4, 3, 2, 1, 0] [10, 11, 12, 14] (fun _ => [(10, 65, _), (11, 66, _), (12, 67, _), (14, 69, _)]) rfl rfl (prs_cons (pri rfl (p_pick rfl rfl rfl (pick_t rfl))) (prs_cons (pri rfl (p_move rfl)) (prs_cons (prig_y rfl rfl rfl rfl (p_loadA t33 rfl rfl (by simp) (g_arr (k := 8) rfl))) prs_nil))) rfl rfl rfl rfl rfl rfl rfl rfl rfl rfl rfl rfl (fun _ _ => rfl) rfl (ms_call (xs := [.tmp 63, .const (.int .i64 (-1))]) (valid_is noneF (-1) true (by have := spills_none 28; omega) ⟨fun _ => valid_none _, fun _ => rfl⟩) cb24 [] [] [] [] rfl rfl rfl rfl rfl rfl rfl rfl (fun _ _ => rfl) (fun _ _ _ => rfl)) (fun _ _ => stg_memg [10, 11, 12, 14] 13 [13, 12, 11, 10, 9, 8, 7, 6, 5, 4, 3, 2, 1, 0] [15, 16, 17, 18, 19, 20, 21, 23] (fun _ => [(15, 70, _), (16, 71, _), (17, 72, _), (18, 73, _), (19, 74, _), (20, 75, _), (21, 76, _), (23, 78, _)]) rfl rfl (prs_cons (pri rfl (p_pick rfl rfl rfl (pick_t rfl))) (prs_cons (pri rfl (p_move rfl)) (prs_cons (prig_y rfl rfl rfl rfl (p_loadA t28 rfl rfl rfl (g_all (k := 10) rfl))) (prs_cons (prig_y rfl rfl rfl rfl (p_loadA t33 rfl rfl (by simp) (g_arr (k := 8) rfl))) prs_nil)))) rfl rfl rfl rfl rfl rfl rfl rfl rfl rfl rfl rfl (fun _ _ => rfl) rfl (ms_call (xs := [.tmp 67, .const (.int .i64 0)]) (assign_none va vp vo ops hl5 0 (by omega)) cb17 [] [(false, 62)] [] [] rfl rfl rfl rfl rfl rfl rfl rfl (fun _ _ => rfl) (fun _ _ _ => rfl)) (fun _ _ => stg_memg [15, 16, 17, 18, 19, 20, 21, 23, 14] 22 [22, 21, 20, 19, 18, 17, 16, 15, 14, 13, 12, 11, 10, 9, 8, 7, 6, 5, 4, 3, 2, 1, 0] [24, 25, 26] (fun _ => [(24, 79, _), (25, 80, _), (26, 17, _)]) rfl rfl (prs_cons (prig_y rfl rfl rfl rfl (p_bin rfl rfl (b_eqA Try.underlying33 t3 (by kernel_rfl)))) (prs_cons (pri rfl (p_pick rfl rfl rfl (pick_t rfl))) (prs_cons (pri rfl (p_move rfl)) (prs_cons (prig_y rfl rfl rfl (by simp) (p_loadA t28 rfl rfl rfl (g_all (k := 10) rfl))) (prs_cons (prig_y rfl rfl rfl (by simp) (p_move rfl)) (prs_cons (prig_y rfl rfl rfl (by simp) (p_conv Try.underlying5 Try.underlying3 rfl (by first | exact w_i64 (by omega) (by omega) | rfl))) (prs_cons (prig_y rfl rfl rfl (by simp) (p_neg rfl (by first | exact w_i64 (by omega) (by omega) | rfl))) (prs_cons (prig_y rfl rfl rfl (by simp) (p_loadA t33 rfl rfl (by simp) (g_arr (k := 8) rfl))) (prs_cons (prig_y rfl rfl rfl rfl (p_loadA t33 rfl rfl (by simp) (g_arr (k := 8) rfl))) prs_nil))))))))) rfl rfl rfl rfl rfl (by simp) rfl rfl rfl rfl rfl rfl (fun _ _ => rfl) rfl (ms_call (xs := [.tmp 73, .tmp 76]) (assign_none va vp vo ops hl5 (-a2) (by omega)) cb17 [] [(false, 62)] [] [] rfl rfl rfl rfl rfl rfl rfl rfl (fun _ _ => rfl) (fun _ _ _ => rfl)) (fun _ _ => stg_end [24, 25, 26, 23] rfl rfl (prs_cons (prig_y rfl rfl rfl (by simp) (p_bin rfl rfl (b_eqA Try.underlying33 t3 (by kernel_rfl)))) (prs_cons (pri rfl (p_pick rfl rfl rfl (pick_t (by simp)))) (prs_cons (pri rfl (p_assign rfl)) (prs_cons (prig_y rfl rfl rfl (by simp) (p_loadA t33 rfl rfl (by simp) (g_arr (k := 8) rfl))) prs_nil)))) rfl rfl rfl ?_))))))
    refine r_seq ?_
    refine r_region ?_
    refine r_p (p_move rfl) rfl ?_
    refine r_p (p_move rfl) rfl ?_
    refine r_gp [] rfl rfl trivial (fun hg3 => p_move rfl) rfl ?_
    refine r_p (p_pick rfl rfl rfl (by first | exact pick_and | exact pick_or |  rfl)) rfl ?_
    refine r_p (p_move rfl) rfl ?_
    refine r_split (t := 85) rfl (fun h4 => ?_) (fun h4 => False.elim (by simp at h4))
    refine r_gyes rfl rfl ?_
    refine r_p (p_loadA t33 rfl rfl (by simp) (g_arr (k := 14) rfl)) rfl ?_
    refine r_gyes rfl rfl ?_
    refine r_p (p_move rfl) rfl ?_
    refine r_gyes rfl rfl ?_
    refine r_call (xs := [.tmp 86, .tmp 87]) (valid_is (upd noneF (a0 % 28).toNat ((a2 % 30 + 1) - 1)) (a2 % 30 + 1) (!decide ((a0 % 28) = 19)) (by have := spills_upd_le (f := noneF) (m := 0) (by have := spills_none 28; omega) (a0 % 28).toNat ((a2 % 30 + 1) - 1); omega) (by rw [valid_upd (by omega) (by omega)]; simp; omega)) cb24 [] [] [] [] rfl rfl rfl rfl rfl rfl rfl rfl (fun _ _ => rfl) (fun _ _ _ => rfl) rfl (fun _ _ => ?_)
    refine r_gyes rfl rfl ?_
    refine r_p (p_move rfl) rfl ?_
    refine r_gyes rfl rfl ?_
    refine r_p (p_bin rfl rfl b_ne) rfl ?_
    refine r_gyes rfl rfl ?_
    refine r_p (p_bin rfl rfl (b_beq Try.underlying4)) rfl ?_
    refine r_p (p_pick rfl rfl rfl (by first | exact pick_and | exact pick_or |  rfl)) rfl ?_
    refine r_p (p_move rfl) rfl ?_
    refine r_split (t := 93) rfl (fun h5 => ?_) (fun h5 => False.elim (by simp at h5))
    refine r_gyes rfl rfl ?_
    refine r_p (p_loadA t33 rfl rfl (by simp) (g_arr (k := 14) rfl)) rfl ?_
    refine r_gyes rfl rfl ?_
    refine r_p (p_move rfl) rfl ?_
    refine r_gyes rfl rfl ?_
    refine r_p (p_bin rfl rfl (b_sub (by first | exact w_i64 (by omega) (by omega) | rfl))) rfl ?_
    refine r_gyes rfl rfl ?_
    refine r_call (xs := [.tmp 94, .tmp 96]) (valid_is (upd noneF (a0 % 28).toNat ((a2 % 30 + 1) - 1)) ((a2 % 30 + 1) - 1) false (by have := spills_upd_le (f := noneF) (m := 0) (by have := spills_none 28; omega) (a0 % 28).toNat ((a2 % 30 + 1) - 1); omega) ⟨fun h => (by cases h), fun h => (valid_low (by omega) (by omega) h).elim⟩) cb24 [] [] [] [] rfl rfl rfl rfl rfl rfl rfl rfl (fun _ _ => rfl) (fun _ _ _ => rfl) rfl (fun _ _ => ?_)
    refine r_gyes rfl rfl ?_
    refine r_p (p_not rfl) rfl ?_
    refine r_p (p_pick rfl rfl rfl (by first | exact pick_and | exact pick_or |  rfl)) rfl ?_
    refine r_p (p_move rfl) rfl ?_
    refine r_split (t := 100) rfl (fun h6 => ?_) (fun h6 => False.elim (by simp at h6))
    refine r_gyes rfl rfl ?_
    refine r_p (p_loadA t33 rfl rfl (by simp) (g_arr (k := 15) rfl)) rfl ?_
    refine r_gyes rfl rfl ?_
    refine r_p (p_move rfl) rfl ?_
    refine r_gyes rfl rfl ?_
    refine r_call (xs := [.tmp 101, .tmp 102]) (valid_is (upd (upd noneF (a0 % 28).toNat ((a2 % 30 + 1) - 1)) (a1 % 28).toNat ((a2 % 30 + 1) - 1)) (a2 % 30 + 1) (decide ((a0 % 28) = (a1 % 28)) && !decide ((a0 % 28) = 19)) (by have h1 := spills_upd_le (f := noneF) (m := 0) (by have := spills_none 28; omega) (a0 % 28).toNat ((a2 % 30 + 1) - 1); have h2 := spills_upd_le h1 (a1 % 28).toNat ((a2 % 30 + 1) - 1); omega) (by rw [valid_two (by omega) (by omega) (by omega)]; simp; omega)) cb24 [] [] [] [] rfl rfl rfl rfl rfl rfl rfl rfl (fun _ _ => rfl) (fun _ _ _ => rfl) rfl (fun _ _ => ?_)
    refine r_gyes rfl rfl ?_
    refine r_p (p_move rfl) rfl ?_
    refine r_gyes rfl rfl ?_
    refine r_p (p_move rfl) rfl ?_
    refine r_gyes rfl rfl ?_
    refine r_p (p_bin rfl rfl b_eq) rfl ?_
    refine r_gyes rfl rfl ?_
    refine r_p (p_move rfl) rfl ?_
    refine r_gp [] rfl rfl trivial (fun hg7 => p_move rfl) rfl ?_
    refine r_gp [(108, _)] rfl rfl ⟨rfl, trivial⟩ (fun hg8 => p_bin rfl rfl b_ne) rfl ?_
    refine r_gyes rfl rfl ?_
    refine r_p (p_pick rfl rfl rfl (by first | exact pick_and | exact pick_or |  rfl)) rfl ?_
    refine r_gyes rfl rfl ?_
    refine r_p (p_bin rfl rfl (b_beq Try.underlying4)) rfl ?_
    refine r_p (p_pick rfl rfl rfl (by first | exact pick_and | exact pick_or |  rfl)) rfl ?_
    refine r_p (p_move rfl) rfl ?_
    refine r_split (t := 113) rfl (fun h9 => ?_) (fun h9 => False.elim (by simp at h9))
    refine r_gyes rfl rfl ?_
    refine r_p (p_loadA t33 rfl rfl (by simp) (g_arr (k := 16) rfl)) rfl ?_
    refine r_gyes rfl rfl ?_
    refine r_p (p_move rfl) rfl ?_
    refine r_gyes rfl rfl ?_
    refine r_call (xs := [.tmp 114, .tmp 115]) (valid_is (upd noneF (a0 % 28).toNat (-2)) (a2 % 30 + 1) false (by have := spills_upd_le (f := noneF) (m := 0) (by have := spills_none 28; omega) (a0 % 28).toNat (-2); omega) ⟨fun h => (by cases h), fun h => (valid_two_neg (by omega) h).elim⟩) cb24 [] [] [] [] rfl rfl rfl rfl rfl rfl rfl rfl (fun _ _ => rfl) (fun _ _ _ => rfl) rfl (fun _ _ => ?_)
    refine r_gyes rfl rfl ?_
    refine r_p (p_not rfl) rfl ?_
    refine r_p (p_pick rfl rfl rfl (by first | exact pick_and | exact pick_or |  rfl)) rfl ?_
    refine r_p (p_assign rfl) rfl ?_
    refine r_nil ?_
    refine r_cret ?_
    refine r_ret () trivial rfl (rs1 (rv_tmp rfl)) (congrArg Value.bool (by simp)) [] [] rfl rfl rfl

end Go.Proofs.Ytfdbkclbcajkiaa
