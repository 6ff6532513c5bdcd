/-
  The assignment without registers, and the assignment of registers. Condition: at most 100,000 operations.
-/
import Derived.Test.YtfdbkclbcajkiaaB4
import Derived.Test.YtfdbkclbcajkiaaS6
import Derived.Test.YtfdbkclbcajkiaaKB
namespace Go.Proofs.Ytfdbkclbcajkiaa
set_option linter.unusedSimpArgs false
set_option linter.unusedVariables false
open Go.RowKit

def noneF : Nat → Int := fun _ => -1
def nonK (k : Nat) : Nat → Int := fun i => if i < k then -1 else 0
theorem nonK_succ (k : Nat) : fset (vi (nonK k)) k (.int .i64 (-1)) = vi (nonK (k + 1)) := by
  funext i
  simp only [fset, vi, nonK]
  by_cases h : i = k
  · subst h; simp
  · rw [if_neg h]
    by_cases h2 : i < k
    · rw [if_pos h2, if_pos (by omega)]
    · rw [if_neg h2, if_neg (by omega)]
theorem nonK_all : uA (nonK 28) = uA noneF := by
  unfold uA
  rw [map_congr28 (g := vi noneF)]
  intro i hi
  simp [vi, nonK, noneF, hi]

/-- The variables that occur, in order. -/
def occ (u : Nat → Int) (k : Nat) : List Int := ((List.range k).filter fun v => decide (0 < u v)).map fun (v : Nat) => (v : Int)
theorem occ_succ (u : Nat → Int) (k : Nat) : occ u (k + 1) = occ u k ++ (if 0 < u k then [(k : Int)] else []) := by
  unfold occ
  rw [List.range_succ, List.filter_append, List.map_append]
  congr 1
  by_cases h : 0 < u k <;> simp [h]
theorem occ_len (u : Nat → Int) (k : Nat) : (occ u k).length ≤ k := by
  unfold occ
  rw [List.length_map]
  exact Nat.le_trans (List.length_filter_le _ _) (by simp)
theorem occ_in (u : Nat → Int) {k : Nat} (hk : k ≤ 28) : InV (occ u k) := by
  intro x hx
  unfold occ at hx
  obtain ⟨v, hv, rfl⟩ := List.mem_map.1 hx
  have := List.mem_range.1 (List.mem_filter.1 hv).1
  omega
/-- The list's first r elements have the numbers 0, 1, ..; all others -1. -/
def asg (l : List Int) : Nat → Nat → Int
  | 0 => noneF
  | r + 1 => fun i => if i = (l.getD r 0).toNat then (r : Int) else asg l r i
theorem asg_succ (l : List Int) (r : Nat) : fset (vi (asg l r)) (l.getD r 0).toNat (.int .i64 (r : Int)) = vi (asg l (r + 1)) := by
  funext i
  simp only [fset, vi, asg]
  by_cases h : i = (l.getD r 0).toNat
  · rw [if_pos h, if_pos h]
  · rw [if_neg h, if_neg h]
def srt (u : Nat → Int) : List Int := stable 0 (lessU u) (occ u 28)
theorem srt_len (u : Nat → Int) : (srt u).length = (occ u 28).length := (stable_both 0 (lessU u) (p := fun x => 0 ≤ x ∧ x < 28) (by decide) (occ_in u (Nat.le_refl _))).1
theorem srt_in (u : Nat → Int) : InV (srt u) := (stable_both 0 (lessU u) (p := fun x => 0 ≤ x ∧ x < 28) (by decide) (occ_in u (Nat.le_refl _))).2
def cut (regs : Int) (n : Nat) : Nat := (max 0 (min regs n)).toNat
theorem uses_bd (ops : List OpR) (hl : ops.length ≤ 100000) : ∀ i, 0 ≤ uses ops i ∧ uses ops i ≤ 1000000 := by
  have h := useN_bd ops ops.length
  rw [useN_all (Nat.le_refl _)] at h
  exact h.get (by omega)
/-- What Assign gives. -/
def asgU (u : Nat → Int) (regs : Int) : Nat → Int := asg (srt u) (cut regs (srt u).length)

set_option maxRecDepth 100000 in
theorem none_spec  :
    Spec Try.prog 23 [] [] [] (X := Unit) (fun _ => True) (fun _ => uA noneF) (fun _ => []) (fun _ => []) := by
  refine r_enter Try.func23 rfl Try.ntmps23 rfl fun w0 M H => ?_
  refine r_seq ?_
  refine r_region ?_
  refine r_alloc_arr (n := 28) (u := (.int .i64 0)) t33 rfl rfl fun b0 => ?_
  refine r_nil ?_
  refine r_seq ?_
  refine r_region ?_
  refine r_alloc_arr (n := 28) (u := (.int .i64 0)) t33 rfl rfl fun b1 => ?_
  refine r_nil ?_
  refine r_seq ?_
  refine r_seq ?_
  refine r_region ?_
  refine r_p (p_move rfl) rfl ?_
  refine r_nil ?_
  refine r_block ?_
  refine r_loop (X := Nat) (fun k => k ≤ 28) (fun k => [(0, .pointer (some ⟨b0, 0, none⟩)), (1, .pointer (some ⟨b1, 0, none⟩)), (3, .int .i64 (k : Int))]) (fun k => [(0, arr b0 33 28 (fun _ => .int .i64 0)), (1, arr b1 33 28 (vi (nonK k)))]) (fun k => []) (fun k => 28 - k) 0 (by omega) rfl rfl rfl (fun k hk0 => ?_)
  refine r_seq ?_
  refine r_region ?_
  refine r_p (p_bin rfl rfl b_lt) rfl ?_
  refine r_nil ?_
  refine r_seq ?_
  refine r_cond rfl (fun h1 => ?_) (fun h1 => ?_)
  · (try simp only [decide_eq_true_eq, decide_eq_false_iff_not, Bool.and_eq_true, Bool.or_eq_true, Bool.and_eq_false_iff, Bool.or_eq_false_iff, Bool.not_eq_true, Bool.not_eq_false, Bool.not_eq_true', Bool.not_eq_false', Bool.not_not, bne_iff_ne, beq_iff_eq] at h1)
    have hk : k < 28 := by omega
    refine r_skip ?_
    refine r_seq ?_
    refine r_block ?_
    refine r_seq ?_
    refine r_region ?_
    refine r_p (p_move rfl) rfl ?_
    refine r_p (p_assign rfl) rfl ?_
    refine r_nil ?_
    refine r_region ?_
    refine r_p (p_move rfl) rfl ?_
    refine r_p (p_idx_arr1 (j := k) Try.underlying33 t3 rfl rfl (by first | rfl | omega) (by first | omega | (simp; done) | (simp; omega))) rfl ?_
    refine r_store_arr (k := 1) t3 rfl rfl rfl rfl rfl (by omega) ?_
    refine r_nil ?_
    refine r_region ?_
    refine r_p (p_bin rfl rfl (b_add (by first | exact w_i64 (by omega) (by omega) | rfl))) rfl ?_
    refine r_p (p_move rfl) rfl ?_
    refine r_nil ?_
    refine r_here (k + 1) ⟨by omega, by omega⟩ rfl (by rw [← nonK_succ]; rfl) rfl
  · (try simp only [decide_eq_true_eq, decide_eq_false_iff_not, Bool.and_eq_true, Bool.or_eq_true, Bool.and_eq_false_iff, Bool.or_eq_false_iff, Bool.not_eq_true, Bool.not_eq_false, Bool.not_eq_true', Bool.not_eq_false', Bool.not_not, bne_iff_ne, beq_iff_eq] at h1)
    have hk : k = 28 := by omega
    subst hk
    refine r_exit ?_
    refine r_seq ?_
    refine r_region ?_
    refine r_p (p_loadA t33 rfl rfl (by simp) (g_arr (k := 1) rfl)) rfl ?_
    refine r_store_arrAll (k := 0) t33 rfl rfl rfl (vi_one _) rfl ?_
    refine r_nil ?_
    refine r_cret ?_
    refine r_ret () trivial rfl (rs1 (rv_cellA t33 rfl rfl (by simp) (g_arr (k := 0) rfl))) nonK_all [] [] rfl rfl rfl
set_option maxRecDepth 100000 in
theorem rnone_spec  :
    Spec Try.prog 34 [] [] [] (X := Unit) (fun _ => True) (fun _ => uA noneF) (fun _ => []) (fun _ => []) := by
  refine r_enter Try.func34 rfl Try.ntmps34 rfl fun w0 M H => ?_
  refine r_seq ?_
  refine r_region ?_
  refine r_alloc_arr (n := 28) (u := (.int .i64 0)) t33 rfl rfl fun b0 => ?_
  refine r_nil ?_
  refine r_seq ?_
  refine r_region ?_
  refine r_alloc_arr (n := 28) (u := (.int .i64 0)) t33 rfl rfl fun b1 => ?_
  refine r_nil ?_
  refine r_seq ?_
  refine r_seq ?_
  refine r_region ?_
  refine r_p (p_assign rfl) rfl ?_
  refine r_nil ?_
  refine r_block ?_
  refine r_loop (X := Nat) (fun k => k ≤ 28) (fun k => [(0, .pointer (some ⟨b0, 0, none⟩)), (1, .pointer (some ⟨b1, 0, none⟩)), (2, .int .i64 (k : Int))]) (fun k => [(0, arr b0 33 28 (fun _ => .int .i64 0)), (1, arr b1 33 28 (vi (nonK k)))]) (fun k => []) (fun k => 28 - k) 0 (by omega) rfl rfl rfl (fun k hk0 => ?_)
  refine r_seq ?_
  refine r_seq ?_
  refine r_region ?_
  refine r_p (p_move rfl) rfl ?_
  refine r_p (p_bin rfl rfl b_lt) rfl ?_
  refine r_nil ?_
  refine r_cond rfl (fun h1 => ?_) (fun h1 => ?_)
  · (try simp only [decide_eq_true_eq, decide_eq_false_iff_not, Bool.and_eq_true, Bool.or_eq_true, Bool.and_eq_false_iff, Bool.or_eq_false_iff, Bool.not_eq_true, Bool.not_eq_false, Bool.not_eq_true', Bool.not_eq_false', Bool.not_not, bne_iff_ne, beq_iff_eq] at h1)
    have hk : k < 28 := by omega
    refine r_skip ?_
    refine r_seq ?_
    refine r_block ?_
    refine r_region ?_
    refine r_p (p_move rfl) rfl ?_
    refine r_p (p_idx_arr1 (j := k) Try.underlying33 t3 rfl rfl (by first | rfl | omega) (by first | omega | (simp; done) | (simp; omega))) rfl ?_
    refine r_store_arr (k := 1) t3 rfl rfl rfl rfl rfl (by omega) ?_
    refine r_nil ?_
    refine r_region ?_
    refine r_p (p_move rfl) rfl ?_
    refine r_p (p_bin rfl rfl (b_add (by first | exact w_i64 (by omega) (by omega) | rfl))) rfl ?_
    refine r_p (p_assign rfl) rfl ?_
    refine r_nil ?_
    refine r_here (k + 1) ⟨by omega, by omega⟩ rfl (by rw [← nonK_succ]; rfl) rfl
  · (try simp only [decide_eq_true_eq, decide_eq_false_iff_not, Bool.and_eq_true, Bool.or_eq_true, Bool.and_eq_false_iff, Bool.or_eq_false_iff, Bool.not_eq_true, Bool.not_eq_false, Bool.not_eq_true', Bool.not_eq_false', Bool.not_not, bne_iff_ne, beq_iff_eq] at h1)
    have hk : k = 28 := by omega
    subst hk
    refine r_exit ?_
    refine r_seq ?_
    refine r_region ?_
    refine r_p (p_loadA t33 rfl rfl (by simp) (g_arr (k := 1) rfl)) rfl ?_
    refine r_store_arrAll (k := 0) t33 rfl rfl rfl (vi_one _) rfl ?_
    refine r_nil ?_
    refine r_cret ?_
    refine r_ret () trivial rfl (rs1 (rv_cellA t33 rfl rfl (by simp) (g_arr (k := 0) rfl))) nonK_all [] [] rfl rfl rfl
set_option maxRecDepth 100000 in
theorem assign_spec (va vp vo : SV) (ops : List OpR) (hl : ops.length ≤ 100000) (regs : Int) :
    Spec Try.prog 17 [.agg #[sv va, sv vp, sv vo], .int .i64 regs] [] [sl 5 eOp (sv vo) ops] (X := Unit) (fun _ => True) (fun _ => uA (asgU (uses ops) regs)) (fun _ => []) (fun _ => []) := by
  refine r_enter Try.func17 rfl Try.ntmps17 rfl fun w0 M H => ?_
  have hol := occ_len (uses ops) 28
  have hsl := srt_len (uses ops)
  have hcl : cut regs (srt (uses ops)).length ≤ (srt (uses ops)).length := by unfold cut; omega
  refine r_seq ?_
  refine r_region ?_
  refine r_boxA rfl rfl fun b2 => ?_
  refine r_alloc_arr (n := 28) (u := (.int .i64 0)) t33 rfl rfl fun b4 => ?_
  refine r_nil ?_
  refine r_seq ?_
  refine r_region ?_
  refine r_p (p_loadA t28 rfl rfl rfl (g_all (k := 2) rfl)) rfl ?_
  refine r_call (xs := [.tmp 12]) (uses_spec va vp vo ops hl) cb15 [] [(false, 0)] [] [] rfl rfl rfl rfl rfl rfl rfl rfl (fun _ _ => rfl) (fun _ _ _ => rfl) rfl (fun _ _ => ?_)
  refine r_call (xs := []) none_spec cb23 [] [] [] [] rfl rfl rfl rfl rfl rfl rfl rfl (fun _ _ => rfl) (fun _ _ _ => rfl) rfl (fun _ _ => ?_)
  refine r_alloc_arr (n := 28) (u := (.int .i64 0)) t30 rfl rfl fun b5 => ?_
  refine r_alloc_arr (n := 28) (u := (.int .i64 0)) t33 rfl rfl fun b6 => ?_
  refine r_store_arrAll (k := 5) t30 rfl rfl rfl (vi_one _) rfl ?_
  refine r_store_arrAll (k := 6) t33 rfl rfl rfl rfl rfl ?_
  refine r_nil ?_
  refine r_seq ?_
  refine r_region ?_
  refine r_make0 eI Try.underlying22 t3 rfl rfl (c := 28) rfl (by decide) (by decide) rfl fun v15 => ?_
  refine r_p (p_assign rfl) rfl ?_
  refine r_nil ?_
  refine r_seq ?_
  refine r_seq ?_
  refine r_region ?_
  refine r_p (p_loadA t30 rfl rfl (by simp) (g_arr (k := 5) rfl)) rfl ?_
  refine r_p (p_move rfl) rfl ?_
  refine r_nil ?_
  refine r_block ?_
  refine r_loop (X := Nat × SV) (fun x => x.1 ≤ 28) (fun x => [(1, .int .i64 regs), (4, .pointer (some ⟨b4, 0, none⟩)), (5, .pointer (some ⟨b5, 0, none⟩)), (6, .pointer (some ⟨b6, 0, none⟩)), (7, sv x.2), (16, uA (uses ops)), (17, .int .i64 (x.1 : Int))]) (fun x => [(4, arr b4 33 28 (fun _ => .int .i64 0)), (5, arr b5 30 28 (vi (uses ops))), (6, arr b6 33 28 (vi noneF)), (15, own 3 1 eI (sv x.2) (occ (uses ops) x.1))]) (fun x => [(0, sl 5 eOp (sv vo) ops)]) (fun x => 28 - x.1) (0, v15) (Nat.zero_le _) rfl rfl rfl (fun ⟨k, v7⟩ hk0 => ?_)
  dsimp only at hk0 ⊢
  refine r_seq ?_
  refine r_region ?_
  refine r_p (p_bin rfl rfl b_lt) rfl ?_
  refine r_nil ?_
  refine r_seq ?_
  refine r_cond rfl (fun h1 => ?_) (fun h1 => ?_)
  · (try simp only [decide_eq_true_eq, decide_eq_false_iff_not, Bool.and_eq_true, Bool.or_eq_true, Bool.and_eq_false_iff, Bool.or_eq_false_iff, Bool.not_eq_true, Bool.not_eq_false, Bool.not_eq_true', Bool.not_eq_false', Bool.not_not, bne_iff_ne, beq_iff_eq] at h1)
    have hk : k < 28 := by omega
    refine r_skip ?_
    refine r_seq ?_
    refine r_block ?_
    refine r_seq ?_
    refine r_region ?_
    refine r_p (p_move rfl) rfl ?_
    refine r_p (p_vindex (j := k) Try.underlying30 t3 rfl rfl (by first | rfl | omega) (by omega) (show _ = some (Value.int .i64 (uses ops k)) by simp [aggD, vi, hk])) rfl ?_
    refine r_p (p_assign rfl) rfl ?_
    refine r_p (p_assign rfl) rfl ?_
    refine r_nil ?_
    refine r_seq ?_
    refine r_region ?_
    refine r_p (p_move rfl) rfl ?_
    refine r_p (p_bin rfl rfl b_gt) rfl ?_
    refine r_nil ?_
    refine r_cond rfl (fun h2 => ?_) (fun h2 => ?_)
    · (try simp only [decide_eq_true_eq, decide_eq_false_iff_not, Bool.and_eq_true, Bool.or_eq_true, Bool.and_eq_false_iff, Bool.or_eq_false_iff, Bool.not_eq_true, Bool.not_eq_false, Bool.not_eq_true', Bool.not_eq_false', Bool.not_not, bne_iff_ne, beq_iff_eq] at h2)
      refine r_region ?_
      refine r_p (p_move rfl) rfl ?_
      refine r_p (p_move rfl) rfl ?_
      refine r_bslice1 eI _ Try.underlying22 t3 rfl (by decide) (by decide) rfl rfl rfl rfl fun v25 => ?_
      refine r_append 15 Try.underlying22 t3 rfl (by decide) (fun _ => rfl) (fun _ => rfl) rfl rfl rfl (hs_own (k := 25) rfl) (by have := occ_len (uses ops) k; simp; omega) (by have := occ_len (uses ops) k; unfold maxLen; simp; omega) rfl fun v26 => ?_
      refine r_p (p_assign rfl) rfl ?_
      refine r_nil ?_
      refine r_region ?_
      refine r_p (p_bin rfl rfl (b_add (by first | exact w_i64 (by omega) (by omega) | rfl))) rfl ?_
      refine r_p (p_move rfl) rfl ?_
      refine r_nil ?_
      refine r_here (k + 1, _) ⟨by dsimp only; omega, by dsimp only; omega⟩ rfl (by dsimp only; rw [occ_succ, if_pos (by omega)]; rfl) rfl
    · (try simp only [decide_eq_true_eq, decide_eq_false_iff_not, Bool.and_eq_true, Bool.or_eq_true, Bool.and_eq_false_iff, Bool.or_eq_false_iff, Bool.not_eq_true, Bool.not_eq_false, Bool.not_eq_true', Bool.not_eq_false', Bool.not_not, bne_iff_ne, beq_iff_eq] at h2)
      refine r_skip ?_
      refine r_region ?_
      refine r_p (p_bin rfl rfl (b_add (by first | exact w_i64 (by omega) (by omega) | rfl))) rfl ?_
      refine r_p (p_move rfl) rfl ?_
      refine r_nil ?_
      refine r_here (k + 1, _) ⟨by dsimp only; omega, by dsimp only; omega⟩ rfl (by dsimp only; rw [occ_succ, if_neg (by omega), List.append_nil]; rfl) rfl
  · (try simp only [decide_eq_true_eq, decide_eq_false_iff_not, Bool.and_eq_true, Bool.or_eq_true, Bool.and_eq_false_iff, Bool.or_eq_false_iff, Bool.not_eq_true, Bool.not_eq_false, Bool.not_eq_true', Bool.not_eq_false', Bool.not_not, bne_iff_ne, beq_iff_eq] at h1)
    have hk : k = 28 := by omega
    subst hk
    refine r_exit ?_
    refine r_seq ?_
    refine r_region ?_
    refine r_p (p_move rfl) rfl ?_
    refine r_p (p_makeFunc (first := []) (cap := [.tmp 5]) rfl rfl) rfl ?_
    refine r_call (xs := [.tmp 28, .tmp 29]) (stablefn_spec v7 (occ (uses ops) 28) b5 (uses ops) (occ_in _ (Nat.le_refl _)) (by have := occ_len (uses ops) 28; omega) (uses_bd ops hl)) cb32 [15, 5] [] [15, 5] [] rfl rfl rfl rfl rfl rfl rfl rfl (fun _ _ => rfl) (fun _ _ _ => rfl) rfl (fun _ _ => ?_)
    refine r_freeze 15 7 rfl own_to_sl ?_
    refine r_nil ?_
    refine r_seq ?_
    refine r_seq ?_
    refine r_region ?_
    refine r_p (p_move rfl) rfl ?_
    refine r_p (p_move rfl) rfl ?_
    refine r_p (p_move rfl) rfl ?_
    refine r_p (p_len_sl Try.underlying22 rfl (hs_sl (k := 7) rfl)) rfl ?_
    refine r_p (p_min rfl rfl rfl) rfl ?_
    refine r_p (p_max rfl rfl rfl) rfl ?_
    refine r_slice_hi (j := cut regs (srt (uses ops)).length) 7 37 Try.underlying22 t3 (by intro _; rfl) rfl rfl (by rw [show stable 0 (lessU (uses ops)) (occ (uses ops) 28) = srt (uses ops) from rfl]; unfold cut; omega) (by rw [show stable 0 (lessU (uses ops)) (occ (uses ops) 28) = srt (uses ops) from rfl]; exact hcl) rfl rfl fun v37 => ?_
    refine r_p (p_len_sl Try.underlying22 rfl (hs_sl (k := 37) rfl)) rfl ?_
    refine r_p (p_move rfl) rfl ?_
    refine r_nil ?_
    refine r_block ?_
    refine r_loop (X := Nat) (fun r => r ≤ cut regs (srt (uses ops)).length) (fun r => [(1, .int .i64 regs), (4, .pointer (some ⟨b4, 0, none⟩)), (5, .pointer (some ⟨b5, 0, none⟩)), (6, .pointer (some ⟨b6, 0, none⟩)), (37, sv v37), (38, .int .i64 ((cut regs (srt (uses ops)).length : Nat) : Int)), (39, .int .i64 (r : Int))]) (fun r => [(4, arr b4 33 28 (fun _ => .int .i64 0)), (5, arr b5 30 28 (vi (uses ops))), (6, arr b6 33 28 (vi (asg (srt (uses ops)) r)))]) (fun r => [(37, sl 1 eI (sv v37) ((srt (uses ops)).take (cut regs (srt (uses ops)).length)))]) (fun r => cut regs (srt (uses ops)).length - r) 0 (Nat.zero_le _) (by rw [show ((cut regs (srt (uses ops)).length : Nat) : Int) = (((stable 0 (lessU (uses ops)) (occ (uses ops) 28)).take (cut regs (srt (uses ops)).length)).length : Int) by rw [List.length_take, show stable 0 (lessU (uses ops)) (occ (uses ops) 28) = srt (uses ops) from rfl]; omega]; rfl) rfl rfl (fun r hr0 => ?_)
    refine r_seq ?_
    refine r_region ?_
    refine r_p (p_bin rfl rfl b_lt) rfl ?_
    refine r_nil ?_
    refine r_seq ?_
    refine r_cond rfl (fun h3 => ?_) (fun h3 => ?_)
    · (try simp only [decide_eq_true_eq, decide_eq_false_iff_not, Bool.and_eq_true, Bool.or_eq_true, Bool.and_eq_false_iff, Bool.or_eq_false_iff, Bool.not_eq_true, Bool.not_eq_false, Bool.not_eq_true', Bool.not_eq_false', Bool.not_not, bne_iff_ne, beq_iff_eq] at h3)
      have hr : r < cut regs (srt (uses ops)).length := by omega
      have htk : ((srt (uses ops)).take (cut regs (srt (uses ops)).length)).getD r 0 = (srt (uses ops)).getD r 0 := by rw [List.getD_eq_getElem?_getD, List.getElem?_take, if_pos hr, ← List.getD_eq_getElem?_getD]
      have hcl : cut regs (srt (uses ops)).length ≤ (srt (uses ops)).length := by unfold cut; omega
      have hin := (srt_in (uses ops)).get (j := r) (by omega)
      refine r_skip ?_
      refine r_seq ?_
      refine r_block ?_
      refine r_seq ?_
      refine r_region ?_
      refine r_p (p_move rfl) rfl ?_
      refine r_p (p_idx_sl (j := r) Try.underlying22 t3 rfl rfl (hs_sl (k := 37) rfl) (by first | rfl | omega) (by simp only [List.length_take]; omega)) rfl ?_
      refine r_p (p_load1 t3 rfl rfl (g_el' (hs_sl (k := 37) rfl) (by intro _; rfl) (getD_get 0 (by simp only [List.length_take]; omega)) (by rfl))) rfl ?_
      refine r_p (p_assign rfl) rfl ?_
      refine r_p (p_assign rfl) rfl ?_
      refine r_nil ?_
      refine r_region ?_
      refine r_p (p_move rfl) rfl ?_
      refine r_p (p_move rfl) rfl ?_
      refine r_p (p_idx_arr1 (j := ((srt (uses ops)).getD r 0).toNat) Try.underlying33 t3 rfl rfl (by rw [htk]; omega) (by first | omega | (simp; done) | (simp; omega))) rfl ?_
      refine r_store_arr (k := 6) t3 rfl rfl rfl rfl rfl (by omega) ?_
      refine r_nil ?_
      refine r_region ?_
      refine r_p (p_bin rfl rfl (b_add (by first | exact w_i64 (by omega) (by omega) | rfl))) rfl ?_
      refine r_p (p_move rfl) rfl ?_
      refine r_nil ?_
      refine r_here (r + 1) ⟨by omega, by omega⟩ rfl (by rw [← asg_succ, ← htk]; rfl) rfl
    · (try simp only [decide_eq_true_eq, decide_eq_false_iff_not, Bool.and_eq_true, Bool.or_eq_true, Bool.and_eq_false_iff, Bool.or_eq_false_iff, Bool.not_eq_true, Bool.not_eq_false, Bool.not_eq_true', Bool.not_eq_false', Bool.not_not, bne_iff_ne, beq_iff_eq] at h3)
      have hr : r = cut regs (srt (uses ops)).length := by omega
      subst hr
      refine r_exit ?_
      refine r_seq ?_
      refine r_region ?_
      refine r_p (p_loadA t33 rfl rfl (by simp) (g_arr (k := 6) rfl)) rfl ?_
      refine r_store_arrAll (k := 4) t33 rfl rfl rfl (vi_one _) rfl ?_
      refine r_nil ?_
      refine r_cret ?_
      refine r_ret () trivial rfl (rs1 (rv_cellA t33 rfl rfl (by simp) (g_arr (k := 4) rfl))) rfl [] [] rfl rfl rfl

end Go.Proofs.Ytfdbkclbcajkiaa
