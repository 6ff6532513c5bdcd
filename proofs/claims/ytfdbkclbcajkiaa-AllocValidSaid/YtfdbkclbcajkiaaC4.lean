/-
  What the maker gives for an instruction: at most seven operations. Condition: at most 800,000 numbers were taken.
-/
import Derived.Test.YtfdbkclbcajkiaaC3
namespace Go.Proofs.Ytfdbkclbcajkiaa
set_option linter.unusedSimpArgs false
set_option linter.unusedVariables false
open Go.RowKit

set_option maxRecDepth 100000 in
set_option maxHeartbeats 1000000 in
theorem instr_spec (b : Nat) (vs : SV) (s : List Int) (k0 : Nat) (hk0 : k0 ≤ 800000) :
    Spec Try.prog 36 [.pointer (some ⟨b, 0, none⟩)] [row b 64 [sv vs, .int .i64 (k0 : Int)]] [sl 1 eI (sv vs) s] (X := (Nat × List OpR × SV)) (fun x => x.1 ≤ k0 + 60 ∧ x.2.1.length ≤ 7) (fun x => sv x.2.2) (fun x => [row b 64 [sv vs, .int .i64 (x.1 : Int)], own 47 5 eOp (sv x.2.2) x.2.1]) (fun _ => []) := by
  refine r_enter Try.func36 rfl Try.ntmps36 rfl fun w0 M H => ?_
  refine r_nilown 3 (S := 47) (s := 5) (enc := eOp) ?_
  refine r_seq ?_
  refine r_region ?_
  refine r_p (p_assign rfl) rfl ?_
  refine r_nil ?_
  refine r_seq ?_
  refine r_region ?_
  refine r_p (p_assign rfl) rfl ?_
  refine r_nil ?_
  refine r_seq ?_
  refine r_region ?_
  refine r_alloc_arr (n := 8) (u := (.bool false)) t75 rfl rfl fun b4 => ?_
  refine r_nil ?_
  refine r_seq ?_
  refine r_seq ?_
  refine r_region ?_
  refine r_p (p_move rfl) rfl ?_
  refine r_call (xs := [.tmp 15, .const (.int .i64 4)]) (take_ex _ _ _ _ 4 (by omega) (by omega) (by omega)) cb35 [0] [(false, 0)] [0] [] rfl rfl rfl rfl rfl rfl rfl rfl (fun _ _ => rfl) (fun _ _ _ => rfl) rfl (fun n16 hn16 => ?_)
  refine r_p (p_assign rfl) rfl ?_
  refine r_nil ?_
  refine r_block ?_
  refine r_loop (X := Int × Nat × List OpR × (Nat → Bool) × SV) (fun x => 0 ≤ x.1 ∧ x.1 ≤ 3 ∧ x.2.1 + 6 * x.1 ≤ k0 + 19 ∧ x.2.2.1.length + x.1 ≤ 3) (fun x => [(0, .pointer (some ⟨b, 0, none⟩)), (4, .pointer (some ⟨b4, 0, none⟩)), (3, sv x.2.2.2.2), (5, .int .i64 x.1)]) (fun x => [(0, row b 64 [sv vs, .int .i64 ((x.2.1 : Nat) : Int)]), (4, arr b4 75 8 (fun j => .bool (x.2.2.2.1 j))), (3, own 47 5 eOp (sv x.2.2.2.2) x.2.2.1)]) (fun x => [(0, sl 1 eI (sv vs) s)]) (fun x => x.1.toNat) (n16, k0 + 1, [], fun _ => false, nilS) ⟨by omega, by omega, by simp only []; omega, by simp; omega⟩ rfl rfl rfl (fun ⟨i, k, ops, wr, v3⟩ hx => ?_)
  obtain ⟨hi, hi3, hk, ho⟩ := hx
  dsimp only at hi hi3 hk ho ⊢
  refine r_seq ?_
  refine r_seq ?_
  refine r_region ?_
  refine r_p (p_move rfl) rfl ?_
  refine r_p (p_bin rfl rfl b_gt) rfl ?_
  refine r_nil ?_
  refine r_cond rfl (fun h1 => ?_) (fun h1 => ?_)
  · (try simp only [decide_eq_true_eq, decide_eq_false_iff_not, Bool.and_eq_true, Bool.or_eq_true, Bool.and_eq_false_iff, Bool.or_eq_false_iff, Bool.not_eq_true, Bool.not_eq_false, Bool.not_eq_true', Bool.not_eq_false', Bool.not_not, bne_iff_ne, beq_iff_eq] at h1)
    refine r_skip ?_
    refine r_seq ?_
    refine r_block ?_
    refine r_seq ?_
    refine r_region ?_
    refine r_p (p_move rfl) rfl ?_
    refine r_call (xs := [.tmp 21, .const (.int .i64 8)]) (take_ex _ _ _ _ 8 (by omega) (by omega) (by omega)) cb35 [0] [(false, 0)] [0] [] rfl rfl rfl rfl rfl rfl rfl rfl (fun _ _ => rfl) (fun _ _ _ => rfl) rfl (fun n22 hn22 => ?_)
    refine r_p (p_assign rfl) rfl ?_
    refine r_nil ?_
    refine r_seq ?_
    refine r_region ?_
    refine r_p (p_move rfl) rfl ?_
    refine r_p (p_loadA t75 rfl rfl (by simp) (g_arr (k := 4) rfl)) rfl ?_
    refine r_call (xs := [.tmp 23, .tmp 24]) (source_ex _ _ _ _ _ (by omega)) cb42 [0] [(false, 0)] [0] [] rfl rfl rfl rfl rfl rfl rfl rfl (fun _ _ => rfl) (fun _ _ _ => rfl) rfl (fun n25 hn25 => ?_)
    refine r_p (p_assign rfl) rfl ?_
    refine r_nil ?_
    refine r_seq_cut (X := Int × Nat × List OpR × SV) (fun x => -1 ≤ x.1 ∧ x.1 ≤ 7 ∧ x.2.1 + 6 * i ≤ k0 + 25 ∧ x.2.2.1.length + i ≤ 4) (fun x => [(0, .pointer (some ⟨b, 0, none⟩)), (4, .pointer (some ⟨b4, 0, none⟩)), (3, sv x.2.2.2), (5, .int .i64 i), (6, .int .i64 x.1)]) (fun x => [(0, row b 64 [sv vs, .int .i64 ((x.2.1 : Nat) : Int)]), (4, arr b4 75 8 (fun j => .bool (wr j))), (3, own 47 5 eOp (sv x.2.2.2) x.2.2.1)]) (fun x => [(0, sl 1 eI (sv vs) s)]) ?_ (fun ⟨t, k', ops', v3'⟩ hc => ?_)
    · refine r_seq ?_
      refine r_region ?_
      refine r_p (p_move rfl) rfl ?_
      refine r_call (xs := [.tmp 26, .const (.int .i64 6)]) (take_ex _ _ _ _ 6 (by omega) (by omega) (by omega)) cb35 [0] [(false, 0)] [0] [] rfl rfl rfl rfl rfl rfl rfl rfl (fun _ _ => rfl) (fun _ _ _ => rfl) rfl (fun n27 hn27 => ?_)
      refine r_nil ?_
      refine r_block ?_
      refine r_seq ?_
      refine r_region ?_
      refine r_p (p_bin rfl rfl b_eq) rfl ?_
      refine r_p (p_assign rfl) rfl ?_
      refine r_nil ?_
      refine r_cond rfl (fun h2 => ?_) (fun h2 => ?_)
      · (try simp only [decide_eq_true_eq, decide_eq_false_iff_not, Bool.and_eq_true, Bool.or_eq_true, Bool.and_eq_false_iff, Bool.or_eq_false_iff, Bool.not_eq_true, Bool.not_eq_false, Bool.not_eq_true', Bool.not_eq_false', Bool.not_not, bne_iff_ne, beq_iff_eq] at h2)
        refine r_region ?_
        refine r_p (p_move rfl) rfl ?_
        refine r_p (p_move rfl) rfl ?_
        refine r_p (p_bin rfl rfl (b_add (by first | exact w_i64 (by omega) (by omega) | rfl))) rfl ?_
        refine r_p (p_move rfl) rfl ?_
        refine r_call (xs := [.tmp 47]) (word_ex _ _ _ _ (by omega)) cb43 [0] [(false, 0)] [0] [] rfl rfl rfl rfl rfl rfl rfl rfl (fun _ _ => rfl) (fun _ _ _ => rfl) rfl (fun n48 hn48 => ?_)
        refine r_p (p_build (parts := [(0, .const (.int .i64 1)), (1, .tmp 46), (4, .tmp 48)]) t47 pl47 rfl rfl) rfl ?_
        refine r_bslice1 eOp (⟨1, 20 + n22, 0, 0, n48⟩ : OpR) Try.underlying26 t47 rfl (by decide) (by decide) rfl rfl rfl rfl fun v50 => ?_
        refine r_append 3 Try.underlying26 t47 rfl (by decide) (fun _ => rfl) (fun _ => rfl) rfl rfl rfl (hs_own (k := 50) rfl) (by first | omega | (simp; done) | (simp; omega)) (by unfold maxLen; first | omega | (simp; done) | (simp; omega)) rfl fun v51 => ?_
        refine r_p (p_assign rfl) rfl ?_
        refine r_nil ?_
        refine r_here (n22, _, _, _) ⟨by dsimp only; omega, by dsimp only; omega, by dsimp only; omega, by simp; omega⟩ rfl rfl rfl
      · (try simp only [decide_eq_true_eq, decide_eq_false_iff_not, Bool.and_eq_true, Bool.or_eq_true, Bool.and_eq_false_iff, Bool.or_eq_false_iff, Bool.not_eq_true, Bool.not_eq_false, Bool.not_eq_true', Bool.not_eq_false', Bool.not_not, bne_iff_ne, beq_iff_eq] at h2)
        refine r_seq ?_
        refine r_region ?_
        refine r_p (p_bin rfl rfl b_eq) rfl ?_
        refine r_p (p_assign rfl) rfl ?_
        refine r_nil ?_
        refine r_cond rfl (fun h3 => ?_) (fun h3 => ?_)
        · (try simp only [decide_eq_true_eq, decide_eq_false_iff_not, Bool.and_eq_true, Bool.or_eq_true, Bool.and_eq_false_iff, Bool.or_eq_false_iff, Bool.not_eq_true, Bool.not_eq_false, Bool.not_eq_true', Bool.not_eq_false', Bool.not_not, bne_iff_ne, beq_iff_eq] at h3)
          refine r_region ?_
          refine r_p (p_move rfl) rfl ?_
          refine r_p (p_move rfl) rfl ?_
          refine r_call (xs := [.tmp 55, .const (.int .i64 2)]) (take_ex _ _ _ _ 2 (by omega) (by omega) (by omega)) cb35 [0] [(false, 0)] [0] [] rfl rfl rfl rfl rfl rfl rfl rfl (fun _ _ => rfl) (fun _ _ _ => rfl) rfl (fun n56 hn56 => ?_)
          refine r_p (p_bin rfl rfl (b_add (by first | exact w_i64 (by omega) (by omega) | rfl))) rfl ?_
          refine r_p (p_move rfl) rfl ?_
          refine r_p (p_bin rfl rfl (b_add (by first | exact w_i64 (by omega) (by omega) | rfl))) rfl ?_
          refine r_p (p_move rfl) rfl ?_
          refine r_p (p_move rfl) rfl ?_
          refine r_call (xs := [.tmp 61]) (word_ex _ _ _ _ (by omega)) cb43 [0] [(false, 0)] [0] [] rfl rfl rfl rfl rfl rfl rfl rfl (fun _ _ => rfl) (fun _ _ _ => rfl) rfl (fun n62 hn62 => ?_)
          refine r_p (p_build (parts := [(0, .tmp 57), (1, .tmp 59), (2, .tmp 60), (4, .tmp 62)]) t47 pl47 rfl rfl) rfl ?_
          refine r_bslice1 eOp (⟨16 + n56, 20 + n22, n25, 0, n62⟩ : OpR) Try.underlying26 t47 rfl (by decide) (by decide) rfl rfl rfl rfl fun v64 => ?_
          refine r_append 3 Try.underlying26 t47 rfl (by decide) (fun _ => rfl) (fun _ => rfl) rfl rfl rfl (hs_own (k := 64) rfl) (by first | omega | (simp; done) | (simp; omega)) (by unfold maxLen; first | omega | (simp; done) | (simp; omega)) rfl fun v65 => ?_
          refine r_p (p_assign rfl) rfl ?_
          refine r_nil ?_
          refine r_here (n22, _, _, _) ⟨by dsimp only; omega, by dsimp only; omega, by dsimp only; omega, by simp; omega⟩ rfl rfl rfl
        · (try simp only [decide_eq_true_eq, decide_eq_false_iff_not, Bool.and_eq_true, Bool.or_eq_true, Bool.and_eq_false_iff, Bool.or_eq_false_iff, Bool.not_eq_true, Bool.not_eq_false, Bool.not_eq_true', Bool.not_eq_false', Bool.not_not, bne_iff_ne, beq_iff_eq] at h3)
          refine r_seq ?_
          refine r_region ?_
          refine r_p (p_bin rfl rfl b_eq) rfl ?_
          refine r_p (p_assign rfl) rfl ?_
          refine r_nil ?_
          refine r_cond rfl (fun h4 => ?_) (fun h4 => ?_)
          · (try simp only [decide_eq_true_eq, decide_eq_false_iff_not, Bool.and_eq_true, Bool.or_eq_true, Bool.and_eq_false_iff, Bool.or_eq_false_iff, Bool.not_eq_true, Bool.not_eq_false, Bool.not_eq_true', Bool.not_eq_false', Bool.not_not, bne_iff_ne, beq_iff_eq] at h4)
            refine r_seq ?_
            refine r_region ?_
            refine r_p (p_move rfl) rfl ?_
            refine r_p (p_move rfl) rfl ?_
            refine r_p (p_build (parts := [(0, .const (.int .i64 21)), (2, .tmp 69)]) t47 pl47 rfl rfl) rfl ?_
            refine r_bslice1 eOp (⟨21, 0, n25, 0, 0⟩ : OpR) Try.underlying26 t47 rfl (by decide) (by decide) rfl rfl rfl rfl fun v71 => ?_
            refine r_append 3 Try.underlying26 t47 rfl (by decide) (fun _ => rfl) (fun _ => rfl) rfl rfl rfl (hs_own (k := 71) rfl) (by first | omega | (simp; done) | (simp; omega)) (by unfold maxLen; first | omega | (simp; done) | (simp; omega)) rfl fun v72 => ?_
            refine r_p (p_assign rfl) rfl ?_
            refine r_nil ?_
            refine r_region ?_
            refine r_p (p_assign rfl) rfl ?_
            refine r_nil ?_
            refine r_here (-1, _, _, _) ⟨by dsimp only; omega, by dsimp only; omega, by dsimp only; omega, by simp; omega⟩ rfl rfl rfl
          · (try simp only [decide_eq_true_eq, decide_eq_false_iff_not, Bool.and_eq_true, Bool.or_eq_true, Bool.and_eq_false_iff, Bool.or_eq_false_iff, Bool.not_eq_true, Bool.not_eq_false, Bool.not_eq_true', Bool.not_eq_false', Bool.not_not, bne_iff_ne, beq_iff_eq] at h4)
            refine r_seq ?_
            refine r_region ?_
            refine r_p (p_move rfl) rfl ?_
            refine r_p (p_loadA t75 rfl rfl (by simp) (g_arr (k := 4) rfl)) rfl ?_
            refine r_call (xs := [.tmp 28, .tmp 29]) (source_ex _ _ _ _ _ (by omega)) cb42 [0] [(false, 0)] [0] [] rfl rfl rfl rfl rfl rfl rfl rfl (fun _ _ => rfl) (fun _ _ _ => rfl) rfl (fun n30 hn30 => ?_)
            refine r_p (p_assign rfl) rfl ?_
            refine r_nil ?_
            refine r_region ?_
            refine r_p (p_move rfl) rfl ?_
            refine r_p (p_move rfl) rfl ?_
            refine r_call (xs := [.tmp 32, .const (.int .i64 13)]) (take_ex _ _ _ _ 13 (by omega) (by omega) (by omega)) cb35 [0] [(false, 0)] [0] [] rfl rfl rfl rfl rfl rfl rfl rfl (fun _ _ => rfl) (fun _ _ _ => rfl) rfl (fun n33 hn33 => ?_)
            refine r_p (p_bin rfl rfl (b_add (by first | exact w_i64 (by omega) (by omega) | rfl))) rfl ?_
            refine r_p (p_move rfl) rfl ?_
            refine r_p (p_bin rfl rfl (b_add (by first | exact w_i64 (by omega) (by omega) | rfl))) rfl ?_
            refine r_p (p_move rfl) rfl ?_
            refine r_p (p_move rfl) rfl ?_
            refine r_p (p_build (parts := [(0, .tmp 34), (1, .tmp 36), (2, .tmp 37), (3, .tmp 38)]) t47 pl47 rfl rfl) rfl ?_
            refine r_bslice1 eOp (⟨3 + n33, 20 + n22, n25, n30, 0⟩ : OpR) Try.underlying26 t47 rfl (by decide) (by decide) rfl rfl rfl rfl fun v40 => ?_
            refine r_append 3 Try.underlying26 t47 rfl (by decide) (fun _ => rfl) (fun _ => rfl) rfl rfl rfl (hs_own (k := 40) rfl) (by first | omega | (simp; done) | (simp; omega)) (by unfold maxLen; first | omega | (simp; done) | (simp; omega)) rfl fun v41 => ?_
            refine r_p (p_assign rfl) rfl ?_
            refine r_nil ?_
            refine r_here (n22, _, _, _) ⟨by dsimp only; omega, by dsimp only; omega, by dsimp only; omega, by simp; omega⟩ rfl rfl rfl
    · obtain ⟨ht1, ht2, hk', ho'⟩ := hc
      dsimp only at ht1 ht2 hk' ho' ⊢
      refine r_seq ?_
      refine r_region ?_
      refine r_p (p_move rfl) rfl ?_
      refine r_p (p_bin rfl rfl b_ge) rfl ?_
      refine r_nil ?_
      refine r_cond rfl (fun h5 => ?_) (fun h5 => ?_)
      · (try simp only [decide_eq_true_eq, decide_eq_false_iff_not, Bool.and_eq_true, Bool.or_eq_true, Bool.and_eq_false_iff, Bool.or_eq_false_iff, Bool.not_eq_true, Bool.not_eq_false, Bool.not_eq_true', Bool.not_eq_false', Bool.not_not, bne_iff_ne, beq_iff_eq] at h5)
        obtain ⟨tn, htn⟩ := Int.eq_ofNat_of_zero_le h5
        refine r_region ?_
        refine r_p (p_move rfl) rfl ?_
        refine r_p (p_idx_arr1 (j := t.toNat) Try.underlying75 t4 rfl rfl (by first | rfl | omega) (by first | omega | (simp; done) | (simp; omega))) rfl ?_
        refine r_store_arr (k := 4) t4 rfl rfl rfl rfl rfl (by omega) ?_
        refine r_nil ?_
        refine r_region ?_
        refine r_p (p_move rfl) rfl ?_
        refine r_p (p_bin rfl rfl (b_sub (by first | exact w_i64 (by omega) (by omega) | rfl))) rfl ?_
        refine r_p (p_assign rfl) rfl ?_
        refine r_nil ?_
        refine r_here (i - 1, k', ops', bset wr t.toNat true, v3') ⟨⟨by dsimp only; omega, by dsimp only; omega, by dsimp only; omega, by dsimp only; omega⟩, by dsimp only; omega⟩ rfl (by first | rfl | (rw [← fset_bool]; rfl)) rfl
      · (try simp only [decide_eq_true_eq, decide_eq_false_iff_not, Bool.and_eq_true, Bool.or_eq_true, Bool.and_eq_false_iff, Bool.or_eq_false_iff, Bool.not_eq_true, Bool.not_eq_false, Bool.not_eq_true', Bool.not_eq_false', Bool.not_not, bne_iff_ne, beq_iff_eq] at h5)
        refine r_skip ?_
        refine r_region ?_
        refine r_p (p_move rfl) rfl ?_
        refine r_p (p_bin rfl rfl (b_sub (by first | exact w_i64 (by omega) (by omega) | rfl))) rfl ?_
        refine r_p (p_assign rfl) rfl ?_
        refine r_nil ?_
        refine r_here (i - 1, k', ops', wr, v3') ⟨⟨by dsimp only; omega, by dsimp only; omega, by dsimp only; omega, by dsimp only; omega⟩, by dsimp only; omega⟩ rfl (by first | rfl | (rw [← fset_bool]; rfl)) rfl
  · (try simp only [decide_eq_true_eq, decide_eq_false_iff_not, Bool.and_eq_true, Bool.or_eq_true, Bool.and_eq_false_iff, Bool.or_eq_false_iff, Bool.not_eq_true, Bool.not_eq_false, Bool.not_eq_true', Bool.not_eq_false', Bool.not_not, bne_iff_ne, beq_iff_eq] at h1)
    refine r_exit ?_
    refine r_seq_cut (X := Nat × List OpR × SV) (fun x => x.1 ≤ k0 + 29 ∧ x.2.1.length ≤ 4) (fun x => [(0, .pointer (some ⟨b, 0, none⟩)), (4, .pointer (some ⟨b4, 0, none⟩)), (3, sv x.2.2)]) (fun x => [(0, row b 64 [sv vs, .int .i64 ((x.1 : Nat) : Int)]), (4, arr b4 75 8 (fun j => .bool (wr j))), (3, own 47 5 eOp (sv x.2.2) x.2.1)]) (fun x => [(0, sl 1 eI (sv vs) s)]) ?_ (fun ⟨k2, ops2, v32⟩ hc2 => ?_)
    · refine r_seq ?_
      refine r_region ?_
      refine r_p (p_move rfl) rfl ?_
      refine r_call (xs := [.tmp 77, .const (.int .i64 4)]) (take_ex _ _ _ _ 4 (by omega) (by omega) (by omega)) cb35 [0] [(false, 0)] [0] [] rfl rfl rfl rfl rfl rfl rfl rfl (fun _ _ => rfl) (fun _ _ _ => rfl) rfl (fun n78 hn78 => ?_)
      refine r_p (p_bin rfl rfl b_eq) rfl ?_
      refine r_nil ?_
      refine r_cond rfl (fun h6 => ?_) (fun h6 => ?_)
      · (try simp only [decide_eq_true_eq, decide_eq_false_iff_not, Bool.and_eq_true, Bool.or_eq_true, Bool.and_eq_false_iff, Bool.or_eq_false_iff, Bool.not_eq_true, Bool.not_eq_false, Bool.not_eq_true', Bool.not_eq_false', Bool.not_not, bne_iff_ne, beq_iff_eq] at h6)
        refine r_seq ?_
        refine r_region ?_
        refine r_p (p_move rfl) rfl ?_
        refine r_p (p_loadA t75 rfl rfl (by simp) (g_arr (k := 4) rfl)) rfl ?_
        refine r_call (xs := [.tmp 80, .tmp 81]) (source_ex _ _ _ _ _ (by omega)) cb42 [0] [(false, 0)] [0] [] rfl rfl rfl rfl rfl rfl rfl rfl (fun _ _ => rfl) (fun _ _ _ => rfl) rfl (fun n82 hn82 => ?_)
        refine r_p (p_assign rfl) rfl ?_
        refine r_nil ?_
        refine r_seq ?_
        refine r_region ?_
        refine r_p (p_move rfl) rfl ?_
        refine r_p (p_loadA t75 rfl rfl (by simp) (g_arr (k := 4) rfl)) rfl ?_
        refine r_call (xs := [.tmp 83, .tmp 84]) (source_ex _ _ _ _ _ (by omega)) cb42 [0] [(false, 0)] [0] [] rfl rfl rfl rfl rfl rfl rfl rfl (fun _ _ => rfl) (fun _ _ _ => rfl) rfl (fun n85 hn85 => ?_)
        refine r_p (p_assign rfl) rfl ?_
        refine r_nil ?_
        refine r_region ?_
        refine r_p (p_move rfl) rfl ?_
        refine r_p (p_move rfl) rfl ?_
        refine r_call (xs := [.tmp 87, .const (.int .i64 2)]) (take_ex _ _ _ _ 2 (by omega) (by omega) (by omega)) cb35 [0] [(false, 0)] [0] [] rfl rfl rfl rfl rfl rfl rfl rfl (fun _ _ => rfl) (fun _ _ _ => rfl) rfl (fun n88 hn88 => ?_)
        refine r_p (p_bin rfl rfl (b_add (by first | exact w_i64 (by omega) (by omega) | rfl))) rfl ?_
        refine r_p (p_move rfl) rfl ?_
        refine r_p (p_move rfl) rfl ?_
        refine r_p (p_move rfl) rfl ?_
        refine r_call (xs := [.tmp 92]) (word_ex _ _ _ _ (by omega)) cb43 [0] [(false, 0)] [0] [] rfl rfl rfl rfl rfl rfl rfl rfl (fun _ _ => rfl) (fun _ _ _ => rfl) rfl (fun n93 hn93 => ?_)
        refine r_p (p_build (parts := [(0, .tmp 89), (2, .tmp 90), (3, .tmp 91), (4, .tmp 93)]) t47 pl47 rfl rfl) rfl ?_
        refine r_bslice1 eOp (⟨18 + n88, 0, n82, n85, n93⟩ : OpR) Try.underlying26 t47 rfl (by decide) (by decide) rfl rfl rfl rfl fun v95 => ?_
        refine r_append 3 Try.underlying26 t47 rfl (by decide) (fun _ => rfl) (fun _ => rfl) rfl rfl rfl (hs_own (k := 95) rfl) (by first | omega | (simp; done) | (simp; omega)) (by unfold maxLen; first | omega | (simp; done) | (simp; omega)) rfl fun v96 => ?_
        refine r_p (p_assign rfl) rfl ?_
        refine r_nil ?_
        refine r_here (_, _, _) ⟨by dsimp only; omega, by simp; omega⟩ rfl rfl rfl
      · (try simp only [decide_eq_true_eq, decide_eq_false_iff_not, Bool.and_eq_true, Bool.or_eq_true, Bool.and_eq_false_iff, Bool.or_eq_false_iff, Bool.not_eq_true, Bool.not_eq_false, Bool.not_eq_true', Bool.not_eq_false', Bool.not_not, bne_iff_ne, beq_iff_eq] at h6)
        refine r_skip ?_
        refine r_here (_, _, _) ⟨by dsimp only; omega, by simp; omega⟩ rfl rfl rfl
    · obtain ⟨hk2, ho2⟩ := hc2
      dsimp only at hk2 ho2 ⊢
      refine r_seq ?_
      refine r_seq ?_
      refine r_region ?_
      refine r_p (p_move rfl) rfl ?_
      refine r_call (xs := [.tmp 97, .const (.int .i64 4)]) (take_ex _ _ _ _ 4 (by omega) (by omega) (by omega)) cb35 [0] [(false, 0)] [0] [] rfl rfl rfl rfl rfl rfl rfl rfl (fun _ _ => rfl) (fun _ _ _ => rfl) rfl (fun n98 hn98 => ?_)
      refine r_p (p_assign rfl) rfl ?_
      refine r_nil ?_
      refine r_block ?_
      refine r_loop (X := Int × Nat × List OpR × SV) (fun x => 0 ≤ x.1 ∧ x.1 ≤ 3 ∧ x.2.1 + 5 * x.1 ≤ k0 + 45 ∧ x.2.2.1.length + x.1 ≤ 7) (fun x => [(0, .pointer (some ⟨b, 0, none⟩)), (4, .pointer (some ⟨b4, 0, none⟩)), (3, sv x.2.2.2), (11, .int .i64 x.1)]) (fun x => [(0, row b 64 [sv vs, .int .i64 ((x.2.1 : Nat) : Int)]), (4, arr b4 75 8 (fun j => .bool (wr j))), (3, own 47 5 eOp (sv x.2.2.2) x.2.2.1)]) (fun x => [(0, sl 1 eI (sv vs) s)]) (fun x => x.1.toNat) (n98, k2 + 1, ops2, v32) ⟨by dsimp only; omega, by dsimp only; omega, by dsimp only; omega, by dsimp only; omega⟩ rfl rfl rfl (fun ⟨i3, k3, ops3, v33⟩ hx3 => ?_)
      obtain ⟨hi3a, hi3b, hk3, ho3⟩ := hx3
      dsimp only at hi3a hi3b hk3 ho3 ⊢
      refine r_seq ?_
      refine r_seq ?_
      refine r_region ?_
      refine r_p (p_move rfl) rfl ?_
      refine r_p (p_bin rfl rfl b_gt) rfl ?_
      refine r_nil ?_
      refine r_cond rfl (fun h7 => ?_) (fun h7 => ?_)
      · (try simp only [decide_eq_true_eq, decide_eq_false_iff_not, Bool.and_eq_true, Bool.or_eq_true, Bool.and_eq_false_iff, Bool.or_eq_false_iff, Bool.not_eq_true, Bool.not_eq_false, Bool.not_eq_true', Bool.not_eq_false', Bool.not_not, bne_iff_ne, beq_iff_eq] at h7)
        refine r_skip ?_
        refine r_seq ?_
        refine r_block ?_
        refine r_seq ?_
        refine r_region ?_
        refine r_p (p_move rfl) rfl ?_
        refine r_call (xs := [.tmp 103, .const (.int .i64 19)]) (take_ex _ _ _ _ 19 (by omega) (by omega) (by omega)) cb35 [0] [(false, 0)] [0] [] rfl rfl rfl rfl rfl rfl rfl rfl (fun _ _ => rfl) (fun _ _ _ => rfl) rfl (fun n104 hn104 => ?_)
        refine r_p (p_assign rfl) rfl ?_
        refine r_nil ?_
        refine r_seq ?_
        refine r_region ?_
        refine r_p (p_move rfl) rfl ?_
        refine r_p (p_loadA t75 rfl rfl (by simp) (g_arr (k := 4) rfl)) rfl ?_
        refine r_call (xs := [.tmp 105, .tmp 106]) (source_ex _ _ _ _ _ (by omega)) cb42 [0] [(false, 0)] [0] [] rfl rfl rfl rfl rfl rfl rfl rfl (fun _ _ => rfl) (fun _ _ _ => rfl) rfl (fun n107 hn107 => ?_)
        refine r_p (p_assign rfl) rfl ?_
        refine r_nil ?_
        refine r_seq ?_
        refine r_region ?_
        refine r_p (p_move rfl) rfl ?_
        refine r_call (xs := [.tmp 108, .const (.int .i64 4)]) (take_ex _ _ _ _ 4 (by omega) (by omega) (by omega)) cb35 [0] [(false, 0)] [0] [] rfl rfl rfl rfl rfl rfl rfl rfl (fun _ _ => rfl) (fun _ _ _ => rfl) rfl (fun n109 hn109 => ?_)
        refine r_nil ?_
        refine r_block ?_
        refine r_seq ?_
        refine r_region ?_
        refine r_p (p_bin rfl rfl b_eq) rfl ?_
        refine r_p (p_assign rfl) rfl ?_
        refine r_nil ?_
        refine r_cond rfl (fun h8 => ?_) (fun h8 => ?_)
        · (try simp only [decide_eq_true_eq, decide_eq_false_iff_not, Bool.and_eq_true, Bool.or_eq_true, Bool.and_eq_false_iff, Bool.or_eq_false_iff, Bool.not_eq_true, Bool.not_eq_false, Bool.not_eq_true', Bool.not_eq_false', Bool.not_not, bne_iff_ne, beq_iff_eq] at h8)
          refine r_region ?_
          refine r_p (p_move rfl) rfl ?_
          refine r_p (p_move rfl) rfl ?_
          refine r_p (p_move rfl) rfl ?_
          refine r_call (xs := [.tmp 127]) (word_ex _ _ _ _ (by omega)) cb43 [0] [(false, 0)] [0] [] rfl rfl rfl rfl rfl rfl rfl rfl (fun _ _ => rfl) (fun _ _ _ => rfl) rfl (fun n128 hn128 => ?_)
          refine r_p (p_build (parts := [(0, .const (.int .i64 1)), (1, .tmp 126), (4, .tmp 128)]) t47 pl47 rfl rfl) rfl ?_
          refine r_bslice1 eOp (⟨1, n104, 0, 0, n128⟩ : OpR) Try.underlying26 t47 rfl (by decide) (by decide) rfl rfl rfl rfl fun v130 => ?_
          refine r_append 3 Try.underlying26 t47 rfl (by decide) (fun _ => rfl) (fun _ => rfl) rfl rfl rfl (hs_own (k := 130) rfl) (by first | omega | (simp; done) | (simp; omega)) (by unfold maxLen; first | omega | (simp; done) | (simp; omega)) rfl fun v131 => ?_
          refine r_p (p_assign rfl) rfl ?_
          refine r_nil ?_
          refine r_region ?_
          refine r_p (p_move rfl) rfl ?_
          refine r_p (p_bin rfl rfl (b_sub (by first | exact w_i64 (by omega) (by omega) | rfl))) rfl ?_
          refine r_p (p_assign rfl) rfl ?_
          refine r_nil ?_
          refine r_here (i3 - 1, _, _, _) ⟨⟨by dsimp only; omega, by dsimp only; omega, by dsimp only; omega, by simp; omega⟩, by dsimp only; omega⟩ rfl rfl rfl
        · (try simp only [decide_eq_true_eq, decide_eq_false_iff_not, Bool.and_eq_true, Bool.or_eq_true, Bool.and_eq_false_iff, Bool.or_eq_false_iff, Bool.not_eq_true, Bool.not_eq_false, Bool.not_eq_true', Bool.not_eq_false', Bool.not_not, bne_iff_ne, beq_iff_eq] at h8)
          refine r_seq ?_
          refine r_region ?_
          refine r_p (p_bin rfl rfl b_eq) rfl ?_
          refine r_p (p_assign rfl) rfl ?_
          refine r_nil ?_
          refine r_cond rfl (fun h9 => ?_) (fun h9 => ?_)
          · (try simp only [decide_eq_true_eq, decide_eq_false_iff_not, Bool.and_eq_true, Bool.or_eq_true, Bool.and_eq_false_iff, Bool.or_eq_false_iff, Bool.not_eq_true, Bool.not_eq_false, Bool.not_eq_true', Bool.not_eq_false', Bool.not_not, bne_iff_ne, beq_iff_eq] at h9)
            refine r_region ?_
            refine r_p (p_move rfl) rfl ?_
            refine r_p (p_move rfl) rfl ?_
            refine r_p (p_move rfl) rfl ?_
            refine r_p (p_build (parts := [(0, .const (.int .i64 2)), (1, .tmp 135), (2, .tmp 136)]) t47 pl47 rfl rfl) rfl ?_
            refine r_bslice1 eOp (⟨2, n104, n107, 0, 0⟩ : OpR) Try.underlying26 t47 rfl (by decide) (by decide) rfl rfl rfl rfl fun v138 => ?_
            refine r_append 3 Try.underlying26 t47 rfl (by decide) (fun _ => rfl) (fun _ => rfl) rfl rfl rfl (hs_own (k := 138) rfl) (by first | omega | (simp; done) | (simp; omega)) (by unfold maxLen; first | omega | (simp; done) | (simp; omega)) rfl fun v139 => ?_
            refine r_p (p_assign rfl) rfl ?_
            refine r_nil ?_
            refine r_region ?_
            refine r_p (p_move rfl) rfl ?_
            refine r_p (p_bin rfl rfl (b_sub (by first | exact w_i64 (by omega) (by omega) | rfl))) rfl ?_
            refine r_p (p_assign rfl) rfl ?_
            refine r_nil ?_
            refine r_here (i3 - 1, _, _, _) ⟨⟨by dsimp only; omega, by dsimp only; omega, by dsimp only; omega, by simp; omega⟩, by dsimp only; omega⟩ rfl rfl rfl
          · (try simp only [decide_eq_true_eq, decide_eq_false_iff_not, Bool.and_eq_true, Bool.or_eq_true, Bool.and_eq_false_iff, Bool.or_eq_false_iff, Bool.not_eq_true, Bool.not_eq_false, Bool.not_eq_true', Bool.not_eq_false', Bool.not_not, bne_iff_ne, beq_iff_eq] at h9)
            refine r_seq ?_
            refine r_region ?_
            refine r_p (p_move rfl) rfl ?_
            refine r_p (p_loadA t75 rfl rfl (by simp) (g_arr (k := 4) rfl)) rfl ?_
            refine r_call (xs := [.tmp 110, .tmp 111]) (source_ex _ _ _ _ _ (by omega)) cb42 [0] [(false, 0)] [0] [] rfl rfl rfl rfl rfl rfl rfl rfl (fun _ _ => rfl) (fun _ _ _ => rfl) rfl (fun n112 hn112 => ?_)
            refine r_p (p_assign rfl) rfl ?_
            refine r_nil ?_
            refine r_region ?_
            refine r_p (p_move rfl) rfl ?_
            refine r_p (p_move rfl) rfl ?_
            refine r_call (xs := [.tmp 114, .const (.int .i64 13)]) (take_ex _ _ _ _ 13 (by omega) (by omega) (by omega)) cb35 [0] [(false, 0)] [0] [] rfl rfl rfl rfl rfl rfl rfl rfl (fun _ _ => rfl) (fun _ _ _ => rfl) rfl (fun n115 hn115 => ?_)
            refine r_p (p_bin rfl rfl (b_add (by first | exact w_i64 (by omega) (by omega) | rfl))) rfl ?_
            refine r_p (p_move rfl) rfl ?_
            refine r_p (p_move rfl) rfl ?_
            refine r_p (p_move rfl) rfl ?_
            refine r_p (p_build (parts := [(0, .tmp 116), (1, .tmp 117), (2, .tmp 118), (3, .tmp 119)]) t47 pl47 rfl rfl) rfl ?_
            refine r_bslice1 eOp (⟨3 + n115, n104, n107, n112, 0⟩ : OpR) Try.underlying26 t47 rfl (by decide) (by decide) rfl rfl rfl rfl fun v121 => ?_
            refine r_append 3 Try.underlying26 t47 rfl (by decide) (fun _ => rfl) (fun _ => rfl) rfl rfl rfl (hs_own (k := 121) rfl) (by first | omega | (simp; done) | (simp; omega)) (by unfold maxLen; first | omega | (simp; done) | (simp; omega)) rfl fun v122 => ?_
            refine r_p (p_assign rfl) rfl ?_
            refine r_nil ?_
            refine r_region ?_
            refine r_p (p_move rfl) rfl ?_
            refine r_p (p_bin rfl rfl (b_sub (by first | exact w_i64 (by omega) (by omega) | rfl))) rfl ?_
            refine r_p (p_assign rfl) rfl ?_
            refine r_nil ?_
            refine r_here (i3 - 1, _, _, _) ⟨⟨by dsimp only; omega, by dsimp only; omega, by dsimp only; omega, by simp; omega⟩, by dsimp only; omega⟩ rfl rfl rfl
      · (try simp only [decide_eq_true_eq, decide_eq_false_iff_not, Bool.and_eq_true, Bool.or_eq_true, Bool.and_eq_false_iff, Bool.or_eq_false_iff, Bool.not_eq_true, Bool.not_eq_false, Bool.not_eq_true', Bool.not_eq_false', Bool.not_not, bne_iff_ne, beq_iff_eq] at h7)
        refine r_exit ?_
        refine r_seq ?_
        refine r_region ?_
        refine r_p (p_move rfl) rfl ?_
        refine r_p (p_assign rfl) rfl ?_
        refine r_nil ?_
        refine r_cret ?_
        refine r_ret (_, _, _) ⟨by dsimp only; omega, by dsimp only; omega⟩ rfl (rs1 (rv_tmp rfl)) rfl [0, 3] [] rfl rfl rfl

end Go.Proofs.Ytfdbkclbcajkiaa
