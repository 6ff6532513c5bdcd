/-
  What the maker takes for a variable, and for a word. Condition: at most 900,000 numbers were taken.
-/
import Derived.Test.YtfdbkclbcajkiaaC2
namespace Go.Proofs.Ytfdbkclbcajkiaa
set_option linter.unusedSimpArgs false
set_option linter.unusedVariables false
open Go.RowKit

theorem take_ex (b : Nat) (vs : SV) (s : List Int) (k : Nat) (n : Int) (hn : 0 < n) (hn2 : n ≤ 1000000) (hk : k ≤ 1000000) :
    Spec Try.prog 35 [.pointer (some ⟨b, 0, none⟩), .int .i64 n] [row b 64 [sv vs, .int .i64 (k : Int)]] [sl 1 eI (sv vs) s] (X := Int) (fun x => 0 ≤ x ∧ x < n) (fun x => .int .i64 x) (fun _ => [row b 64 [sv vs, .int .i64 ((k + 1 : Nat) : Int)]]) (fun _ => []) :=
  (take_spec b vs s k n hn hn2 hk).mono fun _ _ => ⟨tk s k n, tk_bd s k hn, rfl, rfl, rfl⟩
def bset (wr : Nat → Bool) (i : Nat) (b : Bool) : Nat → Bool := fun j => if j = i then b else wr j
theorem fset_bool (wr : Nat → Bool) (i : Nat) (b : Bool) : fset (fun j => .bool (wr j)) i (.bool b) = fun j => .bool (bset wr i b j) := by
  funext j
  simp only [fset, bset]
  split <;> rfl

set_option maxRecDepth 100000 in
theorem source_ex (b : Nat) (vs : SV) (s : List Int) (k : Nat) (wr : Nat → Bool) (hk : k ≤ 1000000) :
    Spec Try.prog 42 [.pointer (some ⟨b, 0, none⟩), .agg ((List.range 8).map (fun j => .bool (wr j))).toArray] [row b 64 [sv vs, .int .i64 (k : Int)]] [sl 1 eI (sv vs) s] (X := Int) (fun x => 0 ≤ x ∧ x < 28) (fun x => .int .i64 x) (fun _ => [row b 64 [sv vs, .int .i64 ((k + 1 : Nat) : Int)]]) (fun _ => []) := by
  refine r_enter Try.func42 rfl Try.ntmps42 rfl fun w0 M H => ?_
  refine r_seq ?_
  refine r_region ?_
  refine r_box_arr rfl rfl fun b3 => ?_
  refine r_p (p_assign rfl) rfl ?_
  refine r_nil ?_
  refine r_seq ?_
  refine r_region ?_
  refine r_p (p_move rfl) rfl ?_
  refine r_call (xs := [.tmp 6, .const (.int .i64 27)]) (take_ex _ _ _ _ 27 (by omega) (by omega) (by omega)) cb35 [0] [(false, 0)] [0] [] rfl rfl rfl rfl rfl rfl rfl rfl (fun _ _ => rfl) (fun _ _ _ => rfl) rfl (fun n7 hn7 => ?_)
  refine r_p (p_assign rfl) rfl ?_
  refine r_nil ?_
  refine r_seq ?_
  refine r_seq ?_
  refine r_region ?_
  refine r_p (p_move rfl) rfl ?_
  refine r_p (p_bin rfl rfl b_lt) rfl ?_
  refine r_nil ?_
  refine r_cond rfl (fun h1 => ?_) (fun h1 => ?_)
  · (try simp only [decide_eq_true_eq, decide_eq_false_iff_not, Bool.and_eq_true, Bool.or_eq_true, Bool.and_eq_false_iff, Bool.or_eq_false_iff, Bool.not_eq_true, Bool.not_eq_false, Bool.not_eq_true', Bool.not_eq_false', Bool.not_not, bne_iff_ne, beq_iff_eq] at h1)
    refine r_seq ?_
    refine r_region ?_
    refine r_p (p_move rfl) rfl ?_
    refine r_p (p_assign rfl) rfl ?_
    refine r_nil ?_
    refine r_cret ?_
    refine r_ret n7 ⟨by omega, by omega⟩ rfl (rs1 (rv_tmp rfl)) rfl [0] [] rfl rfl rfl
  · (try simp only [decide_eq_true_eq, decide_eq_false_iff_not, Bool.and_eq_true, Bool.or_eq_true, Bool.and_eq_false_iff, Bool.or_eq_false_iff, Bool.not_eq_true, Bool.not_eq_false, Bool.not_eq_true', Bool.not_eq_false', Bool.not_not, bne_iff_ne, beq_iff_eq] at h1)
    have hj : 19 ≤ n7 := by omega
    refine r_skip ?_
    refine r_seq ?_
    refine r_seq ?_
    refine r_region ?_
    refine r_p (p_move rfl) rfl ?_
    refine r_p (p_bin rfl rfl (b_sub (by first | exact w_i64 (by omega) (by omega) | rfl))) rfl ?_
    refine r_p (p_idx_arr1 (j := (n7 - 19).toNat) Try.underlying75 t4 rfl rfl (by first | rfl | omega) (by first | omega | (simp; done) | (simp; omega))) rfl ?_
    refine r_p (p_load1 t4 rfl rfl (g_arr1 (k := 3) rfl (by omega))) rfl ?_
    refine r_nil ?_
    refine r_cond rfl (fun h2 => ?_) (fun h2 => ?_)
    · (try simp only [decide_eq_true_eq, decide_eq_false_iff_not, Bool.and_eq_true, Bool.or_eq_true, Bool.and_eq_false_iff, Bool.or_eq_false_iff, Bool.not_eq_true, Bool.not_eq_false, Bool.not_eq_true', Bool.not_eq_false', Bool.not_not, bne_iff_ne, beq_iff_eq] at h2)
      refine r_seq ?_
      refine r_region ?_
      refine r_p (p_move rfl) rfl ?_
      refine r_p (p_bin rfl rfl (b_add (by first | exact w_i64 (by omega) (by omega) | rfl))) rfl ?_
      refine r_p (p_assign rfl) rfl ?_
      refine r_nil ?_
      refine r_cret ?_
      refine r_ret (n7 + 1) ⟨by omega, by omega⟩ rfl (rs1 (rv_tmp rfl)) rfl [0] [] rfl rfl rfl
    · (try simp only [decide_eq_true_eq, decide_eq_false_iff_not, Bool.and_eq_true, Bool.or_eq_true, Bool.and_eq_false_iff, Bool.or_eq_false_iff, Bool.not_eq_true, Bool.not_eq_false, Bool.not_eq_true', Bool.not_eq_false', Bool.not_not, bne_iff_ne, beq_iff_eq] at h2)
      refine r_skip ?_
      refine r_seq ?_
      refine r_region ?_
      refine r_p (p_move rfl) rfl ?_
      refine r_p (p_bin rfl rfl (b_sub (by first | exact w_i64 (by omega) (by omega) | rfl))) rfl ?_
      refine r_p (p_assign rfl) rfl ?_
      refine r_nil ?_
      refine r_cret ?_
      refine r_ret (n7 - 19) ⟨by omega, by omega⟩ rfl (rs1 (rv_tmp rfl)) rfl [0] [] rfl rfl rfl
set_option maxRecDepth 100000 in
theorem word_ex (b : Nat) (vs : SV) (s : List Int) (k : Nat) (hk : k ≤ 900000) :
    Spec Try.prog 43 [.pointer (some ⟨b, 0, none⟩)] [row b 64 [sv vs, .int .i64 (k : Int)]] [sl 1 eI (sv vs) s] (X := Int) (fun x => 0 ≤ x ∧ x < 4294967296) (fun x => .int .u32 x) (fun _ => [row b 64 [sv vs, .int .i64 ((k + 2 : Nat) : Int)]]) (fun _ => []) := by
  refine r_enter Try.func43 rfl Try.ntmps43 rfl fun w0 M H => ?_
  refine r_seq ?_
  refine r_region ?_
  refine r_p (p_assign rfl) rfl ?_
  refine r_nil ?_
  refine r_seq ?_
  refine r_region ?_
  refine r_p (p_move rfl) rfl ?_
  refine r_call (xs := [.tmp 4, .const (.int .i64 65536)]) (take_ex _ _ _ _ 65536 (by omega) (by omega) (by omega)) cb35 [0] [(false, 0)] [0] [] rfl rfl rfl rfl rfl rfl rfl rfl (fun _ _ => rfl) (fun _ _ _ => rfl) rfl (fun n5 hn5 => ?_)
  refine r_p (p_conv Try.underlying3 Try.underlying45 rfl (by first | exact w_u32 (by omega) (by omega) | rfl)) rfl ?_
  refine r_p (p_assign rfl) rfl ?_
  refine r_nil ?_
  refine r_seq ?_
  refine r_seq ?_
  refine r_region ?_
  refine r_p (p_move rfl) rfl ?_
  refine r_call (xs := [.tmp 7, .const (.int .i64 4)]) (take_ex _ _ _ _ 4 (by omega) (by omega) (by omega)) cb35 [0] [(false, 0)] [0] [] rfl rfl rfl rfl rfl rfl rfl rfl (fun _ _ => rfl) (fun _ _ _ => rfl) rfl (fun n8 hn8 => ?_)
  refine r_nil ?_
  refine r_block ?_
  refine r_seq ?_
  refine r_region ?_
  refine r_p (p_bin rfl rfl b_eq) rfl ?_
  refine r_p (p_assign rfl) rfl ?_
  refine r_nil ?_
  refine r_cond rfl (fun h1 => ?_) (fun h1 => ?_)
  · (try simp only [decide_eq_true_eq, decide_eq_false_iff_not, Bool.and_eq_true, Bool.or_eq_true, Bool.and_eq_false_iff, Bool.or_eq_false_iff, Bool.not_eq_true, Bool.not_eq_false, Bool.not_eq_true', Bool.not_eq_false', Bool.not_not, bne_iff_ne, beq_iff_eq] at h1)
    refine r_seq ?_
    refine r_region ?_
    refine r_p (p_move rfl) rfl ?_
    refine r_p (p_bin rfl rfl (b_rem (by omega) (by first | exact tmod_pos (by omega) | rfl))) rfl ?_
    refine r_p (p_assign rfl) rfl ?_
    refine r_nil ?_
    refine r_cret ?_
    refine r_ret _ (by first | exact ⟨by omega, by omega⟩ | exact u32_wr _) rfl (rs1 (rv_tmp rfl)) rfl [0] [] rfl rfl rfl
  · (try simp only [decide_eq_true_eq, decide_eq_false_iff_not, Bool.and_eq_true, Bool.or_eq_true, Bool.and_eq_false_iff, Bool.or_eq_false_iff, Bool.not_eq_true, Bool.not_eq_false, Bool.not_eq_true', Bool.not_eq_false', Bool.not_not, bne_iff_ne, beq_iff_eq] at h1)
    refine r_seq ?_
    refine r_region ?_
    refine r_p (p_bin rfl rfl b_eq) rfl ?_
    refine r_p (p_assign rfl) rfl ?_
    refine r_nil ?_
    refine r_cond rfl (fun h2 => ?_) (fun h2 => ?_)
    · (try simp only [decide_eq_true_eq, decide_eq_false_iff_not, Bool.and_eq_true, Bool.or_eq_true, Bool.and_eq_false_iff, Bool.or_eq_false_iff, Bool.not_eq_true, Bool.not_eq_false, Bool.not_eq_true', Bool.not_eq_false', Bool.not_not, bne_iff_ne, beq_iff_eq] at h2)
      refine r_seq ?_
      refine r_region ?_
      refine r_p (p_move rfl) rfl ?_
      refine r_p (p_bin rfl rfl (b_rem (by omega) (by first | exact tmod_pos (by omega) | rfl))) rfl ?_
      refine r_p (p_bin rfl rfl (b_sub (by first | exact w_u32 (by omega) (by omega) | rfl))) rfl ?_
      refine r_p (p_assign rfl) rfl ?_
      refine r_nil ?_
      refine r_cret ?_
      refine r_ret _ (by first | exact ⟨by omega, by omega⟩ | exact u32_wr _) rfl (rs1 (rv_tmp rfl)) rfl [0] [] rfl rfl rfl
    · (try simp only [decide_eq_true_eq, decide_eq_false_iff_not, Bool.and_eq_true, Bool.or_eq_true, Bool.and_eq_false_iff, Bool.or_eq_false_iff, Bool.not_eq_true, Bool.not_eq_false, Bool.not_eq_true', Bool.not_eq_false', Bool.not_not, bne_iff_ne, beq_iff_eq] at h2)
      refine r_seq ?_
      refine r_region ?_
      refine r_p (p_bin rfl rfl b_eq) rfl ?_
      refine r_p (p_assign rfl) rfl ?_
      refine r_nil ?_
      refine r_cond rfl (fun h3 => ?_) (fun h3 => ?_)
      · (try simp only [decide_eq_true_eq, decide_eq_false_iff_not, Bool.and_eq_true, Bool.or_eq_true, Bool.and_eq_false_iff, Bool.or_eq_false_iff, Bool.not_eq_true, Bool.not_eq_false, Bool.not_eq_true', Bool.not_eq_false', Bool.not_not, bne_iff_ne, beq_iff_eq] at h3)
        refine r_seq ?_
        refine r_region ?_
        refine r_p (p_move rfl) rfl ?_
        refine r_p (p_bin rfl rfl (b_mul (by first | exact w_u32 (by omega) (by omega) | rfl))) rfl ?_
        refine r_p (p_assign rfl) rfl ?_
        refine r_nil ?_
        refine r_cret ?_
        refine r_ret _ (by first | exact ⟨by omega, by omega⟩ | exact u32_wr _) rfl (rs1 (rv_tmp rfl)) rfl [0] [] rfl rfl rfl
      · (try simp only [decide_eq_true_eq, decide_eq_false_iff_not, Bool.and_eq_true, Bool.or_eq_true, Bool.and_eq_false_iff, Bool.or_eq_false_iff, Bool.not_eq_true, Bool.not_eq_false, Bool.not_eq_true', Bool.not_eq_false', Bool.not_not, bne_iff_ne, beq_iff_eq] at h3)
        refine r_skip ?_
        refine r_seq ?_
        refine r_region ?_
        refine r_p (p_move rfl) rfl ?_
        refine r_p (p_bin rfl rfl (b_rem (by omega) (by first | exact tmod_pos (by omega) | rfl))) rfl ?_
        refine r_p (p_assign rfl) rfl ?_
        refine r_nil ?_
        refine r_cret ?_
        refine r_ret _ (by first | exact ⟨by omega, by omega⟩ | exact u32_wr _) rfl (rs1 (rv_tmp rfl)) rfl [0] [] rfl rfl rfl

end Go.Proofs.Ytfdbkclbcajkiaa
