/-
  The reader: taking bytes. No condition.
-/
import Derived.Test.YtohenjmkhncoiaaYC
namespace Go.Proofs.Ytohenjmkhncoiaa
set_option linter.unusedSimpArgs false
set_option linter.unusedVariables false
open Go.RowKit

/-- Whether a reader fails that is to take n bytes. -/
def tkO (s : ByteArray) (bad : Bool) (n : Int) : Bool := bad || decide (n < 0 ∨ (s.size : Int) < n)
def rdC (s : ByteArray) (bad : Bool) : List Value := [.string s, .bool bad]

set_option maxRecDepth 100000 in
theorem take_spec (W : Nat) (s : ByteArray) (bad : Bool) (n : Int) :
    Spec Try.prog 55 [.pointer (some ⟨W, 0, none⟩), .int .i64 n] [row W 113 (rdC s bad)] [] (X := Unit) (fun _ => True) (fun _ => .string (if tkO s bad n = true then ByteArray.empty else s.extract 0 n.toNat)) (fun _ => [row W 113 (rdC (if tkO s bad n = true then s else s.extract n.toNat s.size) (tkO s bad n))]) (fun _ => []) := by
  refine r_enter Try.func55 rfl Try.ntmps55 rfl fun w0 M H => ?_
  refine r_seq ?_
  refine r_region ?_
  refine r_p (p_assign rfl) rfl ?_
  refine r_nil ?_
  refine r_seq ?_
  refine r_seq ?_
  refine r_region ?_
  refine r_p (p_move rfl) rfl ?_
  refine r_p (p_bin rfl rfl b_lt) rfl ?_
  refine r_p (p_move rfl) rfl ?_
  refine r_gp [] rfl rfl trivial (fun hg1 => p_move rfl) rfl ?_
  refine r_gp [(9, _)] rfl rfl ⟨rfl, trivial⟩ (fun hg2 => p_move rfl) rfl ?_
  refine r_gp [(9, _), (10, _)] rfl rfl ⟨rfl, rfl, trivial⟩ (fun hg3 => p_nilCheck rfl) rfl ?_
  refine r_gp [(9, _), (10, _), (11, _)] rfl rfl ⟨rfl, rfl, rfl, trivial⟩ (fun hg4 => p_field0 fo113_0 rfl) rfl ?_
  refine r_gp [(9, _), (10, _), (11, _), (12, _)] rfl rfl ⟨rfl, rfl, rfl, rfl, trivial⟩ (fun hg5 => p_load1 t9 rfl rfl (g_row1 (k := 0) rfl rfl)) rfl ?_
  refine r_gp [(9, _), (10, _), (11, _), (12, _), (13, _)] rfl rfl ⟨rfl, rfl, rfl, rfl, rfl, trivial⟩ (fun hg6 => p_len_str Try.underlying9 rfl) rfl ?_
  refine r_gp [(9, _), (10, _), (11, _), (12, _), (13, _), (14, _)] rfl rfl ⟨rfl, rfl, rfl, rfl, rfl, rfl, trivial⟩ (fun hg7 => p_bin rfl rfl b_gt) rfl ?_
  refine r_p (p_pick rfl rfl rfl (by first | exact pick_and | exact pick_or |  rfl)) rfl ?_
  refine r_nil ?_
  refine r_cond rfl (fun h8 => ?_) (fun h8 => ?_)
  · (try simp only [decide_eq_true_eq, decide_eq_false_iff_not, Bool.and_eq_true, Bool.or_eq_true, Bool.and_eq_false_iff, Bool.or_eq_false_iff, Bool.not_eq_true, Bool.not_eq_false, Bool.not_eq_true', Bool.not_eq_false', Bool.not_not, bne_iff_ne, beq_iff_eq] at h8)
    have hn : n < 0 ∨ (s.size : Int) < n := by omega
    refine r_region ?_
    refine r_p (p_move rfl) rfl ?_
    refine r_p (p_nilCheck rfl) rfl ?_
    refine r_p (p_field0 fo113_1 rfl) rfl ?_
    refine r_store_row (k := 0) t4 rfl rfl rfl rfl rfl rfl rfl rfl ?_
    refine r_nil ?_
    refine r_seq ?_
    refine r_seq ?_
    refine r_region ?_
    refine r_p (p_move rfl) rfl ?_
    refine r_p (p_nilCheck rfl) rfl ?_
    refine r_p (p_field0 fo113_1 rfl) rfl ?_
    refine r_p (p_load1 t4 rfl rfl (g_row1 (k := 0) rfl rfl)) rfl ?_
    refine r_nil ?_
    refine r_cond rfl (fun h9 => ?_) (fun h9 => ?_)
    · (try simp only [decide_eq_true_eq, decide_eq_false_iff_not, Bool.and_eq_true, Bool.or_eq_true, Bool.and_eq_false_iff, Bool.or_eq_false_iff, Bool.not_eq_true, Bool.not_eq_false, Bool.not_eq_true', Bool.not_eq_false', Bool.not_not, bne_iff_ne, beq_iff_eq] at h9)
      refine r_seq ?_
      refine r_region ?_
      refine r_p (p_assign rfl) rfl ?_
      refine r_nil ?_
      refine r_cret ?_
      have ho : tkO s bad n = true := by unfold tkO; rw [decide_eq_true hn]; cases bad <;> rfl
      refine r_ret () trivial rfl (rs1 (rv_tmp rfl)) (by rw [ho, if_pos rfl] <;> rfl) [0] [] rfl (by rw [ho, if_pos rfl] <;> rfl) rfl
    · exact absurd h9 (by simp)
  · (try simp only [decide_eq_true_eq, decide_eq_false_iff_not, Bool.and_eq_true, Bool.or_eq_true, Bool.and_eq_false_iff, Bool.or_eq_false_iff, Bool.not_eq_true, Bool.not_eq_false, Bool.not_eq_true', Bool.not_eq_false', Bool.not_not, bne_iff_ne, beq_iff_eq] at h8)
    have hn : ¬ (n < 0 ∨ (s.size : Int) < n) := by omega
    refine r_skip ?_
    refine r_seq ?_
    refine r_seq ?_
    refine r_region ?_
    refine r_p (p_move rfl) rfl ?_
    refine r_p (p_nilCheck rfl) rfl ?_
    refine r_p (p_field0 fo113_1 rfl) rfl ?_
    refine r_p (p_load1 t4 rfl rfl (g_row1 (k := 0) rfl rfl)) rfl ?_
    refine r_nil ?_
    refine r_cond rfl (fun h10 => ?_) (fun h10 => ?_)
    · have hq : bad = true := h10
      subst hq
      refine r_seq ?_
      refine r_region ?_
      refine r_p (p_assign rfl) rfl ?_
      refine r_nil ?_
      refine r_cret ?_
      have ho : tkO s true n = true := by unfold tkO; rfl
      refine r_ret () trivial rfl (rs1 (rv_tmp rfl)) (by rw [ho, if_pos rfl] <;> rfl) [0] [] rfl (by rw [ho, if_pos rfl] <;> rfl) rfl
    · have hq : bad = false := h10
      subst hq
      refine r_skip ?_
      refine r_seq ?_
      refine r_region ?_
      refine r_p (p_move rfl) rfl ?_
      refine r_p (p_nilCheck rfl) rfl ?_
      refine r_p (p_field0 fo113_0 rfl) rfl ?_
      refine r_p (p_load1 t9 rfl rfl (g_row1 (k := 0) rfl rfl)) rfl ?_
      refine r_p (p_move rfl) rfl ?_
      refine r_p (p_slice_strhi Try.underlying9 rfl rfl (by omega) (by omega)) rfl ?_
      refine r_p (p_assign rfl) rfl ?_
      refine r_nil ?_
      refine r_seq ?_
      refine r_region ?_
      refine r_p (p_move rfl) rfl ?_
      refine r_p (p_move rfl) rfl ?_
      refine r_p (p_nilCheck rfl) rfl ?_
      refine r_p (p_field0 fo113_0 rfl) rfl ?_
      refine r_p (p_load1 t9 rfl rfl (g_row1 (k := 0) rfl rfl)) rfl ?_
      refine r_p (p_move rfl) rfl ?_
      refine r_p (p_slice_strlo Try.underlying9 rfl rfl (by omega) (by omega)) rfl ?_
      refine r_p (p_nilCheck rfl) rfl ?_
      refine r_p (p_field0 fo113_0 rfl) rfl ?_
      refine r_store_row (k := 0) t9 rfl rfl rfl rfl rfl rfl rfl rfl ?_
      refine r_nil ?_
      refine r_seq ?_
      refine r_region ?_
      refine r_p (p_move rfl) rfl ?_
      refine r_p (p_assign rfl) rfl ?_
      refine r_nil ?_
      refine r_cret ?_
      have ho : tkO s false n = false := by unfold tkO; rw [decide_eq_false hn]; rfl
      refine r_ret () trivial rfl (rs1 (rv_tmp rfl)) (by rw [ho, if_neg (by simp)] <;> rfl) [0] [] rfl (by rw [ho, if_neg (by simp)] <;> rfl) rfl

end Go.Proofs.Ytohenjmkhncoiaa
