/-
  The model of the disk: reading, arming. No condition.
-/
import Derived.Test.YtohenjmkhncoiaaY4
namespace Go.Proofs.Ytohenjmkhncoiaa
set_option linter.unusedSimpArgs false
set_option linter.unusedVariables false
open Go.RowKit

/-- What reading the model answers. -/
def rrF (off : Bool) (old new : List ByteArray) (has : List Bool) (n : Int) : ByteArray × Int :=
  if off = true then (ByteArray.empty, 50) else if n < 0 ∨ (old.length : Int) ≤ n then (ByteArray.empty, 1) else
    if has.getD n.toNat false = true then (new.getD n.toNat ByteArray.empty, 0) else (old.getD n.toNat ByteArray.empty, 0)
def flO (off : Bool) (left : Int) : Bool := off || decide (left = 0)
def flL (left : Int) : Int := if left > 0 then left - 1 else left

set_option maxRecDepth 100000 in
theorem fails_spec (r : Nat) (vo vn vh : SV) (off : Bool) (left : Int) (hl : left < 9223372036854775808) :
    Spec Try.prog 46 [.pointer (some ⟨r, 0, none⟩)] [row r 44 (rC vo vn vh off left)] [] (X := Unit) (fun _ => True) (fun _ => .bool (flO off left)) (fun _ => [row r 44 (rC vo vn vh (flO off left) (flL left))]) (fun _ => []) := by
  refine r_enter Try.func46 rfl Try.ntmps46 rfl fun w0 M H => ?_
  refine r_seq ?_
  refine r_region ?_
  refine r_p (p_assign rfl) rfl ?_
  refine r_nil ?_
  refine r_seq ?_
  refine r_seq ?_
  refine r_region ?_
  refine r_p (p_move rfl) rfl ?_
  refine r_p (p_nilCheck rfl) rfl ?_
  refine r_p (p_field0 fo44_4 rfl) rfl ?_
  refine r_p (p_load1 t3 rfl rfl (g_row1 (k := 0) rfl rfl)) rfl ?_
  refine r_p (p_bin rfl rfl b_eq) rfl ?_
  refine r_nil ?_
  refine r_cond rfl (fun h1 => ?_) (fun h1 => ?_)
  · (try simp only [decide_eq_true_eq, decide_eq_false_iff_not, Bool.and_eq_true, Bool.or_eq_true, Bool.and_eq_false_iff, Bool.or_eq_false_iff, Bool.not_eq_true, Bool.not_eq_false, Bool.not_eq_true', Bool.not_eq_false', Bool.not_not, bne_iff_ne, beq_iff_eq] at h1)
    have hq : left = 0 := h1
    have ho : flO off left = true := by unfold flO; simp [hq]
    refine r_region ?_
    refine r_p (p_move rfl) rfl ?_
    refine r_p (p_nilCheck rfl) rfl ?_
    refine r_p (p_field0 fo44_3 rfl) rfl ?_
    refine r_store_row (k := 0) t4 rfl rfl rfl rfl rfl rfl rfl rfl ?_
    refine r_nil ?_
    refine r_seq ?_
    refine r_seq ?_
    refine r_region ?_
    refine r_p (p_move rfl) rfl ?_
    refine r_p (p_nilCheck rfl) rfl ?_
    refine r_p (p_field0 fo44_4 rfl) rfl ?_
    refine r_p (p_load1 t3 rfl rfl (g_row1 (k := 0) rfl rfl)) rfl ?_
    refine r_p (p_bin rfl rfl b_gt) rfl ?_
    refine r_nil ?_
    refine r_cond rfl (fun h2 => ?_) (fun h2 => ?_)
    · (try simp only [decide_eq_true_eq, decide_eq_false_iff_not, Bool.and_eq_true, Bool.or_eq_true, Bool.and_eq_false_iff, Bool.or_eq_false_iff, Bool.not_eq_true, Bool.not_eq_false, Bool.not_eq_true', Bool.not_eq_false', Bool.not_not, bne_iff_ne, beq_iff_eq] at h2)
      have hll : flL left = left - 1 := if_pos h2
      refine r_region ?_
      refine r_p (p_move rfl) rfl ?_
      refine r_p (p_move rfl) rfl ?_
      refine r_p (p_nilCheck rfl) rfl ?_
      refine r_p (p_field0 fo44_4 rfl) rfl ?_
      refine r_p (p_load1 t3 rfl rfl (g_row1 (k := 0) rfl rfl)) rfl ?_
      refine r_p (p_bin rfl rfl (b_sub (by first | exact w_i64 (by omega) (by omega) | rfl))) rfl ?_
      refine r_p (p_nilCheck rfl) rfl ?_
      refine r_p (p_field0 fo44_4 rfl) rfl ?_
      refine r_store_row (k := 0) t3 rfl rfl rfl rfl rfl rfl rfl rfl ?_
      refine r_nil ?_
      refine r_seq ?_
      refine r_region ?_
      refine r_p (p_move rfl) rfl ?_
      refine r_p (p_nilCheck rfl) rfl ?_
      refine r_p (p_field0 fo44_3 rfl) rfl ?_
      refine r_p (p_load1 t4 rfl rfl (g_row1 (k := 0) rfl rfl)) rfl ?_
      refine r_p (p_assign rfl) rfl ?_
      refine r_nil ?_
      refine r_cret ?_
      refine r_ret () trivial rfl (rs1 (rv_tmp rfl)) (by rw [ho] <;> rfl) [0] [] rfl (by rw [ho, hll]; rfl) rfl
    · (try simp only [decide_eq_true_eq, decide_eq_false_iff_not, Bool.and_eq_true, Bool.or_eq_true, Bool.and_eq_false_iff, Bool.or_eq_false_iff, Bool.not_eq_true, Bool.not_eq_false, Bool.not_eq_true', Bool.not_eq_false', Bool.not_not, bne_iff_ne, beq_iff_eq] at h2)
      have hll : flL left = left := if_neg h2
      refine r_skip ?_
      refine r_seq ?_
      refine r_region ?_
      refine r_p (p_move rfl) rfl ?_
      refine r_p (p_nilCheck rfl) rfl ?_
      refine r_p (p_field0 fo44_3 rfl) rfl ?_
      refine r_p (p_load1 t4 rfl rfl (g_row1 (k := 0) rfl rfl)) rfl ?_
      refine r_p (p_assign rfl) rfl ?_
      refine r_nil ?_
      refine r_cret ?_
      refine r_ret () trivial rfl (rs1 (rv_tmp rfl)) (by rw [ho] <;> rfl) [0] [] rfl (by rw [ho, hll]; rfl) rfl
  · (try simp only [decide_eq_true_eq, decide_eq_false_iff_not, Bool.and_eq_true, Bool.or_eq_true, Bool.and_eq_false_iff, Bool.or_eq_false_iff, Bool.not_eq_true, Bool.not_eq_false, Bool.not_eq_true', Bool.not_eq_false', Bool.not_not, bne_iff_ne, beq_iff_eq] at h1)
    have hq : ¬ left = 0 := h1
    have ho : flO off left = off := by unfold flO; simp [hq]
    refine r_skip ?_
    refine r_seq ?_
    refine r_seq ?_
    refine r_region ?_
    refine r_p (p_move rfl) rfl ?_
    refine r_p (p_nilCheck rfl) rfl ?_
    refine r_p (p_field0 fo44_4 rfl) rfl ?_
    refine r_p (p_load1 t3 rfl rfl (g_row1 (k := 0) rfl rfl)) rfl ?_
    refine r_p (p_bin rfl rfl b_gt) rfl ?_
    refine r_nil ?_
    refine r_cond rfl (fun h3 => ?_) (fun h3 => ?_)
    · (try simp only [decide_eq_true_eq, decide_eq_false_iff_not, Bool.and_eq_true, Bool.or_eq_true, Bool.and_eq_false_iff, Bool.or_eq_false_iff, Bool.not_eq_true, Bool.not_eq_false, Bool.not_eq_true', Bool.not_eq_false', Bool.not_not, bne_iff_ne, beq_iff_eq] at h3)
      have hll : flL left = left - 1 := if_pos h3
      refine r_region ?_
      refine r_p (p_move rfl) rfl ?_
      refine r_p (p_move rfl) rfl ?_
      refine r_p (p_nilCheck rfl) rfl ?_
      refine r_p (p_field0 fo44_4 rfl) rfl ?_
      refine r_p (p_load1 t3 rfl rfl (g_row1 (k := 0) rfl rfl)) rfl ?_
      refine r_p (p_bin rfl rfl (b_sub (by first | exact w_i64 (by omega) (by omega) | rfl))) rfl ?_
      refine r_p (p_nilCheck rfl) rfl ?_
      refine r_p (p_field0 fo44_4 rfl) rfl ?_
      refine r_store_row (k := 0) t3 rfl rfl rfl rfl rfl rfl rfl rfl ?_
      refine r_nil ?_
      refine r_seq ?_
      refine r_region ?_
      refine r_p (p_move rfl) rfl ?_
      refine r_p (p_nilCheck rfl) rfl ?_
      refine r_p (p_field0 fo44_3 rfl) rfl ?_
      refine r_p (p_load1 t4 rfl rfl (g_row1 (k := 0) rfl rfl)) rfl ?_
      refine r_p (p_assign rfl) rfl ?_
      refine r_nil ?_
      refine r_cret ?_
      refine r_ret () trivial rfl (rs1 (rv_tmp rfl)) (by rw [ho] <;> rfl) [0] [] rfl (by rw [ho, hll]; rfl) rfl
    · (try simp only [decide_eq_true_eq, decide_eq_false_iff_not, Bool.and_eq_true, Bool.or_eq_true, Bool.and_eq_false_iff, Bool.or_eq_false_iff, Bool.not_eq_true, Bool.not_eq_false, Bool.not_eq_true', Bool.not_eq_false', Bool.not_not, bne_iff_ne, beq_iff_eq] at h3)
      have hll : flL left = left := if_neg h3
      refine r_skip ?_
      refine r_seq ?_
      refine r_region ?_
      refine r_p (p_move rfl) rfl ?_
      refine r_p (p_nilCheck rfl) rfl ?_
      refine r_p (p_field0 fo44_3 rfl) rfl ?_
      refine r_p (p_load1 t4 rfl rfl (g_row1 (k := 0) rfl rfl)) rfl ?_
      refine r_p (p_assign rfl) rfl ?_
      refine r_nil ?_
      refine r_cret ?_
      refine r_ret () trivial rfl (rs1 (rv_tmp rfl)) (by rw [ho] <;> rfl) [0] [] rfl (by rw [ho, hll]; rfl) rfl
set_option maxRecDepth 100000 in
theorem rarm_spec (r : Nat) (vo vn vh : SV) (off : Bool) (left : Int) (n : Int) :
    Spec Try.prog 24 [.pointer (some ⟨r, 0, none⟩), .int .i64 n] [row r 44 (rC vo vn vh off left)] [] (X := Unit) (fun _ => True) (fun _ => .tuple #[]) (fun _ => [row r 44 (rC vo vn vh off (if off = true then left else max n (-1)))]) (fun _ => []) := by
  refine r_enter Try.func24 rfl Try.ntmps24 rfl fun w0 M H => ?_
  refine r_seq ?_
  refine r_region ?_
  refine r_p (p_move rfl) rfl ?_
  refine r_p (p_nilCheck rfl) rfl ?_
  refine r_p (p_field0 fo44_3 rfl) rfl ?_
  refine r_p (p_load1 t4 rfl rfl (g_row1 (k := 0) rfl rfl)) rfl ?_
  refine r_p (p_not rfl) rfl ?_
  refine r_nil ?_
  refine r_cond rfl (fun h1 => ?_) (fun h1 => ?_)
  · have hq : off = false := by simpa using h1
    refine r_region ?_
    refine r_p (p_move rfl) rfl ?_
    refine r_p (p_move rfl) rfl ?_
    refine r_p (p_max rfl rfl rfl) rfl ?_
    refine r_p (p_nilCheck rfl) rfl ?_
    refine r_p (p_field0 fo44_4 rfl) rfl ?_
    refine r_store_row (k := 0) t3 rfl rfl rfl rfl rfl rfl rfl rfl ?_
    refine r_nil ?_
    refine r_end () trivial rfl rs0 rfl [0] [] rfl (by rw [hq]; rfl) rfl
  · have hq : off = true := by simpa using h1
    refine r_skip ?_
    refine r_end () trivial rfl rs0 rfl [0] [] rfl (by rw [hq]; rfl) rfl
set_option maxRecDepth 100000 in
theorem rread_spec (r : Nat) (vo vn vh : SV) (off : Bool) (left : Int) (old new : List ByteArray) (has : List Bool) (n : Int) (h1 : new.length = old.length) (h2 : has.length = old.length) :
    Spec Try.prog 28 [.pointer (some ⟨r, 0, none⟩), .int .i64 n] [] [row r 44 (rC vo vn vh off left), own 9 1 eS (sv vo) old, own 9 1 eS (sv vn) new, own 4 1 eB (sv vh) has] (X := Unit) (fun _ => True) (fun _ => .tuple #[.string (rrF off old new has n).1, .int .i64 (rrF off old new has n).2]) (fun _ => []) (fun _ => []) := by
  refine r_enter Try.func28 rfl Try.ntmps28 rfl fun w0 M H => ?_
  refine r_more 1 1 rfl (fun w G h _ => ⟨G, own_to_sl w G h, fun _ hb => hb⟩) ?_
  refine r_more 2 2 rfl (fun w G h _ => ⟨G, own_to_sl w G h, fun _ hb => hb⟩) ?_
  refine r_more 3 3 rfl (fun w G h _ => ⟨G, own_to_sl w G h, fun _ hb => hb⟩) ?_
  refine r_seq ?_
  refine r_region ?_
  refine r_p (p_assign rfl) rfl ?_
  refine r_p (p_assign rfl) rfl ?_
  refine r_nil ?_
  refine r_seq ?_
  refine r_seq ?_
  refine r_region ?_
  refine r_p (p_move rfl) rfl ?_
  refine r_p (p_nilCheck rfl) rfl ?_
  refine r_p (p_field0 fo44_3 rfl) rfl ?_
  refine r_p (p_load1 t4 rfl rfl (g_row1R (k := 0) rfl rfl)) rfl ?_
  refine r_nil ?_
  refine r_cond rfl (fun h1 => ?_) (fun h1 => ?_)
  · have hq : off = true := h1
    refine r_seq ?_
    refine r_region ?_
    refine r_p (p_assign rfl) rfl ?_
    refine r_p (p_assign rfl) rfl ?_
    refine r_nil ?_
    refine r_cret ?_
    refine r_ret () trivial rfl (rs2 (rv_tmp rfl) (rv_tmp rfl)) (by unfold rrF; rw [if_pos hq] <;> rfl) [] [] rfl rfl rfl
  · have hq : ¬ off = true := by simp [h1]
    refine r_skip ?_
    refine r_seq ?_
    refine r_seq ?_
    refine r_region ?_
    refine r_p (p_move rfl) rfl ?_
    refine r_p (p_bin rfl rfl b_lt) rfl ?_
    refine r_p (p_move rfl) rfl ?_
    refine r_gp [] rfl rfl trivial (fun hg2 => p_move rfl) rfl ?_
    refine r_gp [(13, _)] rfl rfl ⟨rfl, trivial⟩ (fun hg3 => p_move rfl) rfl ?_
    refine r_gp [(13, _), (14, _)] rfl rfl ⟨rfl, rfl, trivial⟩ (fun hg4 => p_nilCheck rfl) rfl ?_
    refine r_gp [(13, _), (14, _), (15, _)] rfl rfl ⟨rfl, rfl, rfl, trivial⟩ (fun hg5 => p_field0 fo44_0 rfl) rfl ?_
    refine r_gp [(13, _), (14, _), (15, _), (16, _)] rfl rfl ⟨rfl, rfl, rfl, rfl, trivial⟩ (fun hg6 => p_load1 t41 rfl rfl (g_row1R (k := 0) rfl rfl)) rfl ?_
    refine r_gp [(13, _), (14, _), (15, _), (16, _), (17, _)] rfl rfl ⟨rfl, rfl, rfl, rfl, rfl, trivial⟩ (fun hg7 => p_len_sl Try.underlying41 rfl (hs_sl (k := 1) rfl)) rfl ?_
    refine r_gp [(13, _), (14, _), (15, _), (16, _), (17, _), (18, _)] rfl rfl ⟨rfl, rfl, rfl, rfl, rfl, rfl, trivial⟩ (fun hg8 => p_bin rfl rfl b_ge) rfl ?_
    refine r_p (p_pick rfl rfl rfl (by first | exact pick_and | exact pick_or |  rfl)) rfl ?_
    refine r_nil ?_
    refine r_cond rfl (fun h9 => ?_) (fun h9 => ?_)
    · (try simp only [decide_eq_true_eq, decide_eq_false_iff_not, Bool.and_eq_true, Bool.or_eq_true, Bool.and_eq_false_iff, Bool.or_eq_false_iff, Bool.not_eq_true, Bool.not_eq_false, Bool.not_eq_true', Bool.not_eq_false', Bool.not_not, bne_iff_ne, beq_iff_eq] at h9)
      have hn : n < 0 ∨ (old.length : Int) ≤ n := by omega
      refine r_seq ?_
      refine r_region ?_
      refine r_p (p_assign rfl) rfl ?_
      refine r_p (p_assign rfl) rfl ?_
      refine r_nil ?_
      refine r_cret ?_
      refine r_ret () trivial rfl (rs2 (rv_tmp rfl) (rv_tmp rfl)) (by unfold rrF; rw [if_neg hq, if_pos hn] <;> rfl) [] [] rfl rfl rfl
    · (try simp only [decide_eq_true_eq, decide_eq_false_iff_not, Bool.and_eq_true, Bool.or_eq_true, Bool.and_eq_false_iff, Bool.or_eq_false_iff, Bool.not_eq_true, Bool.not_eq_false, Bool.not_eq_true', Bool.not_eq_false', Bool.not_not, bne_iff_ne, beq_iff_eq] at h9)
      have hn : ¬ (n < 0 ∨ (old.length : Int) ≤ n) := by omega
      refine r_skip ?_
      refine r_seq ?_
      refine r_seq ?_
      refine r_region ?_
      refine r_p (p_move rfl) rfl ?_
      refine r_p (p_nilCheck rfl) rfl ?_
      refine r_p (p_field0 fo44_2 rfl) rfl ?_
      refine r_p (p_load1 t42 rfl rfl (g_row1R (k := 0) rfl rfl)) rfl ?_
      refine r_p (p_move rfl) rfl ?_
      refine r_p (p_idx_sl (j := n.toNat) Try.underlying42 t4 rfl rfl (hs_sl (k := 3) rfl) (by first | rfl | omega) (by first | omega | (simp; done) | (simp; omega))) rfl ?_
      refine r_p (p_load1 t4 rfl rfl (g_el' (hs_sl (k := 3) rfl) (by intro _; rfl) (getD_get false (by omega)) (by rfl))) rfl ?_
      refine r_nil ?_
      refine r_cond rfl (fun h10 => ?_) (fun h10 => ?_)
      · have hp : has.getD n.toNat false = true := h10
        refine r_seq ?_
        refine r_region ?_
        refine r_p (p_move rfl) rfl ?_
        refine r_p (p_nilCheck rfl) rfl ?_
        refine r_p (p_field0 fo44_1 rfl) rfl ?_
        refine r_p (p_load1 t41 rfl rfl (g_row1R (k := 0) rfl rfl)) rfl ?_
        refine r_p (p_move rfl) rfl ?_
        refine r_p (p_idx_sl (j := n.toNat) Try.underlying41 t9 rfl rfl (hs_sl (k := 2) rfl) (by first | rfl | omega) (by first | omega | (simp; done) | (simp; omega))) rfl ?_
        refine r_p (p_load1 t9 rfl rfl (g_el' (hs_sl (k := 2) rfl) (by intro _; rfl) (getD_get ByteArray.empty (by omega)) (by rfl))) rfl ?_
        refine r_p (p_assign rfl) rfl ?_
        refine r_p (p_assign rfl) rfl ?_
        refine r_nil ?_
        refine r_cret ?_
        refine r_ret () trivial rfl (rs2 (rv_tmp rfl) (rv_tmp rfl)) (by unfold rrF; rw [if_neg hq, if_neg hn, if_pos hp] <;> rfl) [] [] rfl rfl rfl
      · have hp : ¬ has.getD n.toNat false = true := by rw [h10]; simp
        refine r_skip ?_
        refine r_seq ?_
        refine r_region ?_
        refine r_p (p_move rfl) rfl ?_
        refine r_p (p_nilCheck rfl) rfl ?_
        refine r_p (p_field0 fo44_0 rfl) rfl ?_
        refine r_p (p_load1 t41 rfl rfl (g_row1R (k := 0) rfl rfl)) rfl ?_
        refine r_p (p_move rfl) rfl ?_
        refine r_p (p_idx_sl (j := n.toNat) Try.underlying41 t9 rfl rfl (hs_sl (k := 1) rfl) (by first | rfl | omega) (by first | omega | (simp; done) | (simp; omega))) rfl ?_
        refine r_p (p_load1 t9 rfl rfl (g_el' (hs_sl (k := 1) rfl) (by intro _; rfl) (getD_get ByteArray.empty (by omega)) (by rfl))) rfl ?_
        refine r_p (p_assign rfl) rfl ?_
        refine r_p (p_assign rfl) rfl ?_
        refine r_nil ?_
        refine r_cret ?_
        refine r_ret () trivial rfl (rs2 (rv_tmp rfl) (rv_tmp rfl)) (by unfold rrF; rw [if_neg hq, if_neg hn, if_neg hp] <;> rfl) [] [] rfl rfl rfl

end Go.Proofs.Ytohenjmkhncoiaa
