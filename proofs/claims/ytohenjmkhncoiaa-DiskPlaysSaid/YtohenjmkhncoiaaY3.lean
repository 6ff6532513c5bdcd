/-
  The disk: reading, arming. No condition.
-/
import Derived.Test.YtohenjmkhncoiaaF
import Derived.Test.YtohenjmkhncoiaaKC
namespace Go.Proofs.Ytohenjmkhncoiaa
set_option linter.unusedSimpArgs false
set_option linter.unusedVariables false
open Go.RowKit

def mkI (n : Int) : Value := .int .i64 n
def vS (p : Int × ByteArray) : Value := .string p.2
theorem keyI : KeyLaw Try.prog 3 mkI := key_int Try.underlying3
/-- The cells of a disk, and of its model. -/
def dC (v : SV) (ob : Option Nat) (off armed : Bool) (left : Int) : List Value := [sv v, .map ob, .bool off, .bool armed, .int .i64 left]
def rC (vo vn vh : SV) (off : Bool) (left : Int) : List Value := [sv vo, sv vn, sv vh, .bool off, .int .i64 left]
/-- Whether the power is off after one more call. -/
def pwO (off armed : Bool) (left : Int) : Bool := off || (armed && decide (left = 0))
/-- What reading answers. -/
def rdF (off : Bool) (dur : List ByteArray) (fr : List (Int × ByteArray)) (n : Int) : ByteArray × Int :=
  if off = true then (ByteArray.empty, 50) else if n < 0 ∨ (dur.length : Int) ≤ n then (ByteArray.empty, 1) else
    match fr.find? (fun p => decide (p.1 = n)) with
    | some p => (p.2, 0)
    | none => (dur.getD n.toNat ByteArray.empty, 0)

set_option maxRecDepth 100000 in
theorem sectors_spec (D : Nat) (v : SV) (ob : Option Nat) (off armed : Bool) (left : Int) (dur : List ByteArray) :
    Spec Try.prog 29 [.pointer (some ⟨D, 0, none⟩)] [] [row D 94 (dC v ob off armed left), own 9 1 eS (sv v) dur] (X := Unit) (fun _ => True) (fun _ => .int .i64 (dur.length : Int)) (fun _ => []) (fun _ => []) := by
  refine r_enter Try.func29 rfl Try.ntmps29 rfl fun w0 M H => ?_
  refine r_more 1 1 rfl (fun w G h _ => ⟨G, own_to_sl w G h, fun _ hb => hb⟩) ?_
  refine r_seq ?_
  refine r_region ?_
  refine r_p (p_assign rfl) rfl ?_
  refine r_nil ?_
  refine r_seq ?_
  refine r_seq ?_
  refine r_region ?_
  refine r_p (p_move rfl) rfl ?_
  refine r_p (p_bin rfl rfl (b_eqPn Try.underlying24)) rfl ?_
  refine r_nil ?_
  refine r_cond rfl (fun h1 => ?_) (fun h1 => ?_)
  · exact absurd h1 (by simp)
  · (try simp only [decide_eq_true_eq, decide_eq_false_iff_not, Bool.and_eq_true, Bool.or_eq_true, Bool.and_eq_false_iff, Bool.or_eq_false_iff, Bool.not_eq_true, Bool.not_eq_false, Bool.not_eq_true', Bool.not_eq_false', Bool.not_not, bne_iff_ne, beq_iff_eq] at h1)
    refine r_skip ?_
    refine r_seq ?_
    refine r_region ?_
    refine r_p (p_move rfl) rfl ?_
    refine r_p (p_nilCheck rfl) rfl ?_
    refine r_p (p_field0 fo94_0 rfl) rfl ?_
    refine r_p (p_load1 t41 rfl rfl (g_row1R (k := 0) rfl rfl)) rfl ?_
    refine r_p (p_len_sl Try.underlying41 rfl (hs_sl (k := 1) rfl)) rfl ?_
    refine r_p (p_assign rfl) rfl ?_
    refine r_nil ?_
    refine r_cret ?_
    refine r_ret () trivial rfl (rs1 (rv_tmp rfl)) rfl [] [] rfl rfl rfl
set_option maxRecDepth 100000 in
theorem sectors_nil  :
    Spec Try.prog 29 [.pointer none] [] [] (X := Unit) (fun _ => True) (fun _ => .int .i64 0) (fun _ => []) (fun _ => []) := by
  refine r_enter Try.func29 rfl Try.ntmps29 rfl fun w0 M H => ?_
  refine r_seq ?_
  refine r_region ?_
  refine r_p (p_assign rfl) rfl ?_
  refine r_nil ?_
  refine r_seq ?_
  refine r_seq ?_
  refine r_region ?_
  refine r_p (p_move rfl) rfl ?_
  refine r_p (p_bin rfl rfl (b_eqPn Try.underlying24)) rfl ?_
  refine r_nil ?_
  refine r_cond rfl (fun h1 => ?_) (fun h1 => ?_)
  · (try simp only [decide_eq_true_eq, decide_eq_false_iff_not, Bool.and_eq_true, Bool.or_eq_true, Bool.and_eq_false_iff, Bool.or_eq_false_iff, Bool.not_eq_true, Bool.not_eq_false, Bool.not_eq_true', Bool.not_eq_false', Bool.not_not, bne_iff_ne, beq_iff_eq] at h1)
    refine r_seq ?_
    refine r_region ?_
    refine r_p (p_assign rfl) rfl ?_
    refine r_nil ?_
    refine r_cret ?_
    refine r_ret () trivial rfl (rs1 (rv_tmp rfl)) rfl [] [] rfl rfl rfl
  · exact absurd h1 (by simp)
set_option maxRecDepth 100000 in
theorem power_spec (D : Nat) (v : SV) (ob : Option Nat) (off armed : Bool) (left : Int) :
    Spec Try.prog 45 [.pointer (some ⟨D, 0, none⟩)] [row D 94 (dC v ob off armed left)] [] (X := Unit) (fun _ => True) (fun _ => .bool (!pwO off armed left)) (fun _ => [row D 94 (dC v ob (pwO off armed left) armed (IntKind.i64.wrap (left - 1)))]) (fun _ => []) := by
  refine r_enter Try.func45 rfl Try.ntmps45 rfl fun w0 M H => ?_
  refine r_seq ?_
  refine r_region ?_
  refine r_p (p_assign rfl) rfl ?_
  refine r_nil ?_
  refine r_seq ?_
  refine r_seq ?_
  refine r_region ?_
  refine r_p (p_move rfl) rfl ?_
  refine r_p (p_nilCheck rfl) rfl ?_
  refine r_p (p_field0 fo94_3 rfl) rfl ?_
  refine r_p (p_load1 t4 rfl rfl (g_row1 (k := 0) rfl rfl)) rfl ?_
  refine r_p (p_move rfl) rfl ?_
  refine r_gp [] rfl rfl trivial (fun hg1 => p_move rfl) rfl ?_
  refine r_gp [(8, _)] rfl rfl ⟨rfl, trivial⟩ (fun hg2 => p_nilCheck rfl) rfl ?_
  refine r_gp [(8, _), (9, _)] rfl rfl ⟨rfl, rfl, trivial⟩ (fun hg3 => p_field0 fo94_4 rfl) rfl ?_
  refine r_gp [(8, _), (9, _), (10, _)] rfl rfl ⟨rfl, rfl, rfl, trivial⟩ (fun hg4 => p_load1 t3 rfl rfl (g_row1 (k := 0) rfl rfl)) rfl ?_
  refine r_gp [(8, _), (9, _), (10, _), (11, _)] rfl rfl ⟨rfl, rfl, rfl, rfl, trivial⟩ (fun hg5 => p_bin rfl rfl b_eq) rfl ?_
  refine r_p (p_pick rfl rfl rfl (by first | exact pick_and | exact pick_or |  rfl)) rfl ?_
  refine r_nil ?_
  refine r_cond rfl (fun h6 => ?_) (fun h6 => ?_)
  · have hq : (armed && decide (left = 0)) = true := h6
    refine r_region ?_
    refine r_p (p_move rfl) rfl ?_
    refine r_p (p_nilCheck rfl) rfl ?_
    refine r_p (p_field0 fo94_2 rfl) rfl ?_
    refine r_store_row (k := 0) t4 rfl rfl rfl rfl rfl rfl rfl rfl ?_
    refine r_nil ?_
    refine r_seq ?_
    refine r_region ?_
    refine r_p (p_move rfl) rfl ?_
    refine r_p (p_nilCheck rfl) rfl ?_
    refine r_p (p_field0 fo94_4 rfl) rfl ?_
    refine r_p (p_load1 t3 rfl rfl (g_row1 (k := 0) rfl rfl)) rfl ?_
    refine r_p (p_bin rfl rfl (b_sub rfl)) rfl ?_
    refine r_p (p_nilCheck rfl) rfl ?_
    refine r_p (p_field0 fo94_4 rfl) rfl ?_
    refine r_store_row (k := 0) t3 rfl rfl rfl rfl rfl rfl rfl rfl ?_
    refine r_nil ?_
    refine r_seq ?_
    refine r_region ?_
    refine r_p (p_move rfl) rfl ?_
    refine r_p (p_nilCheck rfl) rfl ?_
    refine r_p (p_field0 fo94_2 rfl) rfl ?_
    refine r_p (p_load1 t4 rfl rfl (g_row1 (k := 0) rfl rfl)) rfl ?_
    refine r_p (p_not rfl) rfl ?_
    refine r_p (p_assign rfl) rfl ?_
    refine r_nil ?_
    refine r_cret ?_
    refine r_ret () trivial rfl (rs1 (rv_tmp rfl)) (congrArg Value.bool (by unfold pwO; rw [hq]; cases off <;> rfl)) [0] [] rfl (by unfold pwO; rw [hq]; cases off <;> rfl) rfl
  · have hq : (armed && decide (left = 0)) = false := h6
    refine r_skip ?_
    refine r_seq ?_
    refine r_region ?_
    refine r_p (p_move rfl) rfl ?_
    refine r_p (p_nilCheck rfl) rfl ?_
    refine r_p (p_field0 fo94_4 rfl) rfl ?_
    refine r_p (p_load1 t3 rfl rfl (g_row1 (k := 0) rfl rfl)) rfl ?_
    refine r_p (p_bin rfl rfl (b_sub rfl)) rfl ?_
    refine r_p (p_nilCheck rfl) rfl ?_
    refine r_p (p_field0 fo94_4 rfl) rfl ?_
    refine r_store_row (k := 0) t3 rfl rfl rfl rfl rfl rfl rfl rfl ?_
    refine r_nil ?_
    refine r_seq ?_
    refine r_region ?_
    refine r_p (p_move rfl) rfl ?_
    refine r_p (p_nilCheck rfl) rfl ?_
    refine r_p (p_field0 fo94_2 rfl) rfl ?_
    refine r_p (p_load1 t4 rfl rfl (g_row1 (k := 0) rfl rfl)) rfl ?_
    refine r_p (p_not rfl) rfl ?_
    refine r_p (p_assign rfl) rfl ?_
    refine r_nil ?_
    refine r_cret ?_
    refine r_ret () trivial rfl (rs1 (rv_tmp rfl)) (congrArg Value.bool (by unfold pwO; rw [hq]; cases off <;> rfl)) [0] [] rfl (by unfold pwO; rw [hq]; cases off <;> rfl) rfl
set_option maxRecDepth 100000 in
theorem arm_spec (D : Nat) (v : SV) (ob : Option Nat) (off armed : Bool) (left : Int) (n : Int) :
    Spec Try.prog 23 [.pointer (some ⟨D, 0, none⟩), .int .i64 n] [row D 94 (dC v ob off armed left)] [] (X := Unit) (fun _ => True) (fun _ => .tuple #[]) (fun _ => [row D 94 (dC v ob off (if off = true then armed else decide (n ≥ 0)) (if off = true then left else n))]) (fun _ => []) := by
  refine r_enter Try.func23 rfl Try.ntmps23 rfl fun w0 M H => ?_
  refine r_seq ?_
  refine r_region ?_
  refine r_p (p_move rfl) rfl ?_
  refine r_p (p_bin rfl rfl (b_nePn Try.underlying24)) rfl ?_
  refine r_p (p_move rfl) rfl ?_
  refine r_gp [] rfl rfl trivial (fun hg1 => p_move rfl) rfl ?_
  refine r_gp [(7, _)] rfl rfl ⟨rfl, trivial⟩ (fun hg2 => p_nilCheck rfl) rfl ?_
  refine r_gp [(7, _), (8, _)] rfl rfl ⟨rfl, rfl, trivial⟩ (fun hg3 => p_field0 fo94_2 rfl) rfl ?_
  refine r_gp [(7, _), (8, _), (9, _)] rfl rfl ⟨rfl, rfl, rfl, trivial⟩ (fun hg4 => p_load1 t4 rfl rfl (g_row1 (k := 0) rfl rfl)) rfl ?_
  refine r_gp [(7, _), (8, _), (9, _), (10, _)] rfl rfl ⟨rfl, rfl, rfl, rfl, trivial⟩ (fun hg5 => p_not rfl) rfl ?_
  refine r_p (p_pick rfl rfl rfl (by first | exact pick_and | exact pick_or |  rfl)) rfl ?_
  refine r_nil ?_
  refine r_cond rfl (fun h6 => ?_) (fun h6 => ?_)
  · have hq : off = false := by simpa using h6
    refine r_region ?_
    refine r_p (p_move rfl) rfl ?_
    refine r_p (p_move rfl) rfl ?_
    refine r_p (p_move rfl) rfl ?_
    refine r_p (p_bin rfl rfl b_ge) rfl ?_
    refine r_p (p_move rfl) rfl ?_
    refine r_p (p_nilCheck rfl) rfl ?_
    refine r_p (p_field0 fo94_3 rfl) rfl ?_
    refine r_store_row (k := 0) t4 rfl rfl rfl rfl rfl rfl rfl rfl ?_
    refine r_p (p_nilCheck rfl) rfl ?_
    refine r_p (p_field0 fo94_4 rfl) rfl ?_
    refine r_store_row (k := 0) t3 rfl rfl rfl rfl rfl rfl rfl rfl ?_
    refine r_nil ?_
    refine r_end () trivial rfl rs0 rfl [0] [] rfl (by rw [hq]; rfl) rfl
  · have hq : off = true := by simpa using h6
    refine r_skip ?_
    refine r_end () trivial rfl rs0 rfl [0] [] rfl (by rw [hq]; rfl) rfl
set_option maxRecDepth 100000 in
theorem arm_nil (n : Int) :
    Spec Try.prog 23 [.pointer none, .int .i64 n] [] [] (X := Unit) (fun _ => True) (fun _ => .tuple #[]) (fun _ => []) (fun _ => []) := by
  refine r_enter Try.func23 rfl Try.ntmps23 rfl fun w0 M H => ?_
  refine r_seq ?_
  refine r_region ?_
  refine r_p (p_move rfl) rfl ?_
  refine r_p (p_bin rfl rfl (b_nePn Try.underlying24)) rfl ?_
  refine r_p (p_move rfl) rfl ?_
  refine r_split (t := 6) rfl (fun h1 => False.elim (by simp at h1)) (fun h1 => ?_)
  refine r_gno rfl rfl rfl rfl ?_
  refine r_gno rfl rfl rfl rfl ?_
  refine r_gno rfl rfl rfl rfl ?_
  refine r_gno rfl rfl rfl rfl ?_
  refine r_gno rfl rfl rfl rfl ?_
  refine r_p (p_pick rfl rfl rfl (by first | exact pick_and | exact pick_or |  rfl)) rfl ?_
  refine r_nil ?_
  refine r_cond rfl (fun h2 => ?_) (fun h2 => ?_)
  · exact absurd h2 (by simp)
  · (try simp only [decide_eq_true_eq, decide_eq_false_iff_not, Bool.and_eq_true, Bool.or_eq_true, Bool.and_eq_false_iff, Bool.or_eq_false_iff, Bool.not_eq_true, Bool.not_eq_false, Bool.not_eq_true', Bool.not_eq_false', Bool.not_not, bne_iff_ne, beq_iff_eq] at h2)
    refine r_skip ?_
    refine r_end () trivial rfl rs0 rfl [] [] rfl rfl rfl
set_option maxRecDepth 100000 in
theorem read_none (D : Nat) (v : SV) (ob : Option Nat) (off armed : Bool) (left : Int) (dur : List ByteArray) (fr : List (Int × ByteArray)) (n : Int) (hf : fr.find? (fun p => decide (p.1 = n)) = none) :
    Spec Try.prog 27 [.pointer (some ⟨D, 0, none⟩), .int .i64 n] [] [row D 94 (dC v ob off armed left), mp mkI Prod.fst vS ob fr, own 9 1 eS (sv v) dur] (X := Unit) (fun _ => True) (fun _ => .tuple #[.string (rdF off dur fr n).1, .int .i64 (rdF off dur fr n).2]) (fun _ => []) (fun _ => []) := by
  refine r_enter Try.func27 rfl Try.ntmps27 rfl fun w0 M H => ?_
  refine r_more 2 2 rfl (fun w G h _ => ⟨G, own_to_sl w G h, fun _ hb => hb⟩) ?_
  refine r_seq ?_
  refine r_region ?_
  refine r_p (p_assign rfl) rfl ?_
  refine r_p (p_assign rfl) rfl ?_
  refine r_nil ?_
  refine r_seq ?_
  refine r_block ?_
  refine r_seq ?_
  refine r_region ?_
  refine r_p (p_move rfl) rfl ?_
  refine r_p (p_bin rfl rfl (b_eqPn Try.underlying24)) rfl ?_
  refine r_p (p_move rfl) rfl ?_
  refine r_gp [] rfl rfl trivial (fun hg1 => p_move rfl) rfl ?_
  refine r_gp [(12, _)] rfl rfl ⟨rfl, trivial⟩ (fun hg2 => p_nilCheck rfl) rfl ?_
  refine r_gp [(12, _), (13, _)] rfl rfl ⟨rfl, rfl, trivial⟩ (fun hg3 => p_field0 fo94_2 rfl) rfl ?_
  refine r_gp [(12, _), (13, _), (14, _)] rfl rfl ⟨rfl, rfl, rfl, trivial⟩ (fun hg4 => p_load1 t4 rfl rfl (g_row1R (k := 0) rfl rfl)) rfl ?_
  refine r_p (p_pick rfl rfl rfl (by first | exact pick_and | exact pick_or |  rfl)) rfl ?_
  refine r_p (p_assign rfl) rfl ?_
  refine r_nil ?_
  refine r_cond rfl (fun h5 => ?_) (fun h5 => ?_)
  · have hq : off = true := by simpa using h5
    refine r_seq ?_
    refine r_region ?_
    refine r_p (p_assign rfl) rfl ?_
    refine r_p (p_assign rfl) rfl ?_
    refine r_nil ?_
    refine r_cret ?_
    refine r_ret () trivial rfl (rs2 (rv_tmp rfl) (rv_tmp rfl)) (by unfold rdF; rw [if_pos hq] <;> rfl) [] [] rfl rfl rfl
  · have hq : off = false := by simpa using h5
    refine r_seq ?_
    refine r_region ?_
    refine r_p (p_move rfl) rfl ?_
    refine r_p (p_bin rfl rfl b_lt) rfl ?_
    refine r_p (p_move rfl) rfl ?_
    refine r_gp [] rfl rfl trivial (fun hg6 => p_move rfl) rfl ?_
    refine r_gp [(21, _)] rfl rfl ⟨rfl, trivial⟩ (fun hg7 => p_move rfl) rfl ?_
    refine r_gp [(21, _), (22, _)] rfl rfl ⟨rfl, rfl, trivial⟩ (fun hg8 => p_nilCheck rfl) rfl ?_
    refine r_gp [(21, _), (22, _), (23, _)] rfl rfl ⟨rfl, rfl, rfl, trivial⟩ (fun hg9 => p_field0 fo94_0 rfl) rfl ?_
    refine r_gp [(21, _), (22, _), (23, _), (24, _)] rfl rfl ⟨rfl, rfl, rfl, rfl, trivial⟩ (fun hg10 => p_load1 t41 rfl rfl (g_row1R (k := 0) rfl rfl)) rfl ?_
    refine r_gp [(21, _), (22, _), (23, _), (24, _), (25, _)] rfl rfl ⟨rfl, rfl, rfl, rfl, rfl, trivial⟩ (fun hg11 => p_len_sl Try.underlying41 rfl (hs_sl (k := 2) rfl)) rfl ?_
    refine r_gp [(21, _), (22, _), (23, _), (24, _), (25, _), (26, _)] rfl rfl ⟨rfl, rfl, rfl, rfl, rfl, rfl, trivial⟩ (fun hg12 => p_bin rfl rfl b_ge) rfl ?_
    refine r_p (p_pick rfl rfl rfl (by first | exact pick_and | exact pick_or |  rfl)) rfl ?_
    refine r_p (p_assign rfl) rfl ?_
    refine r_nil ?_
    refine r_cond rfl (fun h13 => ?_) (fun h13 => ?_)
    · (try simp only [decide_eq_true_eq, decide_eq_false_iff_not, Bool.and_eq_true, Bool.or_eq_true, Bool.and_eq_false_iff, Bool.or_eq_false_iff, Bool.not_eq_true, Bool.not_eq_false, Bool.not_eq_true', Bool.not_eq_false', Bool.not_not, bne_iff_ne, beq_iff_eq] at h13)
      have hn : n < 0 ∨ (dur.length : Int) ≤ n := by omega
      refine r_seq ?_
      refine r_region ?_
      refine r_p (p_assign rfl) rfl ?_
      refine r_p (p_assign rfl) rfl ?_
      refine r_nil ?_
      refine r_cret ?_
      refine r_ret () trivial rfl (rs2 (rv_tmp rfl) (rv_tmp rfl)) (by unfold rdF; rw [if_neg (by simp [hq]), if_pos hn] <;> rfl) [] [] rfl rfl rfl
    · (try simp only [decide_eq_true_eq, decide_eq_false_iff_not, Bool.and_eq_true, Bool.or_eq_true, Bool.and_eq_false_iff, Bool.or_eq_false_iff, Bool.not_eq_true, Bool.not_eq_false, Bool.not_eq_true', Bool.not_eq_false', Bool.not_not, bne_iff_ne, beq_iff_eq] at h13)
      have hn : ¬ (n < 0 ∨ (dur.length : Int) ≤ n) := by omega
      refine r_skip ?_
      refine r_seq ?_
      refine r_seq ?_
      refine r_region ?_
      refine r_p (p_move rfl) rfl ?_
      refine r_p (p_nilCheck rfl) rfl ?_
      refine r_p (p_field0 fo94_1 rfl) rfl ?_
      refine r_p (p_load1 t92 rfl rfl (g_row1R (k := 0) rfl rfl)) rfl ?_
      refine r_p (p_move rfl) rfl ?_
      refine r_p (p_lookup Try.underlying92 keyI t9 rfl rfl (hm_ro (k := 1) rfl) hf) rfl ?_
      refine r_p (p_move rfl) rfl ?_
      refine r_p (p_extract rfl rfl) rfl ?_
      refine r_p (p_extract rfl rfl) rfl ?_
      refine r_p (p_assign rfl) rfl ?_
      refine r_p (p_assign rfl) rfl ?_
      refine r_nil ?_
      refine r_seq ?_
      refine r_region ?_
      refine r_p (p_move rfl) rfl ?_
      refine r_nil ?_
      refine r_cond rfl (fun h14 => ?_) (fun h14 => ?_)
      · exact absurd h14 (by simp)
      · (try simp only [decide_eq_true_eq, decide_eq_false_iff_not, Bool.and_eq_true, Bool.or_eq_true, Bool.and_eq_false_iff, Bool.or_eq_false_iff, Bool.not_eq_true, Bool.not_eq_false, Bool.not_eq_true', Bool.not_eq_false', Bool.not_not, bne_iff_ne, beq_iff_eq] at h14)
        refine r_skip ?_
        refine r_seq ?_
        refine r_region ?_
        refine r_p (p_move rfl) rfl ?_
        refine r_p (p_nilCheck rfl) rfl ?_
        refine r_p (p_field0 fo94_0 rfl) rfl ?_
        refine r_p (p_load1 t41 rfl rfl (g_row1R (k := 0) rfl rfl)) rfl ?_
        refine r_p (p_move rfl) rfl ?_
        refine r_p (p_idx_sl (j := n.toNat) Try.underlying41 t9 rfl rfl (hs_sl (k := 2) rfl) (by first | rfl | omega) (by first | omega | (simp; done) | (simp; omega))) rfl ?_
        refine r_p (p_load1 t9 rfl rfl (g_el' (hs_sl (k := 2) rfl) (by intro _; rfl) (getD_get ByteArray.empty (by omega)) (by rfl))) rfl ?_
        refine r_p (p_assign rfl) rfl ?_
        refine r_p (p_assign rfl) rfl ?_
        refine r_nil ?_
        refine r_cret ?_
        refine r_ret () trivial rfl (rs2 (rv_tmp rfl) (rv_tmp rfl)) (by unfold rdF; rw [if_neg (by simp [hq]), if_neg hn, hf] <;> rfl) [] [] rfl rfl rfl
set_option maxRecDepth 100000 in
theorem read_some (D : Nat) (v : SV) (ob : Option Nat) (off armed : Bool) (left : Int) (dur : List ByteArray) (fr : List (Int × ByteArray)) (n : Int) (p : Int × ByteArray) (hf : fr.find? (fun p => decide (p.1 = n)) = some p) :
    Spec Try.prog 27 [.pointer (some ⟨D, 0, none⟩), .int .i64 n] [] [row D 94 (dC v ob off armed left), mp mkI Prod.fst vS ob fr, own 9 1 eS (sv v) dur] (X := Unit) (fun _ => True) (fun _ => .tuple #[.string (rdF off dur fr n).1, .int .i64 (rdF off dur fr n).2]) (fun _ => []) (fun _ => []) := by
  refine r_enter Try.func27 rfl Try.ntmps27 rfl fun w0 M H => ?_
  refine r_more 2 2 rfl (fun w G h _ => ⟨G, own_to_sl w G h, fun _ hb => hb⟩) ?_
  refine r_seq ?_
  refine r_region ?_
  refine r_p (p_assign rfl) rfl ?_
  refine r_p (p_assign rfl) rfl ?_
  refine r_nil ?_
  refine r_seq ?_
  refine r_block ?_
  refine r_seq ?_
  refine r_region ?_
  refine r_p (p_move rfl) rfl ?_
  refine r_p (p_bin rfl rfl (b_eqPn Try.underlying24)) rfl ?_
  refine r_p (p_move rfl) rfl ?_
  refine r_gp [] rfl rfl trivial (fun hg1 => p_move rfl) rfl ?_
  refine r_gp [(12, _)] rfl rfl ⟨rfl, trivial⟩ (fun hg2 => p_nilCheck rfl) rfl ?_
  refine r_gp [(12, _), (13, _)] rfl rfl ⟨rfl, rfl, trivial⟩ (fun hg3 => p_field0 fo94_2 rfl) rfl ?_
  refine r_gp [(12, _), (13, _), (14, _)] rfl rfl ⟨rfl, rfl, rfl, trivial⟩ (fun hg4 => p_load1 t4 rfl rfl (g_row1R (k := 0) rfl rfl)) rfl ?_
  refine r_p (p_pick rfl rfl rfl (by first | exact pick_and | exact pick_or |  rfl)) rfl ?_
  refine r_p (p_assign rfl) rfl ?_
  refine r_nil ?_
  refine r_cond rfl (fun h5 => ?_) (fun h5 => ?_)
  · have hq : off = true := by simpa using h5
    refine r_seq ?_
    refine r_region ?_
    refine r_p (p_assign rfl) rfl ?_
    refine r_p (p_assign rfl) rfl ?_
    refine r_nil ?_
    refine r_cret ?_
    refine r_ret () trivial rfl (rs2 (rv_tmp rfl) (rv_tmp rfl)) (by unfold rdF; rw [if_pos hq] <;> rfl) [] [] rfl rfl rfl
  · have hq : off = false := by simpa using h5
    refine r_seq ?_
    refine r_region ?_
    refine r_p (p_move rfl) rfl ?_
    refine r_p (p_bin rfl rfl b_lt) rfl ?_
    refine r_p (p_move rfl) rfl ?_
    refine r_gp [] rfl rfl trivial (fun hg6 => p_move rfl) rfl ?_
    refine r_gp [(21, _)] rfl rfl ⟨rfl, trivial⟩ (fun hg7 => p_move rfl) rfl ?_
    refine r_gp [(21, _), (22, _)] rfl rfl ⟨rfl, rfl, trivial⟩ (fun hg8 => p_nilCheck rfl) rfl ?_
    refine r_gp [(21, _), (22, _), (23, _)] rfl rfl ⟨rfl, rfl, rfl, trivial⟩ (fun hg9 => p_field0 fo94_0 rfl) rfl ?_
    refine r_gp [(21, _), (22, _), (23, _), (24, _)] rfl rfl ⟨rfl, rfl, rfl, rfl, trivial⟩ (fun hg10 => p_load1 t41 rfl rfl (g_row1R (k := 0) rfl rfl)) rfl ?_
    refine r_gp [(21, _), (22, _), (23, _), (24, _), (25, _)] rfl rfl ⟨rfl, rfl, rfl, rfl, rfl, trivial⟩ (fun hg11 => p_len_sl Try.underlying41 rfl (hs_sl (k := 2) rfl)) rfl ?_
    refine r_gp [(21, _), (22, _), (23, _), (24, _), (25, _), (26, _)] rfl rfl ⟨rfl, rfl, rfl, rfl, rfl, rfl, trivial⟩ (fun hg12 => p_bin rfl rfl b_ge) rfl ?_
    refine r_p (p_pick rfl rfl rfl (by first | exact pick_and | exact pick_or |  rfl)) rfl ?_
    refine r_p (p_assign rfl) rfl ?_
    refine r_nil ?_
    refine r_cond rfl (fun h13 => ?_) (fun h13 => ?_)
    · (try simp only [decide_eq_true_eq, decide_eq_false_iff_not, Bool.and_eq_true, Bool.or_eq_true, Bool.and_eq_false_iff, Bool.or_eq_false_iff, Bool.not_eq_true, Bool.not_eq_false, Bool.not_eq_true', Bool.not_eq_false', Bool.not_not, bne_iff_ne, beq_iff_eq] at h13)
      have hn : n < 0 ∨ (dur.length : Int) ≤ n := by omega
      refine r_seq ?_
      refine r_region ?_
      refine r_p (p_assign rfl) rfl ?_
      refine r_p (p_assign rfl) rfl ?_
      refine r_nil ?_
      refine r_cret ?_
      refine r_ret () trivial rfl (rs2 (rv_tmp rfl) (rv_tmp rfl)) (by unfold rdF; rw [if_neg (by simp [hq]), if_pos hn] <;> rfl) [] [] rfl rfl rfl
    · (try simp only [decide_eq_true_eq, decide_eq_false_iff_not, Bool.and_eq_true, Bool.or_eq_true, Bool.and_eq_false_iff, Bool.or_eq_false_iff, Bool.not_eq_true, Bool.not_eq_false, Bool.not_eq_true', Bool.not_eq_false', Bool.not_not, bne_iff_ne, beq_iff_eq] at h13)
      have hn : ¬ (n < 0 ∨ (dur.length : Int) ≤ n) := by omega
      refine r_skip ?_
      refine r_seq ?_
      refine r_seq ?_
      refine r_region ?_
      refine r_p (p_move rfl) rfl ?_
      refine r_p (p_nilCheck rfl) rfl ?_
      refine r_p (p_field0 fo94_1 rfl) rfl ?_
      refine r_p (p_load1 t92 rfl rfl (g_row1R (k := 0) rfl rfl)) rfl ?_
      refine r_p (p_move rfl) rfl ?_
      refine r_p (p_lookup Try.underlying92 keyI t9 rfl rfl (hm_ro (k := 1) rfl) hf) rfl ?_
      refine r_p (p_move rfl) rfl ?_
      refine r_p (p_extract rfl rfl) rfl ?_
      refine r_p (p_extract rfl rfl) rfl ?_
      refine r_p (p_assign rfl) rfl ?_
      refine r_p (p_assign rfl) rfl ?_
      refine r_nil ?_
      refine r_seq ?_
      refine r_region ?_
      refine r_p (p_move rfl) rfl ?_
      refine r_nil ?_
      refine r_cond rfl (fun h14 => ?_) (fun h14 => ?_)
      · (try simp only [decide_eq_true_eq, decide_eq_false_iff_not, Bool.and_eq_true, Bool.or_eq_true, Bool.and_eq_false_iff, Bool.or_eq_false_iff, Bool.not_eq_true, Bool.not_eq_false, Bool.not_eq_true', Bool.not_eq_false', Bool.not_not, bne_iff_ne, beq_iff_eq] at h14)
        refine r_seq ?_
        refine r_region ?_
        refine r_p (p_move rfl) rfl ?_
        refine r_p (p_assign rfl) rfl ?_
        refine r_p (p_assign rfl) rfl ?_
        refine r_nil ?_
        refine r_cret ?_
        refine r_ret () trivial rfl (rs2 (rv_tmp rfl) (rv_tmp rfl)) (by unfold rdF; rw [if_neg (by simp [hq]), if_neg hn, hf] <;> rfl) [] [] rfl rfl rfl
      · exact absurd h14 (by simp)
theorem read_spec (D : Nat) (v : SV) (ob : Option Nat) (off armed : Bool) (left : Int) (dur : List ByteArray) (fr : List (Int × ByteArray)) (n : Int) :
    Spec Try.prog 27 [.pointer (some ⟨D, 0, none⟩), .int .i64 n] [] [row D 94 (dC v ob off armed left), mp mkI Prod.fst vS ob fr, own 9 1 eS (sv v) dur] (X := Unit) (fun _ => True) (fun _ => .tuple #[.string (rdF off dur fr n).1, .int .i64 (rdF off dur fr n).2]) (fun _ => []) (fun _ => []) := by
  cases hf : fr.find? (fun p => decide (p.1 = n)) with
  | none => exact read_none D v ob off armed left dur fr n hf
  | some p => exact read_some D v ob off armed left dur fr n p hf


end Go.Proofs.Ytohenjmkhncoiaa
