/-
  The operators of the reference. Condition: the operands are words.
-/
import Derived.Test.YtdcbbkpdlcojfaaA4
namespace Go.Proofs.Ytdcbbkpdlcojfaa
set_option linter.unusedSimpArgs false
set_option linter.unusedVariables false
open Go.RowKit

theorem and31 {b : Int} (hb : 0 ≤ b ∧ b < 4294967296) : bits .and .u32 b 31 = b % 32 := by
  have h1 : bits .and .u32 b 31 = IntKind.u32.wrap (((BitVec.ofInt 32 b &&& BitVec.ofInt 32 31).toNat : Nat) : Int) := rfl
  have h2 : (BitVec.ofInt 32 b).toNat = b.toNat := by
    rw [BitVec.toNat_ofInt, Int.emod_eq_of_lt hb.1 (by omega)]
  have h3 : (BitVec.ofInt 32 31).toNat = 2 ^ 5 - 1 := by decide
  rw [h1, BitVec.toNat_and, h2, h3, Nat.and_two_pow_sub_one_eq_mod, w_u32 (by omega) (by omega)]
  omega
set_option maxRecDepth 100000 in
theorem bit_spec (b : Bool) :
    Spec Try.prog 33 [.bool b] [] [] (X := Unit) (fun _ => True) (fun _ => .agg #[.int .u32 (tr b), .bool true]) (fun _ => []) (fun _ => []) := by
  refine r_enter Try.func33 rfl Try.ntmps33 rfl fun w0 M H => ?_
  refine r_seq ?_
  refine r_region ?_
  refine r_alloc t28 rfl rfl fun b2 => ?_
  refine r_nil ?_
  refine r_seq ?_
  refine r_seq ?_
  refine r_region ?_
  refine r_p (p_move rfl) rfl ?_
  refine r_nil ?_
  refine r_cond rfl (fun h1 => ?_) (fun h1 => ?_)
  · have hq := h1
    refine r_seq ?_
    refine r_region ?_
    refine r_p (p_build (parts := [(0, .const (.int .u32 1)), (1, .const (.bool Bool.true))]) t28 pl28 rfl rfl) rfl ?_
    refine r_store_all (k := 2) t28 rfl rfl rfl rfl rfl rfl ?_
    refine r_nil ?_
    refine r_cret ?_
    refine r_ret () trivial rfl (rs1 (rv_cellA t28 rfl rfl rfl (g_all (k := 2) rfl))) (by rw [hq]; rfl) [] [] rfl rfl rfl
  · have hq := h1
    refine r_skip ?_
    refine r_seq ?_
    refine r_region ?_
    refine r_p (p_build (parts := [(0, .const (.int .u32 0)), (1, .const (.bool Bool.true))]) t28 pl28 rfl rfl) rfl ?_
    refine r_store_all (k := 2) t28 rfl rfl rfl rfl rfl rfl ?_
    refine r_nil ?_
    refine r_cret ?_
    refine r_ret () trivial rfl (rs1 (rv_cellA t28 rfl rfl rfl (g_all (k := 2) rfl))) (by rw [hq]; rfl) [] [] rfl rfl rfl
/-- What an operator of the reference gives. -/
def vO (o : Option Int) : Value := match o with
  | some u => .agg #[.int .u32 u, .bool true]
  | none => .agg #[.int .u32 0, .bool false]
set_option maxRecDepth 100000 in
theorem runary_spec (op : ByteArray) (a : Int) (ha : 0 ≤ a ∧ a < 4294967296) :
    Spec Try.prog 15 [.string op, .int .u32 a] [] [] (X := Unit) (fun _ => True) (fun _ => vO (unF op a)) (fun _ => []) (fun _ => []) := by
  refine r_enter Try.func15 rfl Try.ntmps15 rfl fun w0 M H => ?_
  refine r_seq ?_
  refine r_region ?_
  refine r_alloc t28 rfl rfl fun b4 => ?_
  refine r_nil ?_
  refine r_seq ?_
  refine r_seq ?_
  refine r_region ?_
  refine r_p (p_move rfl) rfl ?_
  refine r_nil ?_
  refine r_block ?_
  refine r_seq ?_
  refine r_region ?_
  refine r_p (p_bin rfl rfl b_seq) rfl ?_
  refine r_p (p_assign rfl) rfl ?_
  refine r_nil ?_
  refine r_cond rfl (fun h1 => ?_) (fun h1 => ?_)
  · have hoSub : op = oSub := by rw [ba_eq] at h1; exact of_decide_eq_true h1
    refine r_seq ?_
    refine r_region ?_
    refine r_p (p_move rfl) rfl ?_
    refine r_p (p_bin rfl rfl (b_sub (c := wU (-a)) (by rw [Int.zero_sub]; rfl))) rfl ?_
    refine r_p (p_build (parts := [(0, .tmp 9), (1, .const (.bool Bool.true))]) t28 pl28 rfl rfl) rfl ?_
    refine r_store_all (k := 4) t28 rfl rfl rfl rfl rfl rfl ?_
    refine r_nil ?_
    refine r_cret ?_
    refine r_ret () trivial rfl (rs1 (rv_cellA t28 rfl rfl rfl (g_all (k := 4) rfl))) (by unfold unF; rw [if_pos hoSub]; rfl) [] [] rfl rfl rfl
  · have hoSub : ¬ op = oSub := by rw [ba_eq] at h1; exact of_decide_eq_false h1
    refine r_seq ?_
    refine r_region ?_
    refine r_p (p_bin rfl rfl b_seq) rfl ?_
    refine r_p (p_assign rfl) rfl ?_
    refine r_nil ?_
    refine r_cond rfl (fun h2 => ?_) (fun h2 => ?_)
    · have hoCom : op = oCom := by rw [ba_eq] at h2; exact of_decide_eq_true h2
      refine r_seq ?_
      refine r_region ?_
      refine r_p (p_move rfl) rfl ?_
      refine r_p (p_bin rfl rfl (b_sub (by first | exact w_u32 (by omega) (by omega) | rfl))) rfl ?_
      refine r_p (p_build (parts := [(0, .tmp 14), (1, .const (.bool Bool.true))]) t28 pl28 rfl rfl) rfl ?_
      refine r_store_all (k := 4) t28 rfl rfl rfl rfl rfl rfl ?_
      refine r_nil ?_
      refine r_cret ?_
      refine r_ret () trivial rfl (rs1 (rv_cellA t28 rfl rfl rfl (g_all (k := 4) rfl))) (by unfold unF; rw [if_neg hoSub, if_pos hoCom]; rfl) [] [] rfl rfl rfl
    · have hoCom : ¬ op = oCom := by rw [ba_eq] at h2; exact of_decide_eq_false h2
      refine r_seq ?_
      refine r_region ?_
      refine r_p (p_bin rfl rfl b_seq) rfl ?_
      refine r_p (p_assign rfl) rfl ?_
      refine r_nil ?_
      refine r_cond rfl (fun h3 => ?_) (fun h3 => ?_)
      · have hoNot : op = oNot := by rw [ba_eq] at h3; exact of_decide_eq_true h3
        refine r_seq ?_
        refine r_region ?_
        refine r_p (p_move rfl) rfl ?_
        refine r_p (p_bin rfl rfl b_eq) rfl ?_
        refine r_call (xs := [.tmp 19]) (bit_spec (decide (a = 0))) cb33 [] [] [] [] rfl rfl rfl rfl rfl rfl rfl rfl (fun _ _ => rfl) (fun _ _ _ => rfl) rfl (fun _ _ => ?_)
        refine r_store_all (k := 4) t28 rfl rfl rfl rfl rfl rfl ?_
        refine r_nil ?_
        refine r_cret ?_
        refine r_ret () trivial rfl (rs1 (rv_cellA t28 rfl rfl rfl (g_all (k := 4) rfl))) (by unfold unF; rw [if_neg hoSub, if_neg hoCom, if_pos hoNot]; rfl) [] [] rfl rfl rfl
      · have hoNot : ¬ op = oNot := by rw [ba_eq] at h3; exact of_decide_eq_false h3
        refine r_skip ?_
        refine r_seq ?_
        refine r_region ?_
        refine r_p (p_build (parts := []) t28 pl28 rfl rfl) rfl ?_
        refine r_store_all (k := 4) t28 rfl rfl rfl rfl rfl rfl ?_
        refine r_nil ?_
        refine r_cret ?_
        refine r_ret () trivial rfl (rs1 (rv_cellA t28 rfl rfl rfl (g_all (k := 4) rfl))) (by unfold unF; rw [if_neg hoSub, if_neg hoCom, if_neg hoNot]; rfl) [] [] rfl rfl rfl
set_option maxHeartbeats 2000000 in
set_option maxRecDepth 100000 in
theorem rbinary_spec (op : ByteArray) (a b : Int) (ha : 0 ≤ a ∧ a < 4294967296) (hb : 0 ≤ b ∧ b < 4294967296) :
    Spec Try.prog 16 [.string op, .int .u32 a, .int .u32 b] [] [] (X := Unit) (fun _ => True) (fun _ => vO (biF op a b)) (fun _ => []) (fun _ => []) := by
  refine r_enter Try.func16 rfl Try.ntmps16 rfl fun w0 M H => ?_
  refine r_seq ?_
  refine r_region ?_
  refine r_alloc t28 rfl rfl fun b6 => ?_
  refine r_nil ?_
  refine r_seq ?_
  refine r_seq ?_
  refine r_region ?_
  refine r_p (p_move rfl) rfl ?_
  refine r_nil ?_
  refine r_block ?_
  refine r_seq ?_
  refine r_region ?_
  refine r_p (p_bin rfl rfl b_seq) rfl ?_
  refine r_p (p_assign rfl) rfl ?_
  refine r_nil ?_
  refine r_cond rfl (fun h1 => ?_) (fun h1 => ?_)
  · have hoAdd : op = oAdd := by rw [ba_eq] at h1; exact of_decide_eq_true h1
    refine r_seq ?_
    refine r_region ?_
    refine r_p (p_move rfl) rfl ?_
    refine r_p (p_move rfl) rfl ?_
    refine r_p (p_bin rfl rfl (b_add rfl)) rfl ?_
    refine r_p (p_build (parts := [(0, .tmp 12), (1, .const (.bool Bool.true))]) t28 pl28 rfl rfl) rfl ?_
    refine r_store_all (k := 6) t28 rfl rfl rfl rfl rfl rfl ?_
    refine r_nil ?_
    refine r_cret ?_
    refine r_ret () trivial rfl (rs1 (rv_cellA t28 rfl rfl rfl (g_all (k := 6) rfl))) (by unfold biF; rw [if_pos hoAdd]; first | rfl | (rw [if_pos hz]; rfl) | (rw [if_neg hz]; rfl)) [] [] rfl rfl rfl
  · have hoAdd : ¬ op = oAdd := by rw [ba_eq] at h1; exact of_decide_eq_false h1
    refine r_seq ?_
    refine r_region ?_
    refine r_p (p_bin rfl rfl b_seq) rfl ?_
    refine r_p (p_assign rfl) rfl ?_
    refine r_nil ?_
    refine r_cond rfl (fun h2 => ?_) (fun h2 => ?_)
    · have hoSub : op = oSub := by rw [ba_eq] at h2; exact of_decide_eq_true h2
      refine r_seq ?_
      refine r_region ?_
      refine r_p (p_move rfl) rfl ?_
      refine r_p (p_move rfl) rfl ?_
      refine r_p (p_bin rfl rfl (b_sub rfl)) rfl ?_
      refine r_p (p_build (parts := [(0, .tmp 18), (1, .const (.bool Bool.true))]) t28 pl28 rfl rfl) rfl ?_
      refine r_store_all (k := 6) t28 rfl rfl rfl rfl rfl rfl ?_
      refine r_nil ?_
      refine r_cret ?_
      refine r_ret () trivial rfl (rs1 (rv_cellA t28 rfl rfl rfl (g_all (k := 6) rfl))) (by unfold biF; rw [if_neg hoAdd, if_pos hoSub]; first | rfl | (rw [if_pos hz]; rfl) | (rw [if_neg hz]; rfl)) [] [] rfl rfl rfl
    · have hoSub : ¬ op = oSub := by rw [ba_eq] at h2; exact of_decide_eq_false h2
      refine r_seq ?_
      refine r_region ?_
      refine r_p (p_bin rfl rfl b_seq) rfl ?_
      refine r_p (p_assign rfl) rfl ?_
      refine r_nil ?_
      refine r_cond rfl (fun h3 => ?_) (fun h3 => ?_)
      · have hoMul : op = oMul := by rw [ba_eq] at h3; exact of_decide_eq_true h3
        refine r_seq ?_
        refine r_region ?_
        refine r_p (p_move rfl) rfl ?_
        refine r_p (p_move rfl) rfl ?_
        refine r_p (p_bin rfl rfl (b_mul rfl)) rfl ?_
        refine r_p (p_build (parts := [(0, .tmp 24), (1, .const (.bool Bool.true))]) t28 pl28 rfl rfl) rfl ?_
        refine r_store_all (k := 6) t28 rfl rfl rfl rfl rfl rfl ?_
        refine r_nil ?_
        refine r_cret ?_
        refine r_ret () trivial rfl (rs1 (rv_cellA t28 rfl rfl rfl (g_all (k := 6) rfl))) (by unfold biF; rw [if_neg hoAdd, if_neg hoSub, if_pos hoMul]; first | rfl | (rw [if_pos hz]; rfl) | (rw [if_neg hz]; rfl)) [] [] rfl rfl rfl
      · have hoMul : ¬ op = oMul := by rw [ba_eq] at h3; exact of_decide_eq_false h3
        refine r_seq ?_
        refine r_region ?_
        refine r_p (p_bin rfl rfl b_seq) rfl ?_
        refine r_p (p_assign rfl) rfl ?_
        refine r_nil ?_
        refine r_cond rfl (fun h4 => ?_) (fun h4 => ?_)
        · have hoQuo : op = oQuo := by rw [ba_eq] at h4; exact of_decide_eq_true h4
          refine r_seq ?_
          refine r_seq ?_
          refine r_region ?_
          refine r_p (p_move rfl) rfl ?_
          refine r_p (p_bin rfl rfl b_eq) rfl ?_
          refine r_nil ?_
          refine r_cond rfl (fun h5 => ?_) (fun h5 => ?_)
          · (try simp only [decide_eq_true_eq, decide_eq_false_iff_not, Bool.and_eq_true, Bool.or_eq_true, Bool.and_eq_false_iff, Bool.or_eq_false_iff, Bool.not_eq_true, Bool.not_eq_false, Bool.not_eq_true', Bool.not_eq_false', Bool.not_not, bne_iff_ne, beq_iff_eq] at h5)
            have hz : b = 0 := h5
            refine r_seq ?_
            refine r_region ?_
            refine r_p (p_build (parts := [(0, .const (.int .u32 0)), (1, .const (.bool Bool.true))]) t28 pl28 rfl rfl) rfl ?_
            refine r_store_all (k := 6) t28 rfl rfl rfl rfl rfl rfl ?_
            refine r_nil ?_
            refine r_cret ?_
            refine r_ret () trivial rfl (rs1 (rv_cellA t28 rfl rfl rfl (g_all (k := 6) rfl))) (by unfold biF; rw [if_neg hoAdd, if_neg hoSub, if_neg hoMul, if_pos hoQuo]; first | rfl | (rw [if_pos hz]; rfl) | (rw [if_neg hz]; rfl)) [] [] rfl rfl rfl
          · (try simp only [decide_eq_true_eq, decide_eq_false_iff_not, Bool.and_eq_true, Bool.or_eq_true, Bool.and_eq_false_iff, Bool.or_eq_false_iff, Bool.not_eq_true, Bool.not_eq_false, Bool.not_eq_true', Bool.not_eq_false', Bool.not_not, bne_iff_ne, beq_iff_eq] at h5)
            have hz : ¬ b = 0 := h5
            refine r_skip ?_
            refine r_seq ?_
            refine r_region ?_
            refine r_p (p_move rfl) rfl ?_
            refine r_p (p_move rfl) rfl ?_
            refine r_p (p_bin rfl rfl (b_quo hz (quo_u32 ha hb hz))) rfl ?_
            refine r_p (p_build (parts := [(0, .tmp 33), (1, .const (.bool Bool.true))]) t28 pl28 rfl rfl) rfl ?_
            refine r_store_all (k := 6) t28 rfl rfl rfl rfl rfl rfl ?_
            refine r_nil ?_
            refine r_cret ?_
            refine r_ret () trivial rfl (rs1 (rv_cellA t28 rfl rfl rfl (g_all (k := 6) rfl))) (by unfold biF; rw [if_neg hoAdd, if_neg hoSub, if_neg hoMul, if_pos hoQuo]; first | rfl | (rw [if_pos hz]; rfl) | (rw [if_neg hz]; rfl)) [] [] rfl rfl rfl
        · have hoQuo : ¬ op = oQuo := by rw [ba_eq] at h4; exact of_decide_eq_false h4
          refine r_seq ?_
          refine r_region ?_
          refine r_p (p_bin rfl rfl b_seq) rfl ?_
          refine r_p (p_assign rfl) rfl ?_
          refine r_nil ?_
          refine r_cond rfl (fun h6 => ?_) (fun h6 => ?_)
          · have hoRem : op = oRem := by rw [ba_eq] at h6; exact of_decide_eq_true h6
            refine r_seq ?_
            refine r_seq ?_
            refine r_region ?_
            refine r_p (p_move rfl) rfl ?_
            refine r_p (p_bin rfl rfl b_eq) rfl ?_
            refine r_nil ?_
            refine r_cond rfl (fun h7 => ?_) (fun h7 => ?_)
            · (try simp only [decide_eq_true_eq, decide_eq_false_iff_not, Bool.and_eq_true, Bool.or_eq_true, Bool.and_eq_false_iff, Bool.or_eq_false_iff, Bool.not_eq_true, Bool.not_eq_false, Bool.not_eq_true', Bool.not_eq_false', Bool.not_not, bne_iff_ne, beq_iff_eq] at h7)
              have hz : b = 0 := h7
              refine r_seq ?_
              refine r_region ?_
              refine r_p (p_move rfl) rfl ?_
              refine r_p (p_build (parts := [(0, .tmp 39), (1, .const (.bool Bool.true))]) t28 pl28 rfl rfl) rfl ?_
              refine r_store_all (k := 6) t28 rfl rfl rfl rfl rfl rfl ?_
              refine r_nil ?_
              refine r_cret ?_
              refine r_ret () trivial rfl (rs1 (rv_cellA t28 rfl rfl rfl (g_all (k := 6) rfl))) (by unfold biF; rw [if_neg hoAdd, if_neg hoSub, if_neg hoMul, if_neg hoQuo, if_pos hoRem]; first | rfl | (rw [if_pos hz]; rfl) | (rw [if_neg hz]; rfl)) [] [] rfl rfl rfl
            · (try simp only [decide_eq_true_eq, decide_eq_false_iff_not, Bool.and_eq_true, Bool.or_eq_true, Bool.and_eq_false_iff, Bool.or_eq_false_iff, Bool.not_eq_true, Bool.not_eq_false, Bool.not_eq_true', Bool.not_eq_false', Bool.not_not, bne_iff_ne, beq_iff_eq] at h7)
              have hz : ¬ b = 0 := h7
              refine r_skip ?_
              refine r_seq ?_
              refine r_region ?_
              refine r_p (p_move rfl) rfl ?_
              refine r_p (p_move rfl) rfl ?_
              refine r_p (p_bin rfl rfl (b_rem hz (tmod_u32 ha))) rfl ?_
              refine r_p (p_build (parts := [(0, .tmp 43), (1, .const (.bool Bool.true))]) t28 pl28 rfl rfl) rfl ?_
              refine r_store_all (k := 6) t28 rfl rfl rfl rfl rfl rfl ?_
              refine r_nil ?_
              refine r_cret ?_
              refine r_ret () trivial rfl (rs1 (rv_cellA t28 rfl rfl rfl (g_all (k := 6) rfl))) (by unfold biF; rw [if_neg hoAdd, if_neg hoSub, if_neg hoMul, if_neg hoQuo, if_pos hoRem]; first | rfl | (rw [if_pos hz]; rfl) | (rw [if_neg hz]; rfl)) [] [] rfl rfl rfl
          · have hoRem : ¬ op = oRem := by rw [ba_eq] at h6; exact of_decide_eq_false h6
            refine r_seq ?_
            refine r_region ?_
            refine r_p (p_bin rfl rfl b_seq) rfl ?_
            refine r_p (p_assign rfl) rfl ?_
            refine r_nil ?_
            refine r_cond rfl (fun h8 => ?_) (fun h8 => ?_)
            · have hoAnd : op = oAnd := by rw [ba_eq] at h8; exact of_decide_eq_true h8
              refine r_seq ?_
              refine r_region ?_
              refine r_p (p_move rfl) rfl ?_
              refine r_p (p_move rfl) rfl ?_
              refine r_p (p_bin rfl rfl (b_and rfl)) rfl ?_
              refine r_p (p_build (parts := [(0, .tmp 49), (1, .const (.bool Bool.true))]) t28 pl28 rfl rfl) rfl ?_
              refine r_store_all (k := 6) t28 rfl rfl rfl rfl rfl rfl ?_
              refine r_nil ?_
              refine r_cret ?_
              refine r_ret () trivial rfl (rs1 (rv_cellA t28 rfl rfl rfl (g_all (k := 6) rfl))) (by unfold biF; rw [if_neg hoAdd, if_neg hoSub, if_neg hoMul, if_neg hoQuo, if_neg hoRem, if_pos hoAnd]; first | rfl | (rw [if_pos hz]; rfl) | (rw [if_neg hz]; rfl)) [] [] rfl rfl rfl
            · have hoAnd : ¬ op = oAnd := by rw [ba_eq] at h8; exact of_decide_eq_false h8
              refine r_seq ?_
              refine r_region ?_
              refine r_p (p_bin rfl rfl b_seq) rfl ?_
              refine r_p (p_assign rfl) rfl ?_
              refine r_nil ?_
              refine r_cond rfl (fun h9 => ?_) (fun h9 => ?_)
              · have hoOr : op = oOr := by rw [ba_eq] at h9; exact of_decide_eq_true h9
                refine r_seq ?_
                refine r_region ?_
                refine r_p (p_move rfl) rfl ?_
                refine r_p (p_move rfl) rfl ?_
                refine r_p (p_bin rfl rfl (b_or rfl)) rfl ?_
                refine r_p (p_build (parts := [(0, .tmp 55), (1, .const (.bool Bool.true))]) t28 pl28 rfl rfl) rfl ?_
                refine r_store_all (k := 6) t28 rfl rfl rfl rfl rfl rfl ?_
                refine r_nil ?_
                refine r_cret ?_
                refine r_ret () trivial rfl (rs1 (rv_cellA t28 rfl rfl rfl (g_all (k := 6) rfl))) (by unfold biF; rw [if_neg hoAdd, if_neg hoSub, if_neg hoMul, if_neg hoQuo, if_neg hoRem, if_neg hoAnd, if_pos hoOr]; first | rfl | (rw [if_pos hz]; rfl) | (rw [if_neg hz]; rfl)) [] [] rfl rfl rfl
              · have hoOr : ¬ op = oOr := by rw [ba_eq] at h9; exact of_decide_eq_false h9
                refine r_seq ?_
                refine r_region ?_
                refine r_p (p_bin rfl rfl b_seq) rfl ?_
                refine r_p (p_assign rfl) rfl ?_
                refine r_nil ?_
                refine r_cond rfl (fun h10 => ?_) (fun h10 => ?_)
                · have hoXor : op = oXor := by rw [ba_eq] at h10; exact of_decide_eq_true h10
                  refine r_seq ?_
                  refine r_region ?_
                  refine r_p (p_move rfl) rfl ?_
                  refine r_p (p_move rfl) rfl ?_
                  refine r_p (p_bin rfl rfl (b_xor rfl)) rfl ?_
                  refine r_p (p_build (parts := [(0, .tmp 61), (1, .const (.bool Bool.true))]) t28 pl28 rfl rfl) rfl ?_
                  refine r_store_all (k := 6) t28 rfl rfl rfl rfl rfl rfl ?_
                  refine r_nil ?_
                  refine r_cret ?_
                  refine r_ret () trivial rfl (rs1 (rv_cellA t28 rfl rfl rfl (g_all (k := 6) rfl))) (by unfold biF; rw [if_neg hoAdd, if_neg hoSub, if_neg hoMul, if_neg hoQuo, if_neg hoRem, if_neg hoAnd, if_neg hoOr, if_pos hoXor]; first | rfl | (rw [if_pos hz]; rfl) | (rw [if_neg hz]; rfl)) [] [] rfl rfl rfl
                · have hoXor : ¬ op = oXor := by rw [ba_eq] at h10; exact of_decide_eq_false h10
                  refine r_seq ?_
                  refine r_region ?_
                  refine r_p (p_bin rfl rfl b_seq) rfl ?_
                  refine r_p (p_assign rfl) rfl ?_
                  refine r_nil ?_
                  refine r_cond rfl (fun h11 => ?_) (fun h11 => ?_)
                  · have hoShl : op = oShl := by rw [ba_eq] at h11; exact of_decide_eq_true h11
                    refine r_seq ?_
                    refine r_region ?_
                    refine r_p (p_move rfl) rfl ?_
                    refine r_p (p_move rfl) rfl ?_
                    refine r_p (p_bin rfl rfl (b_and (and31 hb))) rfl ?_
                    refine r_p (p_bin rfl rfl (b_shl (by omega) (by simp [IntKind.bits]; omega) rfl)) rfl ?_
                    refine r_p (p_build (parts := [(0, .tmp 68), (1, .const (.bool Bool.true))]) t28 pl28 rfl rfl) rfl ?_
                    refine r_store_all (k := 6) t28 rfl rfl rfl rfl rfl rfl ?_
                    refine r_nil ?_
                    refine r_cret ?_
                    refine r_ret () trivial rfl (rs1 (rv_cellA t28 rfl rfl rfl (g_all (k := 6) rfl))) (by unfold biF; rw [if_neg hoAdd, if_neg hoSub, if_neg hoMul, if_neg hoQuo, if_neg hoRem, if_neg hoAnd, if_neg hoOr, if_neg hoXor, if_pos hoShl]; first | rfl | (rw [if_pos hz]; rfl) | (rw [if_neg hz]; rfl)) [] [] rfl rfl rfl
                  · have hoShl : ¬ op = oShl := by rw [ba_eq] at h11; exact of_decide_eq_false h11
                    refine r_seq ?_
                    refine r_region ?_
                    refine r_p (p_bin rfl rfl b_seq) rfl ?_
                    refine r_p (p_assign rfl) rfl ?_
                    refine r_nil ?_
                    refine r_cond rfl (fun h12 => ?_) (fun h12 => ?_)
                    · have hoShr : op = oShr := by rw [ba_eq] at h12; exact of_decide_eq_true h12
                      refine r_seq ?_
                      refine r_region ?_
                      refine r_p (p_move rfl) rfl ?_
                      refine r_p (p_move rfl) rfl ?_
                      refine r_p (p_bin rfl rfl (b_and (and31 hb))) rfl ?_
                      refine r_p (p_bin rfl rfl (b_shr (by omega) (by simp [IntKind.bits]; omega) rfl)) rfl ?_
                      refine r_p (p_build (parts := [(0, .tmp 75), (1, .const (.bool Bool.true))]) t28 pl28 rfl rfl) rfl ?_
                      refine r_store_all (k := 6) t28 rfl rfl rfl rfl rfl rfl ?_
                      refine r_nil ?_
                      refine r_cret ?_
                      refine r_ret () trivial rfl (rs1 (rv_cellA t28 rfl rfl rfl (g_all (k := 6) rfl))) (by unfold biF; rw [if_neg hoAdd, if_neg hoSub, if_neg hoMul, if_neg hoQuo, if_neg hoRem, if_neg hoAnd, if_neg hoOr, if_neg hoXor, if_neg hoShl, if_pos hoShr]; first | rfl | (rw [if_pos hz]; rfl) | (rw [if_neg hz]; rfl)) [] [] rfl rfl rfl
                    · have hoShr : ¬ op = oShr := by rw [ba_eq] at h12; exact of_decide_eq_false h12
                      refine r_seq ?_
                      refine r_region ?_
                      refine r_p (p_bin rfl rfl b_seq) rfl ?_
                      refine r_p (p_assign rfl) rfl ?_
                      refine r_nil ?_
                      refine r_cond rfl (fun h13 => ?_) (fun h13 => ?_)
                      · have hoLt : op = oLt := by rw [ba_eq] at h13; exact of_decide_eq_true h13
                        refine r_seq ?_
                        refine r_region ?_
                        refine r_p (p_move rfl) rfl ?_
                        refine r_p (p_move rfl) rfl ?_
                        refine r_p (p_bin rfl rfl b_lt) rfl ?_
                        refine r_call (xs := [.tmp 81]) (bit_spec (decide (a < b))) cb33 [] [] [] [] rfl rfl rfl rfl rfl rfl rfl rfl (fun _ _ => rfl) (fun _ _ _ => rfl) rfl (fun _ _ => ?_)
                        refine r_store_all (k := 6) t28 rfl rfl rfl rfl rfl rfl ?_
                        refine r_nil ?_
                        refine r_cret ?_
                        refine r_ret () trivial rfl (rs1 (rv_cellA t28 rfl rfl rfl (g_all (k := 6) rfl))) (by unfold biF; rw [if_neg hoAdd, if_neg hoSub, if_neg hoMul, if_neg hoQuo, if_neg hoRem, if_neg hoAnd, if_neg hoOr, if_neg hoXor, if_neg hoShl, if_neg hoShr, if_pos hoLt]; first | rfl | (rw [if_pos hz]; rfl) | (rw [if_neg hz]; rfl)) [] [] rfl rfl rfl
                      · have hoLt : ¬ op = oLt := by rw [ba_eq] at h13; exact of_decide_eq_false h13
                        refine r_seq ?_
                        refine r_region ?_
                        refine r_p (p_bin rfl rfl b_seq) rfl ?_
                        refine r_p (p_assign rfl) rfl ?_
                        refine r_nil ?_
                        refine r_cond rfl (fun h14 => ?_) (fun h14 => ?_)
                        · have hoLe : op = oLe := by rw [ba_eq] at h14; exact of_decide_eq_true h14
                          refine r_seq ?_
                          refine r_region ?_
                          refine r_p (p_move rfl) rfl ?_
                          refine r_p (p_move rfl) rfl ?_
                          refine r_p (p_bin rfl rfl b_le) rfl ?_
                          refine r_call (xs := [.tmp 87]) (bit_spec (decide (a ≤ b))) cb33 [] [] [] [] rfl rfl rfl rfl rfl rfl rfl rfl (fun _ _ => rfl) (fun _ _ _ => rfl) rfl (fun _ _ => ?_)
                          refine r_store_all (k := 6) t28 rfl rfl rfl rfl rfl rfl ?_
                          refine r_nil ?_
                          refine r_cret ?_
                          refine r_ret () trivial rfl (rs1 (rv_cellA t28 rfl rfl rfl (g_all (k := 6) rfl))) (by unfold biF; rw [if_neg hoAdd, if_neg hoSub, if_neg hoMul, if_neg hoQuo, if_neg hoRem, if_neg hoAnd, if_neg hoOr, if_neg hoXor, if_neg hoShl, if_neg hoShr, if_neg hoLt, if_pos hoLe]; first | rfl | (rw [if_pos hz]; rfl) | (rw [if_neg hz]; rfl)) [] [] rfl rfl rfl
                        · have hoLe : ¬ op = oLe := by rw [ba_eq] at h14; exact of_decide_eq_false h14
                          refine r_seq ?_
                          refine r_region ?_
                          refine r_p (p_bin rfl rfl b_seq) rfl ?_
                          refine r_p (p_assign rfl) rfl ?_
                          refine r_nil ?_
                          refine r_cond rfl (fun h15 => ?_) (fun h15 => ?_)
                          · have hoGt : op = oGt := by rw [ba_eq] at h15; exact of_decide_eq_true h15
                            refine r_seq ?_
                            refine r_region ?_
                            refine r_p (p_move rfl) rfl ?_
                            refine r_p (p_move rfl) rfl ?_
                            refine r_p (p_bin rfl rfl b_gt) rfl ?_
                            refine r_call (xs := [.tmp 93]) (bit_spec (decide (a > b))) cb33 [] [] [] [] rfl rfl rfl rfl rfl rfl rfl rfl (fun _ _ => rfl) (fun _ _ _ => rfl) rfl (fun _ _ => ?_)
                            refine r_store_all (k := 6) t28 rfl rfl rfl rfl rfl rfl ?_
                            refine r_nil ?_
                            refine r_cret ?_
                            refine r_ret () trivial rfl (rs1 (rv_cellA t28 rfl rfl rfl (g_all (k := 6) rfl))) (by unfold biF; rw [if_neg hoAdd, if_neg hoSub, if_neg hoMul, if_neg hoQuo, if_neg hoRem, if_neg hoAnd, if_neg hoOr, if_neg hoXor, if_neg hoShl, if_neg hoShr, if_neg hoLt, if_neg hoLe, if_pos hoGt]; first | rfl | (rw [if_pos hz]; rfl) | (rw [if_neg hz]; rfl)) [] [] rfl rfl rfl
                          · have hoGt : ¬ op = oGt := by rw [ba_eq] at h15; exact of_decide_eq_false h15
                            refine r_seq ?_
                            refine r_region ?_
                            refine r_p (p_bin rfl rfl b_seq) rfl ?_
                            refine r_p (p_assign rfl) rfl ?_
                            refine r_nil ?_
                            refine r_cond rfl (fun h16 => ?_) (fun h16 => ?_)
                            · have hoGe : op = oGe := by rw [ba_eq] at h16; exact of_decide_eq_true h16
                              refine r_seq ?_
                              refine r_region ?_
                              refine r_p (p_move rfl) rfl ?_
                              refine r_p (p_move rfl) rfl ?_
                              refine r_p (p_bin rfl rfl b_ge) rfl ?_
                              refine r_call (xs := [.tmp 99]) (bit_spec (decide (a ≥ b))) cb33 [] [] [] [] rfl rfl rfl rfl rfl rfl rfl rfl (fun _ _ => rfl) (fun _ _ _ => rfl) rfl (fun _ _ => ?_)
                              refine r_store_all (k := 6) t28 rfl rfl rfl rfl rfl rfl ?_
                              refine r_nil ?_
                              refine r_cret ?_
                              refine r_ret () trivial rfl (rs1 (rv_cellA t28 rfl rfl rfl (g_all (k := 6) rfl))) (by unfold biF; rw [if_neg hoAdd, if_neg hoSub, if_neg hoMul, if_neg hoQuo, if_neg hoRem, if_neg hoAnd, if_neg hoOr, if_neg hoXor, if_neg hoShl, if_neg hoShr, if_neg hoLt, if_neg hoLe, if_neg hoGt, if_pos hoGe]; first | rfl | (rw [if_pos hz]; rfl) | (rw [if_neg hz]; rfl)) [] [] rfl rfl rfl
                            · have hoGe : ¬ op = oGe := by rw [ba_eq] at h16; exact of_decide_eq_false h16
                              refine r_seq ?_
                              refine r_region ?_
                              refine r_p (p_bin rfl rfl b_seq) rfl ?_
                              refine r_p (p_assign rfl) rfl ?_
                              refine r_nil ?_
                              refine r_cond rfl (fun h17 => ?_) (fun h17 => ?_)
                              · have hoEq : op = oEq := by rw [ba_eq] at h17; exact of_decide_eq_true h17
                                refine r_seq ?_
                                refine r_region ?_
                                refine r_p (p_move rfl) rfl ?_
                                refine r_p (p_move rfl) rfl ?_
                                refine r_p (p_bin rfl rfl b_eq) rfl ?_
                                refine r_call (xs := [.tmp 105]) (bit_spec (decide (a = b))) cb33 [] [] [] [] rfl rfl rfl rfl rfl rfl rfl rfl (fun _ _ => rfl) (fun _ _ _ => rfl) rfl (fun _ _ => ?_)
                                refine r_store_all (k := 6) t28 rfl rfl rfl rfl rfl rfl ?_
                                refine r_nil ?_
                                refine r_cret ?_
                                refine r_ret () trivial rfl (rs1 (rv_cellA t28 rfl rfl rfl (g_all (k := 6) rfl))) (by unfold biF; rw [if_neg hoAdd, if_neg hoSub, if_neg hoMul, if_neg hoQuo, if_neg hoRem, if_neg hoAnd, if_neg hoOr, if_neg hoXor, if_neg hoShl, if_neg hoShr, if_neg hoLt, if_neg hoLe, if_neg hoGt, if_neg hoGe, if_pos hoEq]; first | rfl | (rw [if_pos hz]; rfl) | (rw [if_neg hz]; rfl)) [] [] rfl rfl rfl
                              · have hoEq : ¬ op = oEq := by rw [ba_eq] at h17; exact of_decide_eq_false h17
                                refine r_seq ?_
                                refine r_region ?_
                                refine r_p (p_bin rfl rfl b_seq) rfl ?_
                                refine r_p (p_assign rfl) rfl ?_
                                refine r_nil ?_
                                refine r_cond rfl (fun h18 => ?_) (fun h18 => ?_)
                                · have hoNe : op = oNe := by rw [ba_eq] at h18; exact of_decide_eq_true h18
                                  refine r_seq ?_
                                  refine r_region ?_
                                  refine r_p (p_move rfl) rfl ?_
                                  refine r_p (p_move rfl) rfl ?_
                                  refine r_p (p_bin rfl rfl b_ne) rfl ?_
                                  refine r_call (xs := [.tmp 111]) (bit_spec (!decide (a = b))) cb33 [] [] [] [] rfl rfl rfl rfl rfl rfl rfl rfl (fun _ _ => rfl) (fun _ _ _ => rfl) rfl (fun _ _ => ?_)
                                  refine r_store_all (k := 6) t28 rfl rfl rfl rfl rfl rfl ?_
                                  refine r_nil ?_
                                  refine r_cret ?_
                                  refine r_ret () trivial rfl (rs1 (rv_cellA t28 rfl rfl rfl (g_all (k := 6) rfl))) (by unfold biF; rw [if_neg hoAdd, if_neg hoSub, if_neg hoMul, if_neg hoQuo, if_neg hoRem, if_neg hoAnd, if_neg hoOr, if_neg hoXor, if_neg hoShl, if_neg hoShr, if_neg hoLt, if_neg hoLe, if_neg hoGt, if_neg hoGe, if_neg hoEq, if_pos hoNe]; first | rfl | (rw [if_pos hz]; rfl) | (rw [if_neg hz]; rfl)) [] [] rfl rfl rfl
                                · have hoNe : ¬ op = oNe := by rw [ba_eq] at h18; exact of_decide_eq_false h18
                                  refine r_skip ?_
                                  refine r_seq ?_
                                  refine r_region ?_
                                  refine r_p (p_build (parts := []) t28 pl28 rfl rfl) rfl ?_
                                  refine r_store_all (k := 6) t28 rfl rfl rfl rfl rfl rfl ?_
                                  refine r_nil ?_
                                  refine r_cret ?_
                                  refine r_ret () trivial rfl (rs1 (rv_cellA t28 rfl rfl rfl (g_all (k := 6) rfl))) (by unfold biF; rw [if_neg hoAdd, if_neg hoSub, if_neg hoMul, if_neg hoQuo, if_neg hoRem, if_neg hoAnd, if_neg hoOr, if_neg hoXor, if_neg hoShl, if_neg hoShr, if_neg hoLt, if_neg hoLe, if_neg hoGt, if_neg hoGe, if_neg hoEq, if_neg hoNe]; first | rfl | (rw [if_pos hz]; rfl) | (rw [if_neg hz]; rfl)) [] [] rfl rfl rfl

end Go.Proofs.Ytdcbbkpdlcojfaa
