/-
  The law of the operators. Condition: the operands are words.
-/
import Derived.Test.YtdcbbkpdlcojfaaAY
namespace Go.Proofs.Ytdcbbkpdlcojfaa
set_option linter.unusedSimpArgs false
set_option linter.unusedVariables false
open Go.RowKit

theorem vO_eq (o : Option Int) : vO o = .agg #[.int .u32 (o.getD 0), .bool o.isSome] := by cases o <;> rfl
theorem runary_spec' (op : ByteArray) (a : Int) (ha : 0 ≤ a ∧ a < 4294967296) : Spec Try.prog 15 [.string op, .int .u32 a] [] [] (X := Unit) (fun _ => True) (fun _ => .agg #[.int .u32 ((unF op a).getD 0), .bool (unF op a).isSome]) (fun _ => []) (fun _ => []) := by
  rw [← vO_eq]
  exact runary_spec op a ha
theorem rbinary_spec' (op : ByteArray) (a b : Int) (ha : 0 ≤ a ∧ a < 4294967296) (hb : 0 ≤ b ∧ b < 4294967296) : Spec Try.prog 16 [.string op, .int .u32 a, .int .u32 b] [] [] (X := Unit) (fun _ => True) (fun _ => .agg #[.int .u32 ((biF op a b).getD 0), .bool (biF op a b).isSome]) (fun _ => []) (fun _ => []) := by
  rw [← vO_eq]
  exact rbinary_spec op a b ha hb
set_option maxHeartbeats 2000000 in
set_option maxRecDepth 100000 in
theorem operators_law (op : ByteArray) (a : Int) (ha : 0 ≤ a ∧ a < 4294967296) (b : Int) (hb : 0 ≤ b ∧ b < 4294967296) :
    Spec Try.prog 3 [.string op, .int .u32 a, .int .u32 b] [] [] (X := Unit) (fun _ => True) (fun _ => .bool true) (fun _ => []) (fun _ => []) := by
  refine r_enter Try.func3 rfl Try.ntmps3 rfl fun w0 M H => ?_
  refine r_seq ?_
  refine r_region ?_
  refine r_p (p_assign rfl) rfl ?_
  refine r_nil ?_
  refine r_seq ?_
  refine r_region ?_
  refine r_call (xs := []) sanity_spec cb12 [] [] [] [] rfl rfl rfl rfl rfl rfl rfl rfl (fun _ _ => rfl) (fun _ _ _ => rfl) rfl (fun _ _ => ?_)
  refine r_p (p_assign rfl) rfl ?_
  refine r_nil ?_
  refine r_seq ?_
  refine r_region ?_
  refine r_p (p_move rfl) rfl ?_
  refine r_p (p_move rfl) rfl ?_
  refine r_call (xs := [.tmp 16, .tmp 17]) (unary_spec op a ha) cb13 [] [] [] [] rfl rfl rfl rfl rfl rfl rfl rfl (fun _ _ => rfl) (fun _ _ _ => rfl) rfl (fun _ _ => ?_)
  refine r_p (p_move rfl) rfl ?_
  refine r_p (p_extract rfl rfl) rfl ?_
  refine r_p (p_extract rfl rfl) rfl ?_
  refine r_p (p_assign rfl) rfl ?_
  refine r_p (p_assign rfl) rfl ?_
  refine r_nil ?_
  refine r_seq ?_
  refine r_region ?_
  refine r_p (p_move rfl) rfl ?_
  refine r_p (p_move rfl) rfl ?_
  refine r_p (p_move rfl) rfl ?_
  refine r_call (xs := [.tmp 22, .tmp 23, .tmp 24]) (binary_spec op a b ha hb) cb14 [] [] [] [] rfl rfl rfl rfl rfl rfl rfl rfl (fun _ _ => rfl) (fun _ _ _ => rfl) rfl (fun _ _ => ?_)
  refine r_p (p_move rfl) rfl ?_
  refine r_p (p_extract rfl rfl) rfl ?_
  refine r_p (p_extract rfl rfl) rfl ?_
  refine r_p (p_assign rfl) rfl ?_
  refine r_p (p_assign rfl) rfl ?_
  refine r_nil ?_
  refine r_seq ?_
  refine r_region ?_
  refine r_p (p_move rfl) rfl ?_
  refine r_p (p_move rfl) rfl ?_
  refine r_call (xs := [.tmp 28, .tmp 29]) (runary_spec' op a ha) cb15 [] [] [] [] rfl rfl rfl rfl rfl rfl rfl rfl (fun _ _ => rfl) (fun _ _ _ => rfl) rfl (fun _ _ => ?_)
  refine r_alloc t28 rfl rfl fun b12 => ?_
  refine r_store_all (k := 12) t28 rfl rfl rfl rfl rfl rfl ?_
  refine r_nil ?_
  refine r_seq ?_
  refine r_region ?_
  refine r_p (p_move rfl) rfl ?_
  refine r_p (p_move rfl) rfl ?_
  refine r_p (p_move rfl) rfl ?_
  refine r_call (xs := [.tmp 31, .tmp 32, .tmp 33]) (rbinary_spec' op a b ha hb) cb16 [] [] [] [] rfl rfl rfl rfl rfl rfl rfl rfl (fun _ _ => rfl) (fun _ _ _ => rfl) rfl (fun _ _ => ?_)
  refine r_alloc t28 rfl rfl fun b13 => ?_
  refine r_store_all (k := 13) t28 rfl rfl rfl rfl rfl rfl ?_
  refine r_nil ?_
  refine r_seq ?_
  refine r_region ?_
  refine r_p (p_move rfl) rfl ?_
  refine r_p (p_move rfl) rfl ?_
  refine r_gp [] rfl rfl trivial (fun hg1 => p_move rfl) rfl ?_
  refine r_gp [(37, _)] rfl rfl ⟨rfl, trivial⟩ (fun hg2 => p_field0 fo28_0 rfl) rfl ?_
  refine r_gp [(37, _), (38, _)] rfl rfl ⟨rfl, rfl, trivial⟩ (fun hg3 => p_load1 t22 rfl rfl (g_row1 (k := 12) rfl rfl)) rfl ?_
  refine r_gp [(37, _), (38, _), (39, _)] rfl rfl ⟨rfl, rfl, rfl, trivial⟩ (fun hg4 => p_bin rfl rfl b_eq) rfl ?_
  refine r_p (p_pick rfl rfl rfl (by first | exact pick_and | exact pick_or |  rfl)) rfl ?_
  refine r_p (p_move rfl) rfl ?_
  refine r_gp [] rfl rfl trivial (fun hg5 => p_move rfl) rfl ?_
  refine r_gp [(43, _)] rfl rfl ⟨rfl, trivial⟩ (fun hg6 => p_field0 fo28_1 rfl) rfl ?_
  refine r_gp [(43, _), (44, _)] rfl rfl ⟨rfl, rfl, trivial⟩ (fun hg7 => p_load1 t4 rfl rfl (g_row1 (k := 12) rfl rfl)) rfl ?_
  refine r_gp [(43, _), (44, _), (45, _)] rfl rfl ⟨rfl, rfl, rfl, trivial⟩ (fun hg8 => p_bin rfl rfl (b_beq Try.underlying4)) rfl ?_
  refine r_p (p_pick rfl rfl rfl (by first | exact pick_and | exact pick_or |  rfl)) rfl ?_
  refine r_p (p_move rfl) rfl ?_
  refine r_gp [] rfl rfl trivial (fun hg9 => p_move rfl) rfl ?_
  refine r_gp [(49, _)] rfl rfl ⟨rfl, trivial⟩ (fun hg10 => p_field0 fo28_0 rfl) rfl ?_
  refine r_gp [(49, _), (50, _)] rfl rfl ⟨rfl, rfl, trivial⟩ (fun hg11 => p_load1 t22 rfl rfl (g_row1 (k := 13) rfl rfl)) rfl ?_
  refine r_gp [(49, _), (50, _), (51, _)] rfl rfl ⟨rfl, rfl, rfl, trivial⟩ (fun hg12 => p_bin rfl rfl b_eq) rfl ?_
  refine r_p (p_pick rfl rfl rfl (by first | exact pick_and | exact pick_or |  rfl)) rfl ?_
  refine r_p (p_move rfl) rfl ?_
  refine r_gp [] rfl rfl trivial (fun hg13 => p_move rfl) rfl ?_
  refine r_gp [(55, _)] rfl rfl ⟨rfl, trivial⟩ (fun hg14 => p_field0 fo28_1 rfl) rfl ?_
  refine r_gp [(55, _), (56, _)] rfl rfl ⟨rfl, rfl, trivial⟩ (fun hg15 => p_load1 t4 rfl rfl (g_row1 (k := 13) rfl rfl)) rfl ?_
  refine r_gp [(55, _), (56, _), (57, _)] rfl rfl ⟨rfl, rfl, rfl, trivial⟩ (fun hg16 => p_bin rfl rfl (b_beq Try.underlying4)) rfl ?_
  refine r_p (p_pick rfl rfl rfl (by first | exact pick_and | exact pick_or |  rfl)) rfl ?_
  refine r_p (p_assign rfl) rfl ?_
  refine r_nil ?_
  refine r_cret ?_
  refine r_ret () trivial rfl (rs1 (rv_tmp rfl)) (congrArg Value.bool (by simp)) [] [] rfl rfl rfl

end Go.Proofs.Ytdcbbkpdlcojfaa
