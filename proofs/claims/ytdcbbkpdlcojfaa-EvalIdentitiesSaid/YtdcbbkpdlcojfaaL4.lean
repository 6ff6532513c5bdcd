/-
  The law of the identities. Condition: the operands are words.
-/
import Derived.Test.YtdcbbkpdlcojfaaB1
namespace Go.Proofs.Ytdcbbkpdlcojfaa
set_option linter.unusedSimpArgs false
set_option linter.unusedVariables false
open Go.RowKit

set_option maxRecDepth 100000 in
theorem of_spec (op : ByteArray) (a b u : Int) (c : Nat) (ha : oW a) (hb : oW b) (hu : biF op a b = some u) :
    Spec Try.prog 17 [.string op, .int .u32 a, .int .u32 b, .pointer (some ⟨c, 0, none⟩)] [] [] (X := Unit) (fun _ => True) (fun _ => .int .u32 u) (fun _ => []) (fun _ => []) := by
  refine r_enter Try.func17 rfl Try.ntmps17 rfl fun w0 M H => ?_
  refine r_seq ?_
  refine r_region ?_
  refine r_p (p_assign rfl) rfl ?_
  refine r_nil ?_
  refine r_seq ?_
  refine r_region ?_
  refine r_p (p_move rfl) rfl ?_
  refine r_p (p_move rfl) rfl ?_
  refine r_p (p_move rfl) rfl ?_
  refine r_call (xs := [.tmp 11, .tmp 12, .tmp 13]) (binary_spec op a b ha hb) cb14 [] [] [] [] rfl rfl rfl rfl rfl rfl rfl rfl (fun _ _ => rfl) (fun _ _ _ => rfl) rfl (fun _ _ => ?_)
  rw [hu]
  refine r_p (p_move rfl) rfl ?_
  refine r_p (p_extract rfl rfl) rfl ?_
  refine r_p (p_extract rfl rfl) rfl ?_
  refine r_p (p_assign rfl) rfl ?_
  refine r_p (p_assign rfl) rfl ?_
  refine r_nil ?_
  refine r_seq ?_
  refine r_seq ?_
  refine r_region ?_
  refine r_p (p_move rfl) rfl ?_
  refine r_p (p_not rfl) rfl ?_
  refine r_nil ?_
  refine r_cond rfl (fun h1 => ?_) (fun h1 => ?_)
  · exact absurd h1 (by simp)
  · refine r_skip ?_
    refine r_seq ?_
    refine r_region ?_
    refine r_p (p_move rfl) rfl ?_
    refine r_p (p_assign rfl) rfl ?_
    refine r_nil ?_
    refine r_cret ?_
    refine r_ret () trivial rfl (rs1 (rv_tmp rfl)) rfl [] [] rfl rfl rfl
set_option maxHeartbeats 8000000 in
set_option maxRecDepth 100000 in
theorem identities_law (a : Int) (ha : 0 ≤ a ∧ a < 4294967296) (b : Int) (hb : 0 ≤ b ∧ b < 4294967296) :
    Spec Try.prog 4 [.int .u32 a, .int .u32 b] [] [] (X := Unit) (fun _ => True) (fun _ => .bool true) (fun _ => []) (fun _ => []) := by
  refine r_enter Try.func4 rfl Try.ntmps4 rfl fun w0 M H => ?_
  refine r_seq ?_
  refine r_region ?_
  refine r_p (p_assign rfl) rfl ?_
  refine r_nil ?_
  refine r_seq ?_
  refine r_region ?_
  refine r_call (xs := []) sanity_spec cb12 [] [] [] [] rfl rfl rfl rfl rfl rfl rfl rfl (fun _ _ => rfl) (fun _ _ _ => rfl) rfl (fun _ _ => ?_)
  refine r_alloc t4 rfl rfl fun b5 => ?_
  refine r_store_row (k := 5) t4 rfl rfl rfl rfl rfl rfl rfl rfl ?_
  refine r_nil ?_
  refine r_seq ?_
  refine r_region ?_
  refine r_p (p_makeFunc (first := []) (cap := [.tmp 5]) rfl rfl) rfl ?_
  refine r_p (p_assign rfl) rfl ?_
  refine r_nil ?_
  refine r_seq ?_
  refine r_region ?_
  refine r_p (p_move rfl) rfl ?_
  refine r_call (xs := [.const (.string (ByteArray.mk #[45])), .tmp 20]) (unary_spec oSub a ha) cb13 [] [] [] [] rfl rfl rfl rfl rfl rfl rfl rfl (fun _ _ => rfl) (fun _ _ _ => rfl) rfl (fun _ _ => ?_)
  rw [show (unF oSub a).getD 0 = wU (-a) from rfl]
  refine r_p (p_move rfl) rfl ?_
  refine r_p (p_extract rfl rfl) rfl ?_
  refine r_p (p_extract rfl rfl) rfl ?_
  refine r_p (p_assign rfl) rfl ?_
  refine r_p (p_assign rfl) rfl ?_
  refine r_nil ?_
  refine r_seq ?_
  refine r_region ?_
  refine r_p (p_move rfl) rfl ?_
  refine r_call (xs := [.const (.string (ByteArray.mk #[126])), .tmp 25]) (unary_spec oCom a ha) cb13 [] [] [] [] rfl rfl rfl rfl rfl rfl rfl rfl (fun _ _ => rfl) (fun _ _ _ => rfl) rfl (fun _ _ => ?_)
  rw [show (unF oCom a).getD 0 = 4294967295 - a from rfl]
  refine r_p (p_move rfl) rfl ?_
  refine r_p (p_extract rfl rfl) rfl ?_
  refine r_p (p_extract rfl rfl) rfl ?_
  refine r_p (p_assign rfl) rfl ?_
  refine r_p (p_assign rfl) rfl ?_
  refine r_nil ?_
  refine r_seq ?_
  refine r_region ?_
  refine r_p (p_move rfl) rfl ?_
  refine r_call (xs := [.const (.string (ByteArray.mk #[33])), .tmp 30]) (unary_spec oNot a ha) cb13 [] [] [] [] rfl rfl rfl rfl rfl rfl rfl rfl (fun _ _ => rfl) (fun _ _ _ => rfl) rfl (fun _ _ => ?_)
  rw [show (unF oNot a).getD 0 = tr (decide (a = 0)) from rfl]
  refine r_p (p_move rfl) rfl ?_
  refine r_p (p_extract rfl rfl) rfl ?_
  refine r_p (p_extract rfl rfl) rfl ?_
  refine r_p (p_assign rfl) rfl ?_
  refine r_p (p_assign rfl) rfl ?_
  refine r_nil ?_
  refine r_seq ?_
  refine r_norm [(0, .int .u32 a), (1, .int .u32 b), (5, .pointer (some ⟨b5, 0, none⟩)), (6, .func (.func 17) #[] #[.pointer (some ⟨b5, 0, none⟩)]), (7, .int .u32 (wU (-a))), (9, .int .u32 (4294967295 - a)), (11, .int .u32 (tr (decide (a = 0))))] [(5, row b5 4 [.bool true])] [] rfl rfl rfl ?_
  refine r_region ?_
  refine r_p (p_move rfl) rfl ?_
  refine r_p (p_move rfl) rfl ?_
  refine r_p (p_move rfl) rfl ?_
  refine r_p (p_move rfl) rfl ?_
  refine r_p (p_move rfl) rfl ?_
  refine r_call (xs := [.const (.string (ByteArray.mk #[47])), .tmp 37, .tmp 38]) (of_spec oQuo (a) (b) ((if b = 0 then 0 else a / b)) b5 ha hb rfl) cb17 [] [] [] [] rfl rfl rfl rfl rfl rfl rfl rfl (fun _ _ => rfl) (fun _ _ _ => rfl) rfl (fun _ _ => ?_)
  refine r_p (p_move rfl) rfl ?_
  refine r_call (xs := [.const (.string (ByteArray.mk #[42])), .tmp 39, .tmp 40]) (of_spec oMul ((if b = 0 then 0 else a / b)) (b) (wU ((if b = 0 then 0 else a / b) * b)) b5 (show oW (if b = 0 then 0 else a / b) from oW_bi (op := oQuo) ha hb) hb rfl) cb17 [] [] [] [] rfl rfl rfl rfl rfl rfl rfl rfl (fun _ _ => rfl) (fun _ _ _ => rfl) rfl (fun _ _ => ?_)
  refine r_p (p_move rfl) rfl ?_
  refine r_p (p_move rfl) rfl ?_
  refine r_p (p_move rfl) rfl ?_
  refine r_call (xs := [.const (.string (ByteArray.mk #[37])), .tmp 43, .tmp 44]) (of_spec oRem (a) (b) ((if b = 0 then a else a % b)) b5 ha hb rfl) cb17 [] [] [] [] rfl rfl rfl rfl rfl rfl rfl rfl (fun _ _ => rfl) (fun _ _ _ => rfl) rfl (fun _ _ => ?_)
  refine r_call (xs := [.const (.string (ByteArray.mk #[43])), .tmp 41, .tmp 45]) (of_spec oAdd (wU ((if b = 0 then 0 else a / b) * b)) ((if b = 0 then a else a % b)) (wU (wU ((if b = 0 then 0 else a / b) * b) + (if b = 0 then a else a % b))) b5 (oW_wU ((if b = 0 then 0 else a / b) * b)) (show oW (if b = 0 then a else a % b) from oW_bi (op := oRem) ha hb) rfl) cb17 [] [] [] [] rfl rfl rfl rfl rfl rfl rfl rfl (fun _ _ => rfl) (fun _ _ _ => rfl) rfl (fun _ _ => ?_)
  refine r_p (p_move rfl) rfl ?_
  refine r_p (p_bin rfl rfl b_eq) rfl ?_
  with_reducible rw [id_div ha hb]
  refine r_p (p_move rfl) rfl ?_
  refine r_gyes rfl rfl ?_
  refine r_p (p_move rfl) rfl ?_
  refine r_gyes rfl rfl ?_
  refine r_p (p_bin rfl rfl b_eq) rfl ?_
  refine r_gyes rfl rfl ?_
  refine r_p (p_move rfl) rfl ?_
  refine r_gp [] rfl rfl trivial (fun hg1 => p_move rfl) rfl ?_
  refine r_gp [(53, _)] rfl rfl ⟨rfl, trivial⟩ (fun hg2 => p_move rfl) rfl ?_
  refine r_gp [(53, _), (54, _)] rfl rfl ⟨rfl, rfl, trivial⟩ (fun hg3 => p_move rfl) rfl ?_
  refine r_gms [(53, _), (54, _), (55, _)] rfl rfl ⟨rfl, rfl, rfl, trivial⟩ (fun hg4 => ms_call (xs := [.const (.string (ByteArray.mk #[37])), .tmp 54, .tmp 55]) (of_spec oRem (a) (b) ((if b = 0 then a else a % b)) b5 ha hb rfl) cb17 [] [] [] [] rfl rfl rfl rfl rfl rfl rfl rfl (fun _ _ => rfl) (fun _ _ _ => rfl)) rfl ?_
  refine r_gp [(53, _), (54, _), (55, _), (56, _)] rfl rfl ⟨rfl, rfl, rfl, rfl, trivial⟩ (fun hg5 => p_move rfl) rfl ?_
  refine r_gp [(53, _), (54, _), (55, _), (56, _), (57, _)] rfl rfl ⟨rfl, rfl, rfl, rfl, rfl, trivial⟩ (fun hg6 => p_bin rfl rfl b_lt) rfl ?_
  refine r_gyes rfl rfl ?_
  refine r_p (p_pick rfl rfl rfl (by first | exact pick_and | exact pick_or |  rfl)) rfl ?_
  with_reducible rw [id_rem ha hb]
  refine r_p (p_pick rfl rfl rfl (pick_t rfl)) rfl ?_
  refine r_p (p_assign rfl) rfl ?_
  refine r_nil ?_
  refine r_seq ?_
  refine r_norm [(0, .int .u32 a), (1, .int .u32 b), (5, .pointer (some ⟨b5, 0, none⟩)), (6, .func (.func 17) #[] #[.pointer (some ⟨b5, 0, none⟩)]), (7, .int .u32 (wU (-a))), (9, .int .u32 (4294967295 - a)), (11, .int .u32 (tr (decide (a = 0)))), (13, .bool true)] [(5, row b5 4 [.bool true])] [] rfl rfl rfl ?_
  refine r_region ?_
  refine r_p (p_move rfl) rfl ?_
  refine r_p (p_move rfl) rfl ?_
  refine r_p (p_move rfl) rfl ?_
  refine r_call (xs := [.const (.string (ByteArray.mk #[60])), .tmp 62, .tmp 63]) (of_spec oLt (a) (b) (tr (decide (a < b))) b5 ha hb rfl) cb17 [] [] [] [] rfl rfl rfl rfl rfl rfl rfl rfl (fun _ _ => rfl) (fun _ _ _ => rfl) rfl (fun _ _ => ?_)
  refine r_p (p_move rfl) rfl ?_
  refine r_p (p_move rfl) rfl ?_
  refine r_p (p_move rfl) rfl ?_
  refine r_call (xs := [.const (.string (ByteArray.mk #[62, 61])), .tmp 66, .tmp 67]) (of_spec oGe (a) (b) (tr (decide (a ≥ b))) b5 ha hb rfl) cb17 [] [] [] [] rfl rfl rfl rfl rfl rfl rfl rfl (fun _ _ => rfl) (fun _ _ _ => rfl) rfl (fun _ _ => ?_)
  refine r_p (p_bin rfl rfl (b_add rfl)) rfl ?_
  refine r_p (p_bin rfl rfl b_eq) rfl ?_
  with_reducible rw [id_lt a b]
  refine r_p (p_move rfl) rfl ?_
  refine r_gyes rfl rfl ?_
  refine r_p (p_move rfl) rfl ?_
  refine r_gyes rfl rfl ?_
  refine r_p (p_move rfl) rfl ?_
  refine r_gyes rfl rfl ?_
  refine r_p (p_move rfl) rfl ?_
  refine r_gyes rfl rfl ?_
  refine r_call (xs := [.const (.string (ByteArray.mk #[62])), .tmp 73, .tmp 74]) (of_spec oGt (a) (b) (tr (decide (a > b))) b5 ha hb rfl) cb17 [] [] [] [] rfl rfl rfl rfl rfl rfl rfl rfl (fun _ _ => rfl) (fun _ _ _ => rfl) rfl (fun _ _ => ?_)
  refine r_gyes rfl rfl ?_
  refine r_p (p_move rfl) rfl ?_
  refine r_gyes rfl rfl ?_
  refine r_p (p_move rfl) rfl ?_
  refine r_gyes rfl rfl ?_
  refine r_p (p_move rfl) rfl ?_
  refine r_gyes rfl rfl ?_
  refine r_call (xs := [.const (.string (ByteArray.mk #[60, 61])), .tmp 77, .tmp 78]) (of_spec oLe (a) (b) (tr (decide (a ≤ b))) b5 ha hb rfl) cb17 [] [] [] [] rfl rfl rfl rfl rfl rfl rfl rfl (fun _ _ => rfl) (fun _ _ _ => rfl) rfl (fun _ _ => ?_)
  refine r_gyes rfl rfl ?_
  refine r_p (p_bin rfl rfl (b_add rfl)) rfl ?_
  refine r_gyes rfl rfl ?_
  refine r_p (p_bin rfl rfl b_eq) rfl ?_
  with_reducible rw [id_gt a b]
  refine r_p (p_pick rfl rfl rfl (pick_t rfl)) rfl ?_
  refine r_p (p_move rfl) rfl ?_
  refine r_gyes rfl rfl ?_
  refine r_p (p_move rfl) rfl ?_
  refine r_gyes rfl rfl ?_
  refine r_p (p_move rfl) rfl ?_
  refine r_gyes rfl rfl ?_
  refine r_p (p_move rfl) rfl ?_
  refine r_gyes rfl rfl ?_
  refine r_call (xs := [.const (.string (ByteArray.mk #[61, 61])), .tmp 85, .tmp 86]) (of_spec oEq (a) (b) (tr (decide (a = b))) b5 ha hb rfl) cb17 [] [] [] [] rfl rfl rfl rfl rfl rfl rfl rfl (fun _ _ => rfl) (fun _ _ _ => rfl) rfl (fun _ _ => ?_)
  refine r_gyes rfl rfl ?_
  refine r_p (p_move rfl) rfl ?_
  refine r_gyes rfl rfl ?_
  refine r_p (p_move rfl) rfl ?_
  refine r_gyes rfl rfl ?_
  refine r_p (p_move rfl) rfl ?_
  refine r_gyes rfl rfl ?_
  refine r_call (xs := [.const (.string (ByteArray.mk #[33, 61])), .tmp 89, .tmp 90]) (of_spec oNe (a) (b) (tr (!decide (a = b))) b5 ha hb rfl) cb17 [] [] [] [] rfl rfl rfl rfl rfl rfl rfl rfl (fun _ _ => rfl) (fun _ _ _ => rfl) rfl (fun _ _ => ?_)
  refine r_gyes rfl rfl ?_
  refine r_p (p_bin rfl rfl (b_add rfl)) rfl ?_
  refine r_gyes rfl rfl ?_
  refine r_p (p_bin rfl rfl b_eq) rfl ?_
  with_reducible rw [id_eq a b]
  refine r_p (p_pick rfl rfl rfl (pick_t rfl)) rfl ?_
  refine r_p (p_move rfl) rfl ?_
  refine r_gyes rfl rfl ?_
  refine r_p (p_move rfl) rfl ?_
  refine r_gyes rfl rfl ?_
  refine r_p (p_move rfl) rfl ?_
  refine r_gyes rfl rfl ?_
  refine r_p (p_move rfl) rfl ?_
  refine r_gyes rfl rfl ?_
  refine r_call (xs := [.const (.string (ByteArray.mk #[60])), .tmp 97, .tmp 98]) (of_spec oLt (a) (b) (tr (decide (a < b))) b5 ha hb rfl) cb17 [] [] [] [] rfl rfl rfl rfl rfl rfl rfl rfl (fun _ _ => rfl) (fun _ _ _ => rfl) rfl (fun _ _ => ?_)
  refine r_gyes rfl rfl ?_
  refine r_p (p_move rfl) rfl ?_
  refine r_gyes rfl rfl ?_
  refine r_p (p_move rfl) rfl ?_
  refine r_gyes rfl rfl ?_
  refine r_p (p_move rfl) rfl ?_
  refine r_gyes rfl rfl ?_
  refine r_call (xs := [.const (.string (ByteArray.mk #[62])), .tmp 101, .tmp 102]) (of_spec oGt (b) (a) (tr (decide (b > a))) b5 hb ha rfl) cb17 [] [] [] [] rfl rfl rfl rfl rfl rfl rfl rfl (fun _ _ => rfl) (fun _ _ _ => rfl) rfl (fun _ _ => ?_)
  refine r_gyes rfl rfl ?_
  refine r_p (p_bin rfl rfl b_eq) rfl ?_
  with_reducible rw [id_sw a b]
  refine r_p (p_pick rfl rfl rfl (pick_t rfl)) rfl ?_
  refine r_p (p_move rfl) rfl ?_
  refine r_gyes rfl rfl ?_
  refine r_p (p_move rfl) rfl ?_
  refine r_gyes rfl rfl ?_
  refine r_p (p_move rfl) rfl ?_
  refine r_gyes rfl rfl ?_
  refine r_p (p_move rfl) rfl ?_
  refine r_gyes rfl rfl ?_
  refine r_call (xs := [.const (.string (ByteArray.mk #[60])), .tmp 108, .tmp 109]) (of_spec oLt (a) (b) (tr (decide (a < b))) b5 ha hb rfl) cb17 [] [] [] [] rfl rfl rfl rfl rfl rfl rfl rfl (fun _ _ => rfl) (fun _ _ _ => rfl) rfl (fun _ _ => ?_)
  refine r_gyes rfl rfl ?_
  refine r_p (p_move rfl) rfl ?_
  refine r_gyes rfl rfl ?_
  refine r_p (p_move rfl) rfl ?_
  refine r_gyes rfl rfl ?_
  refine r_p (p_move rfl) rfl ?_
  refine r_gyes rfl rfl ?_
  refine r_call (xs := [.const (.string (ByteArray.mk #[61, 61])), .tmp 112, .tmp 113]) (of_spec oEq (a) (b) (tr (decide (a = b))) b5 ha hb rfl) cb17 [] [] [] [] rfl rfl rfl rfl rfl rfl rfl rfl (fun _ _ => rfl) (fun _ _ _ => rfl) rfl (fun _ _ => ?_)
  refine r_gyes rfl rfl ?_
  refine r_p (p_bin rfl rfl (b_add rfl)) rfl ?_
  refine r_gyes rfl rfl ?_
  refine r_p (p_move rfl) rfl ?_
  refine r_gyes rfl rfl ?_
  refine r_p (p_move rfl) rfl ?_
  refine r_gyes rfl rfl ?_
  refine r_p (p_move rfl) rfl ?_
  refine r_gyes rfl rfl ?_
  refine r_call (xs := [.const (.string (ByteArray.mk #[62])), .tmp 117, .tmp 118]) (of_spec oGt (a) (b) (tr (decide (a > b))) b5 ha hb rfl) cb17 [] [] [] [] rfl rfl rfl rfl rfl rfl rfl rfl (fun _ _ => rfl) (fun _ _ _ => rfl) rfl (fun _ _ => ?_)
  refine r_gyes rfl rfl ?_
  refine r_p (p_bin rfl rfl (b_add rfl)) rfl ?_
  refine r_gyes rfl rfl ?_
  refine r_p (p_bin rfl rfl b_eq) rfl ?_
  with_reducible rw [id_tri a b]
  refine r_p (p_pick rfl rfl rfl (pick_t rfl)) rfl ?_
  refine r_p (p_assign rfl) rfl ?_
  refine r_nil ?_
  refine r_seq ?_
  refine r_norm [(0, .int .u32 a), (1, .int .u32 b), (5, .pointer (some ⟨b5, 0, none⟩)), (6, .func (.func 17) #[] #[.pointer (some ⟨b5, 0, none⟩)]), (7, .int .u32 (wU (-a))), (9, .int .u32 (4294967295 - a)), (11, .int .u32 (tr (decide (a = 0)))), (13, .bool true), (14, .bool true)] [(5, row b5 4 [.bool true])] [] rfl rfl rfl ?_
  refine r_region ?_
  refine r_p (p_move rfl) rfl ?_
  refine r_p (p_move rfl) rfl ?_
  refine r_call (xs := [.const (.string (ByteArray.mk #[60, 60])), .const (.int .u32 1), .tmp 124]) (of_spec oShl (1) (b) (wU (1 * 2 ^ (b % 32).toNat)) b5 ⟨by decide, by decide⟩ hb rfl) cb17 [] [] [] [] rfl rfl rfl rfl rfl rfl rfl rfl (fun _ _ => rfl) (fun _ _ _ => rfl) rfl (fun _ _ => ?_)
  refine r_p (p_assign rfl) rfl ?_
  refine r_nil ?_
  refine r_seq ?_
  refine r_norm [(0, .int .u32 a), (1, .int .u32 b), (5, .pointer (some ⟨b5, 0, none⟩)), (6, .func (.func 17) #[] #[.pointer (some ⟨b5, 0, none⟩)]), (7, .int .u32 (wU (-a))), (9, .int .u32 (4294967295 - a)), (11, .int .u32 (tr (decide (a = 0)))), (13, .bool true), (14, .bool true), (15, .int .u32 (wU (1 * 2 ^ (b % 32).toNat)))] [(5, row b5 4 [.bool true])] [] rfl rfl rfl ?_
  refine r_region ?_
  refine r_p (p_move rfl) rfl ?_
  refine r_p (p_move rfl) rfl ?_
  refine r_p (p_move rfl) rfl ?_
  refine r_call (xs := [.const (.string (ByteArray.mk #[60, 60])), .tmp 127, .tmp 128]) (of_spec oShl (a) (b) (wU (a * 2 ^ (b % 32).toNat)) b5 ha hb rfl) cb17 [] [] [] [] rfl rfl rfl rfl rfl rfl rfl rfl (fun _ _ => rfl) (fun _ _ _ => rfl) rfl (fun _ _ => ?_)
  refine r_p (p_move rfl) rfl ?_
  refine r_p (p_move rfl) rfl ?_
  refine r_p (p_move rfl) rfl ?_
  refine r_call (xs := [.const (.string (ByteArray.mk #[42])), .tmp 131, .tmp 132]) (of_spec oMul (a) ((wU (1 * 2 ^ (b % 32).toNat))) (wU (a * (wU (1 * 2 ^ (b % 32).toNat)))) b5 ha (oW_wU (1 * 2 ^ (b % 32).toNat)) rfl) cb17 [] [] [] [] rfl rfl rfl rfl rfl rfl rfl rfl (fun _ _ => rfl) (fun _ _ _ => rfl) rfl (fun _ _ => ?_)
  refine r_p (p_bin rfl rfl b_eq) rfl ?_
  with_reducible rw [id_shl a b]
  refine r_p (p_move rfl) rfl ?_
  refine r_gyes rfl rfl ?_
  refine r_p (p_move rfl) rfl ?_
  refine r_gyes rfl rfl ?_
  refine r_p (p_move rfl) rfl ?_
  refine r_gyes rfl rfl ?_
  refine r_p (p_move rfl) rfl ?_
  refine r_gyes rfl rfl ?_
  refine r_call (xs := [.const (.string (ByteArray.mk #[62, 62])), .tmp 137, .tmp 138]) (of_spec oShr (a) (b) (a / 2 ^ (b % 32).toNat) b5 ha hb rfl) cb17 [] [] [] [] rfl rfl rfl rfl rfl rfl rfl rfl (fun _ _ => rfl) (fun _ _ _ => rfl) rfl (fun _ _ => ?_)
  refine r_gyes rfl rfl ?_
  refine r_p (p_move rfl) rfl ?_
  refine r_gyes rfl rfl ?_
  refine r_p (p_move rfl) rfl ?_
  refine r_gyes rfl rfl ?_
  refine r_p (p_move rfl) rfl ?_
  refine r_gyes rfl rfl ?_
  refine r_call (xs := [.const (.string (ByteArray.mk #[47])), .tmp 141, .tmp 142]) (of_spec oQuo (a) ((wU (1 * 2 ^ (b % 32).toNat))) (if (wU (1 * 2 ^ (b % 32).toNat)) = 0 then 0 else a / (wU (1 * 2 ^ (b % 32).toNat))) b5 ha (oW_wU (1 * 2 ^ (b % 32).toNat)) rfl) cb17 [] [] [] [] rfl rfl rfl rfl rfl rfl rfl rfl (fun _ _ => rfl) (fun _ _ _ => rfl) rfl (fun _ _ => ?_)
  refine r_gyes rfl rfl ?_
  refine r_p (p_bin rfl rfl b_eq) rfl ?_
  with_reducible rw [id_shr a b]
  refine r_p (p_pick rfl rfl rfl (pick_t rfl)) rfl ?_
  refine r_p (p_assign rfl) rfl ?_
  refine r_nil ?_
  refine r_seq ?_
  refine r_norm [(0, .int .u32 a), (1, .int .u32 b), (5, .pointer (some ⟨b5, 0, none⟩)), (6, .func (.func 17) #[] #[.pointer (some ⟨b5, 0, none⟩)]), (7, .int .u32 (wU (-a))), (9, .int .u32 (4294967295 - a)), (11, .int .u32 (tr (decide (a = 0)))), (13, .bool true), (14, .bool true), (15, .int .u32 (wU (1 * 2 ^ (b % 32).toNat))), (16, .bool true)] [(5, row b5 4 [.bool true])] [] rfl rfl rfl ?_
  refine r_region ?_
  refine r_p (p_move rfl) rfl ?_
  refine r_p (p_move rfl) rfl ?_
  refine r_gyes rfl rfl ?_
  refine r_p (p_move rfl) rfl ?_
  refine r_p (p_pick rfl rfl rfl (pick_t rfl)) rfl ?_
  refine r_p (p_move rfl) rfl ?_
  refine r_gyes rfl rfl ?_
  refine r_p (p_move rfl) rfl ?_
  refine r_p (p_pick rfl rfl rfl (pick_t rfl)) rfl ?_
  refine r_p (p_move rfl) rfl ?_
  refine r_gyes rfl rfl ?_
  refine r_p (p_move rfl) rfl ?_
  refine r_gyes rfl rfl ?_
  refine r_p (p_move rfl) rfl ?_
  refine r_gyes rfl rfl ?_
  refine r_p (p_move rfl) rfl ?_
  refine r_gyes rfl rfl ?_
  refine r_call (xs := [.const (.string (ByteArray.mk #[43])), .tmp 155, .tmp 156]) (of_spec oAdd (a) (wU (-a)) (wU (a + wU (-a))) b5 ha (oW_wU (-a)) rfl) cb17 [] [] [] [] rfl rfl rfl rfl rfl rfl rfl rfl (fun _ _ => rfl) (fun _ _ _ => rfl) rfl (fun _ _ => ?_)
  refine r_gyes rfl rfl ?_
  refine r_p (p_bin rfl rfl b_eq) rfl ?_
  with_reducible rw [id_neg ha]
  refine r_p (p_pick rfl rfl rfl (pick_t rfl)) rfl ?_
  refine r_p (p_move rfl) rfl ?_
  refine r_gyes rfl rfl ?_
  refine r_p (p_move rfl) rfl ?_
  refine r_gyes rfl rfl ?_
  refine r_p (p_move rfl) rfl ?_
  refine r_gyes rfl rfl ?_
  refine r_call (xs := [.const (.string (ByteArray.mk #[43])), .tmp 162, .const (.int .u32 4294967295)]) (of_spec oAdd (wU (-a)) (4294967295) (wU (wU (-a) + 4294967295)) b5 (oW_wU (-a)) ⟨by decide, by decide⟩ rfl) cb17 [] [] [] [] rfl rfl rfl rfl rfl rfl rfl rfl (fun _ _ => rfl) (fun _ _ _ => rfl) rfl (fun _ _ => ?_)
  refine r_gyes rfl rfl ?_
  refine r_p (p_move rfl) rfl ?_
  refine r_gyes rfl rfl ?_
  refine r_p (p_bin rfl rfl b_eq) rfl ?_
  with_reducible rw [id_com ha]
  refine r_p (p_pick rfl rfl rfl (pick_t rfl)) rfl ?_
  refine r_p (p_move rfl) rfl ?_
  refine r_gyes rfl rfl ?_
  refine r_p (p_move rfl) rfl ?_
  refine r_gyes rfl rfl ?_
  refine r_p (p_move rfl) rfl ?_
  refine r_gyes rfl rfl ?_
  refine r_p (p_move rfl) rfl ?_
  refine r_gyes rfl rfl ?_
  refine r_call (xs := [.const (.string (ByteArray.mk #[61, 61])), .tmp 170, .const (.int .u32 0)]) (of_spec oEq (a) (0) (tr (decide (a = 0))) b5 ha oW0 rfl) cb17 [] [] [] [] rfl rfl rfl rfl rfl rfl rfl rfl (fun _ _ => rfl) (fun _ _ _ => rfl) rfl (fun _ _ => ?_)
  refine r_gyes rfl rfl ?_
  refine r_p (p_bin rfl rfl b_eq) rfl ?_
  with_reducible rw [decide_eq_true (rfl : tr (decide (a = 0)) = tr (decide (a = 0)))]
  refine r_p (p_pick rfl rfl rfl (pick_t rfl)) rfl ?_
  refine r_p (p_move rfl) rfl ?_
  refine r_gyes rfl rfl ?_
  refine r_p (p_move rfl) rfl ?_
  refine r_gyes rfl rfl ?_
  refine r_p (p_move rfl) rfl ?_
  refine r_gyes rfl rfl ?_
  refine r_p (p_move rfl) rfl ?_
  refine r_gyes rfl rfl ?_
  refine r_call (xs := [.const (.string (ByteArray.mk #[94])), .tmp 176, .tmp 177]) (of_spec oXor (a) (b) (bits .xor .u32 a b) b5 ha hb rfl) cb17 [] [] [] [] rfl rfl rfl rfl rfl rfl rfl rfl (fun _ _ => rfl) (fun _ _ _ => rfl) rfl (fun _ _ => ?_)
  refine r_gyes rfl rfl ?_
  refine r_p (p_move rfl) rfl ?_
  refine r_gyes rfl rfl ?_
  refine r_p (p_move rfl) rfl ?_
  refine r_gyes rfl rfl ?_
  refine r_p (p_move rfl) rfl ?_
  refine r_gyes rfl rfl ?_
  refine r_p (p_move rfl) rfl ?_
  refine r_gyes rfl rfl ?_
  refine r_call (xs := [.const (.string (ByteArray.mk #[124])), .tmp 181, .tmp 182]) (of_spec oOr (a) (b) (bits .or .u32 a b) b5 ha hb rfl) cb17 [] [] [] [] rfl rfl rfl rfl rfl rfl rfl rfl (fun _ _ => rfl) (fun _ _ _ => rfl) rfl (fun _ _ => ?_)
  refine r_gyes rfl rfl ?_
  refine r_p (p_move rfl) rfl ?_
  refine r_gyes rfl rfl ?_
  refine r_p (p_move rfl) rfl ?_
  refine r_gyes rfl rfl ?_
  refine r_p (p_move rfl) rfl ?_
  refine r_gyes rfl rfl ?_
  refine r_call (xs := [.const (.string (ByteArray.mk #[38])), .tmp 185, .tmp 186]) (of_spec oAnd (a) (b) (bits .and .u32 a b) b5 ha hb rfl) cb17 [] [] [] [] rfl rfl rfl rfl rfl rfl rfl rfl (fun _ _ => rfl) (fun _ _ _ => rfl) rfl (fun _ _ => ?_)
  refine r_gyes rfl rfl ?_
  refine r_call (xs := [.const (.string (ByteArray.mk #[45])), .tmp 183, .tmp 187]) (of_spec oSub (bits .or .u32 a b) (bits .and .u32 a b) (wU (bits .or .u32 a b - bits .and .u32 a b)) b5 (oW_bits .or a b ⟨_, rfl⟩) (oW_bits .and a b ⟨_, rfl⟩) rfl) cb17 [] [] [] [] rfl rfl rfl rfl rfl rfl rfl rfl (fun _ _ => rfl) (fun _ _ _ => rfl) rfl (fun _ _ => ?_)
  refine r_gyes rfl rfl ?_
  refine r_p (p_bin rfl rfl b_eq) rfl ?_
  with_reducible rw [id_bits a b]
  refine r_p (p_pick rfl rfl rfl (pick_t rfl)) rfl ?_
  refine r_p (p_move rfl) rfl ?_
  refine r_gyes rfl rfl ?_
  refine r_p (p_load1 t4 rfl rfl (g_row1 (k := 5) rfl rfl)) rfl ?_
  refine r_p (p_pick rfl rfl rfl (pick_t rfl)) rfl ?_
  refine r_p (p_assign rfl) rfl ?_
  refine r_nil ?_
  refine r_cret ?_
  refine r_ret () trivial rfl (rs1 (rv_tmp rfl)) rfl [] [] rfl rfl rfl

end Go.Proofs.Ytdcbbkpdlcojfaa
