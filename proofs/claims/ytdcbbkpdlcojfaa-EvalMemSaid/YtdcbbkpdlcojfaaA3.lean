/-
  The operators. Condition: the operands are words.
-/
import Derived.Test.YtdcbbkpdlcojfaaA2
import Derived.Test.YtdcbbkpdlcojfaaF
namespace Go.Proofs.Ytdcbbkpdlcojfaa
set_option linter.unusedSimpArgs false
set_option linter.unusedVariables false
open Go.RowKit

theorem quo_u32 {a b : Int} (ha : 0 ≤ a ∧ a < 4294967296) (hb : 0 ≤ b ∧ b < 4294967296) (h : ¬ b = 0) : IntKind.u32.wrap (a.tdiv b) = a / b := by
  rw [Int.tdiv_eq_ediv_of_nonneg ha.1]
  have h1 : 0 ≤ a / b := Int.ediv_nonneg ha.1 hb.1
  have h2 : a / b ≤ a := Int.ediv_le_self b ha.1
  exact w_u32 h1 (by omega)
theorem com_u32 {a : Int} (ha : 0 ≤ a ∧ a < 4294967296) : bits .xor .u32 4294967295 a = 4294967295 - a := by
  have h1 : bits .xor .u32 4294967295 a = IntKind.u32.wrap (((BitVec.ofInt 32 4294967295 ^^^ BitVec.ofInt 32 a).toNat : Nat) : Int) := rfl
  have h2 : BitVec.ofInt 32 4294967295 = BitVec.allOnes 32 := by decide
  rw [h1, h2, BitVec.allOnes_xor, BitVec.toNat_not, BitVec.toNat_ofInt]
  have h3 : (a % ((2 ^ 32 : Nat) : Int)).toNat = a.toNat := by
    rw [Int.emod_eq_of_lt ha.1 (by omega)]
  rw [h3, w_u32 (by omega) (by omega)]
  omega
section
variable {P : Program} {N : Nat} {w0 : World} {M H : Nat → Prop} {E : Env} {Γ R : Ctx}
theorem p_com {S : TypeId} {x : Operand} {n c : Int} (hx : ev E x = some (.int .u32 n)) (hc : bits .xor .u32 4294967295 n = c) : PR P N w0 M H E Γ R (.unOp .xor S x) (.int .u32 c) := fun _ _ _ a w hE _ _ _ => by
  have : (Op.unary .xor (.int .u32 n)).run P w = .ok (.int .u32 c) w := by
    show (Op.intBits .xor .u32 4294967295 n).run P w = _
    rw [intBits_xor, hc]
    rfl
  simp [execOp, hE.ev hx, this]
end
theorem tmod_u32 {a b : Int} (ha : 0 ≤ a ∧ a < 4294967296) : a.tmod b = a % b := Int.tmod_eq_emod_of_nonneg ha.1

set_option maxRecDepth 100000 in
theorem truth_spec (b : Bool) :
    Spec Try.prog 45 [.bool b] [] [] (X := Unit) (fun _ => True) (fun _ => .int .u32 (tr b)) (fun _ => []) (fun _ => []) := by
  refine r_enter Try.func45 rfl Try.ntmps45 rfl fun w0 M H => ?_
  refine r_seq ?_
  refine r_region ?_
  refine r_p (p_assign rfl) rfl ?_
  refine r_nil ?_
  refine r_seq ?_
  refine r_seq ?_
  refine r_region ?_
  refine r_p (p_move rfl) rfl ?_
  refine r_nil ?_
  refine r_cond rfl (fun h1 => ?_) (fun h1 => ?_)
  · have hq := h1
    refine r_seq ?_
    refine r_region ?_
    refine r_p (p_assign rfl) rfl ?_
    refine r_nil ?_
    refine r_cret ?_
    refine r_ret () trivial rfl (rs1 (rv_tmp rfl)) (by rw [hq]; rfl) [] [] rfl rfl rfl
  · have hq := h1
    refine r_skip ?_
    refine r_seq ?_
    refine r_region ?_
    refine r_p (p_assign rfl) rfl ?_
    refine r_nil ?_
    refine r_cret ?_
    refine r_ret () trivial rfl (rs1 (rv_tmp rfl)) (by rw [hq]; rfl) [] [] rfl rfl rfl
set_option maxRecDepth 100000 in
theorem un1_spec (a : Int) (ha : 0 ≤ a ∧ a < 4294967296) :
    Spec Try.prog 42 [.int .u32 a] [] [] (X := Unit) (fun _ => True) (fun _ => .int .u32 (wU (-a))) (fun _ => []) (fun _ => []) := by
  refine r_enter Try.func42 rfl Try.ntmps42 rfl fun w0 M H => ?_
  refine r_seq ?_
  refine r_region ?_
  refine r_p (p_assign rfl) rfl ?_
  refine r_nil ?_
  refine r_seq ?_
  refine r_region ?_
  refine r_p (p_move rfl) rfl ?_
  refine r_p (p_neg rfl rfl) rfl ?_
  refine r_p (p_assign rfl) rfl ?_
  refine r_nil ?_
  refine r_cret ?_
  refine r_ret () trivial rfl (rs1 (rv_tmp rfl)) rfl [] [] rfl rfl rfl
set_option maxRecDepth 100000 in
theorem un2_spec (a : Int) (ha : 0 ≤ a ∧ a < 4294967296) :
    Spec Try.prog 43 [.int .u32 a] [] [] (X := Unit) (fun _ => True) (fun _ => .int .u32 (4294967295 - a)) (fun _ => []) (fun _ => []) := by
  refine r_enter Try.func43 rfl Try.ntmps43 rfl fun w0 M H => ?_
  refine r_seq ?_
  refine r_region ?_
  refine r_p (p_assign rfl) rfl ?_
  refine r_nil ?_
  refine r_seq ?_
  refine r_region ?_
  refine r_p (p_move rfl) rfl ?_
  refine r_p (p_com rfl (com_u32 ha)) rfl ?_
  refine r_p (p_assign rfl) rfl ?_
  refine r_nil ?_
  refine r_cret ?_
  refine r_ret () trivial rfl (rs1 (rv_tmp rfl)) rfl [] [] rfl rfl rfl
set_option maxRecDepth 100000 in
theorem un3_spec (a : Int) (ha : 0 ≤ a ∧ a < 4294967296) :
    Spec Try.prog 44 [.int .u32 a] [] [] (X := Unit) (fun _ => True) (fun _ => .int .u32 (tr (decide (a = 0)))) (fun _ => []) (fun _ => []) := by
  refine r_enter Try.func44 rfl Try.ntmps44 rfl fun w0 M H => ?_
  refine r_seq ?_
  refine r_region ?_
  refine r_p (p_assign rfl) rfl ?_
  refine r_nil ?_
  refine r_seq ?_
  refine r_region ?_
  refine r_p (p_move rfl) rfl ?_
  refine r_p (p_bin rfl rfl b_eq) rfl ?_
  refine r_call (xs := [.tmp 4]) (truth_spec (decide (a = 0))) cb45 [] [] [] [] rfl rfl rfl rfl rfl rfl rfl rfl (fun _ _ => rfl) (fun _ _ _ => rfl) rfl (fun _ _ => ?_)
  refine r_p (p_assign rfl) rfl ?_
  refine r_nil ?_
  refine r_cret ?_
  refine r_ret () trivial rfl (rs1 (rv_tmp rfl)) rfl [] [] rfl rfl rfl
set_option maxRecDepth 100000 in
theorem divide_spec (a b : Int) (ha : 0 ≤ a ∧ a < 4294967296) (hb : 0 ≤ b ∧ b < 4294967296) :
    Spec Try.prog 50 [.int .u32 a, .int .u32 b] [] [] (X := Unit) (fun _ => True) (fun _ => .tuple #[.int .u32 (if b = 0 then 0 else a / b), .int .u32 (if b = 0 then a else a % b)]) (fun _ => []) (fun _ => []) := by
  refine r_enter Try.func50 rfl Try.ntmps50 rfl fun w0 M H => ?_
  refine r_seq ?_
  refine r_region ?_
  refine r_p (p_assign rfl) rfl ?_
  refine r_p (p_assign rfl) rfl ?_
  refine r_nil ?_
  refine r_seq ?_
  refine r_seq ?_
  refine r_region ?_
  refine r_p (p_move rfl) rfl ?_
  refine r_p (p_bin rfl rfl b_eq) rfl ?_
  refine r_nil ?_
  refine r_cond rfl (fun h1 => ?_) (fun h1 => ?_)
  · (try simp only [decide_eq_true_eq, decide_eq_false_iff_not, Bool.and_eq_true, Bool.or_eq_true, Bool.and_eq_false_iff, Bool.or_eq_false_iff, Bool.not_eq_true, Bool.not_eq_false, Bool.not_eq_true', Bool.not_eq_false', Bool.not_not, bne_iff_ne, beq_iff_eq] at h1)
    have hq : b = 0 := h1
    refine r_seq ?_
    refine r_region ?_
    refine r_p (p_move rfl) rfl ?_
    refine r_p (p_assign rfl) rfl ?_
    refine r_p (p_assign rfl) rfl ?_
    refine r_nil ?_
    refine r_cret ?_
    refine r_ret () trivial rfl (rs2 (rv_tmp rfl) (rv_tmp rfl)) (by rw [if_pos hq, if_pos hq]) [] [] rfl rfl rfl
  · (try simp only [decide_eq_true_eq, decide_eq_false_iff_not, Bool.and_eq_true, Bool.or_eq_true, Bool.and_eq_false_iff, Bool.or_eq_false_iff, Bool.not_eq_true, Bool.not_eq_false, Bool.not_eq_true', Bool.not_eq_false', Bool.not_not, bne_iff_ne, beq_iff_eq] at h1)
    have hq : ¬ b = 0 := h1
    refine r_skip ?_
    refine r_seq ?_
    refine r_drawM [0, 1, 2, 3, 4, 5, 6, 7] [0, 1, 2, 4, 5, 6, 3, 7] [9, 10, 11, 12, 13, 14, 4, 5] _ rfl rfl rfl (stg_end (V := [(0, 9, _), (1, 10, _), (2, 11, _), (3, 12, _), (4, 13, _), (5, 14, _), (6, 4, _), (7, 5, _)]) [0, 1, 2, 3, 4, 5, 6, 7] rfl rfl (prs_cons (pri rfl (p_move rfl)) (prs_cons (pri rfl (p_move rfl)) (prs_cons (pri rfl (p_bin rfl rfl (b_quo hq (quo_u32 ha hb hq)))) (prs_cons (pri rfl (p_move rfl)) (prs_cons (pri rfl (p_move rfl)) (prs_cons (pri rfl (p_bin rfl rfl (b_rem hq (tmod_u32 ha)))) (prs_cons (pri rfl (p_assign rfl)) (prs_cons (pri rfl (p_assign rfl)) prs_nil)))))))) rfl rfl rfl ?_)
    refine r_cret ?_
    refine r_ret () trivial rfl (rs2 (rv_tmp rfl) (rv_tmp rfl)) (by rw [if_neg hq, if_neg hq]) [] [] rfl rfl rfl
set_option maxRecDepth 100000 in
theorem bi1_spec (a b : Int) (ha : 0 ≤ a ∧ a < 4294967296) (hb : 0 ≤ b ∧ b < 4294967296) :
    Spec Try.prog 46 [.int .u32 a, .int .u32 b] [] [] (X := Unit) (fun _ => True) (fun _ => .int .u32 (wU (a + b))) (fun _ => []) (fun _ => []) := by
  refine r_enter Try.func46 rfl Try.ntmps46 rfl fun w0 M H => ?_
  refine r_seq ?_
  refine r_region ?_
  refine r_p (p_assign rfl) rfl ?_
  refine r_nil ?_
  refine r_seq ?_
  refine r_region ?_
  refine r_p (p_move rfl) rfl ?_
  refine r_p (p_move rfl) rfl ?_
  refine r_p (p_bin rfl rfl (b_add rfl)) rfl ?_
  refine r_p (p_assign rfl) rfl ?_
  refine r_nil ?_
  refine r_cret ?_
  refine r_ret () trivial rfl (rs1 (rv_tmp rfl)) rfl [] [] rfl rfl rfl
set_option maxRecDepth 100000 in
theorem bi2_spec (a b : Int) (ha : 0 ≤ a ∧ a < 4294967296) (hb : 0 ≤ b ∧ b < 4294967296) :
    Spec Try.prog 47 [.int .u32 a, .int .u32 b] [] [] (X := Unit) (fun _ => True) (fun _ => .int .u32 (wU (a - b))) (fun _ => []) (fun _ => []) := by
  refine r_enter Try.func47 rfl Try.ntmps47 rfl fun w0 M H => ?_
  refine r_seq ?_
  refine r_region ?_
  refine r_p (p_assign rfl) rfl ?_
  refine r_nil ?_
  refine r_seq ?_
  refine r_region ?_
  refine r_p (p_move rfl) rfl ?_
  refine r_p (p_move rfl) rfl ?_
  refine r_p (p_bin rfl rfl (b_sub rfl)) rfl ?_
  refine r_p (p_assign rfl) rfl ?_
  refine r_nil ?_
  refine r_cret ?_
  refine r_ret () trivial rfl (rs1 (rv_tmp rfl)) rfl [] [] rfl rfl rfl
set_option maxRecDepth 100000 in
theorem bi3_spec (a b : Int) (ha : 0 ≤ a ∧ a < 4294967296) (hb : 0 ≤ b ∧ b < 4294967296) :
    Spec Try.prog 48 [.int .u32 a, .int .u32 b] [] [] (X := Unit) (fun _ => True) (fun _ => .int .u32 (wU (a * b))) (fun _ => []) (fun _ => []) := by
  refine r_enter Try.func48 rfl Try.ntmps48 rfl fun w0 M H => ?_
  refine r_seq ?_
  refine r_region ?_
  refine r_p (p_assign rfl) rfl ?_
  refine r_nil ?_
  refine r_seq ?_
  refine r_region ?_
  refine r_p (p_move rfl) rfl ?_
  refine r_p (p_move rfl) rfl ?_
  refine r_p (p_bin rfl rfl (b_mul rfl)) rfl ?_
  refine r_p (p_assign rfl) rfl ?_
  refine r_nil ?_
  refine r_cret ?_
  refine r_ret () trivial rfl (rs1 (rv_tmp rfl)) rfl [] [] rfl rfl rfl
set_option maxRecDepth 100000 in
theorem bi4_spec (a b : Int) (ha : 0 ≤ a ∧ a < 4294967296) (hb : 0 ≤ b ∧ b < 4294967296) :
    Spec Try.prog 49 [.int .u32 a, .int .u32 b] [] [] (X := Unit) (fun _ => True) (fun _ => .int .u32 (if b = 0 then 0 else a / b)) (fun _ => []) (fun _ => []) := by
  refine r_enter Try.func49 rfl Try.ntmps49 rfl fun w0 M H => ?_
  refine r_seq ?_
  refine r_region ?_
  refine r_p (p_assign rfl) rfl ?_
  refine r_nil ?_
  refine r_seq ?_
  refine r_region ?_
  refine r_p (p_move rfl) rfl ?_
  refine r_p (p_move rfl) rfl ?_
  refine r_call (xs := [.tmp 8, .tmp 9]) (divide_spec a b ha hb) cb50 [] [] [] [] rfl rfl rfl rfl rfl rfl rfl rfl (fun _ _ => rfl) (fun _ _ _ => rfl) rfl (fun _ _ => ?_)
  refine r_p (p_move rfl) rfl ?_
  refine r_p (p_extract rfl rfl) rfl ?_
  refine r_p (p_extract rfl rfl) rfl ?_
  refine r_p (p_assign rfl) rfl ?_
  refine r_p (p_assign rfl) rfl ?_
  refine r_nil ?_
  refine r_seq ?_
  refine r_region ?_
  refine r_p (p_move rfl) rfl ?_
  refine r_p (p_assign rfl) rfl ?_
  refine r_nil ?_
  refine r_cret ?_
  refine r_ret () trivial rfl (rs1 (rv_tmp rfl)) rfl [] [] rfl rfl rfl
set_option maxRecDepth 100000 in
theorem bi5_spec (a b : Int) (ha : 0 ≤ a ∧ a < 4294967296) (hb : 0 ≤ b ∧ b < 4294967296) :
    Spec Try.prog 51 [.int .u32 a, .int .u32 b] [] [] (X := Unit) (fun _ => True) (fun _ => .int .u32 (if b = 0 then a else a % b)) (fun _ => []) (fun _ => []) := by
  refine r_enter Try.func51 rfl Try.ntmps51 rfl fun w0 M H => ?_
  refine r_seq ?_
  refine r_region ?_
  refine r_p (p_assign rfl) rfl ?_
  refine r_nil ?_
  refine r_seq ?_
  refine r_region ?_
  refine r_p (p_move rfl) rfl ?_
  refine r_p (p_move rfl) rfl ?_
  refine r_call (xs := [.tmp 8, .tmp 9]) (divide_spec a b ha hb) cb50 [] [] [] [] rfl rfl rfl rfl rfl rfl rfl rfl (fun _ _ => rfl) (fun _ _ _ => rfl) rfl (fun _ _ => ?_)
  refine r_p (p_move rfl) rfl ?_
  refine r_p (p_extract rfl rfl) rfl ?_
  refine r_p (p_extract rfl rfl) rfl ?_
  refine r_p (p_assign rfl) rfl ?_
  refine r_p (p_assign rfl) rfl ?_
  refine r_nil ?_
  refine r_seq ?_
  refine r_region ?_
  refine r_p (p_move rfl) rfl ?_
  refine r_p (p_assign rfl) rfl ?_
  refine r_nil ?_
  refine r_cret ?_
  refine r_ret () trivial rfl (rs1 (rv_tmp rfl)) rfl [] [] rfl rfl rfl
set_option maxRecDepth 100000 in
theorem bi6_spec (a b : Int) (ha : 0 ≤ a ∧ a < 4294967296) (hb : 0 ≤ b ∧ b < 4294967296) :
    Spec Try.prog 52 [.int .u32 a, .int .u32 b] [] [] (X := Unit) (fun _ => True) (fun _ => .int .u32 (bits .and .u32 a b)) (fun _ => []) (fun _ => []) := by
  refine r_enter Try.func52 rfl Try.ntmps52 rfl fun w0 M H => ?_
  refine r_seq ?_
  refine r_region ?_
  refine r_p (p_assign rfl) rfl ?_
  refine r_nil ?_
  refine r_seq ?_
  refine r_region ?_
  refine r_p (p_move rfl) rfl ?_
  refine r_p (p_move rfl) rfl ?_
  refine r_p (p_bin rfl rfl (b_and rfl)) rfl ?_
  refine r_p (p_assign rfl) rfl ?_
  refine r_nil ?_
  refine r_cret ?_
  refine r_ret () trivial rfl (rs1 (rv_tmp rfl)) rfl [] [] rfl rfl rfl
set_option maxRecDepth 100000 in
theorem bi7_spec (a b : Int) (ha : 0 ≤ a ∧ a < 4294967296) (hb : 0 ≤ b ∧ b < 4294967296) :
    Spec Try.prog 53 [.int .u32 a, .int .u32 b] [] [] (X := Unit) (fun _ => True) (fun _ => .int .u32 (bits .or .u32 a b)) (fun _ => []) (fun _ => []) := by
  refine r_enter Try.func53 rfl Try.ntmps53 rfl fun w0 M H => ?_
  refine r_seq ?_
  refine r_region ?_
  refine r_p (p_assign rfl) rfl ?_
  refine r_nil ?_
  refine r_seq ?_
  refine r_region ?_
  refine r_p (p_move rfl) rfl ?_
  refine r_p (p_move rfl) rfl ?_
  refine r_p (p_bin rfl rfl (b_or rfl)) rfl ?_
  refine r_p (p_assign rfl) rfl ?_
  refine r_nil ?_
  refine r_cret ?_
  refine r_ret () trivial rfl (rs1 (rv_tmp rfl)) rfl [] [] rfl rfl rfl
set_option maxRecDepth 100000 in
theorem bi8_spec (a b : Int) (ha : 0 ≤ a ∧ a < 4294967296) (hb : 0 ≤ b ∧ b < 4294967296) :
    Spec Try.prog 54 [.int .u32 a, .int .u32 b] [] [] (X := Unit) (fun _ => True) (fun _ => .int .u32 (bits .xor .u32 a b)) (fun _ => []) (fun _ => []) := by
  refine r_enter Try.func54 rfl Try.ntmps54 rfl fun w0 M H => ?_
  refine r_seq ?_
  refine r_region ?_
  refine r_p (p_assign rfl) rfl ?_
  refine r_nil ?_
  refine r_seq ?_
  refine r_region ?_
  refine r_p (p_move rfl) rfl ?_
  refine r_p (p_move rfl) rfl ?_
  refine r_p (p_bin rfl rfl (b_xor rfl)) rfl ?_
  refine r_p (p_assign rfl) rfl ?_
  refine r_nil ?_
  refine r_cret ?_
  refine r_ret () trivial rfl (rs1 (rv_tmp rfl)) rfl [] [] rfl rfl rfl
set_option maxRecDepth 100000 in
theorem bi9_spec (a b : Int) (ha : 0 ≤ a ∧ a < 4294967296) (hb : 0 ≤ b ∧ b < 4294967296) :
    Spec Try.prog 55 [.int .u32 a, .int .u32 b] [] [] (X := Unit) (fun _ => True) (fun _ => .int .u32 (wU (a * 2 ^ (b % 32).toNat))) (fun _ => []) (fun _ => []) := by
  refine r_enter Try.func55 rfl Try.ntmps55 rfl fun w0 M H => ?_
  refine r_seq ?_
  refine r_region ?_
  refine r_p (p_assign rfl) rfl ?_
  refine r_nil ?_
  refine r_seq ?_
  refine r_region ?_
  refine r_p (p_move rfl) rfl ?_
  refine r_p (p_move rfl) rfl ?_
  refine r_p (p_bin rfl rfl (b_rem (by omega) (by first | exact tmod_pos (by omega) | rfl))) rfl ?_
  refine r_p (p_bin rfl rfl (b_shl (by omega) (by first | decide | (simp [IntKind.bits]; omega)) rfl)) rfl ?_
  refine r_p (p_assign rfl) rfl ?_
  refine r_nil ?_
  refine r_cret ?_
  refine r_ret () trivial rfl (rs1 (rv_tmp rfl)) rfl [] [] rfl rfl rfl
set_option maxRecDepth 100000 in
theorem bi10_spec (a b : Int) (ha : 0 ≤ a ∧ a < 4294967296) (hb : 0 ≤ b ∧ b < 4294967296) :
    Spec Try.prog 56 [.int .u32 a, .int .u32 b] [] [] (X := Unit) (fun _ => True) (fun _ => .int .u32 (a / 2 ^ (b % 32).toNat)) (fun _ => []) (fun _ => []) := by
  refine r_enter Try.func56 rfl Try.ntmps56 rfl fun w0 M H => ?_
  refine r_seq ?_
  refine r_region ?_
  refine r_p (p_assign rfl) rfl ?_
  refine r_nil ?_
  refine r_seq ?_
  refine r_region ?_
  refine r_p (p_move rfl) rfl ?_
  refine r_p (p_move rfl) rfl ?_
  refine r_p (p_bin rfl rfl (b_rem (by omega) (by first | exact tmod_pos (by omega) | rfl))) rfl ?_
  refine r_p (p_bin rfl rfl (b_shr (by omega) (by first | decide | (simp [IntKind.bits]; omega)) rfl)) rfl ?_
  refine r_p (p_assign rfl) rfl ?_
  refine r_nil ?_
  refine r_cret ?_
  refine r_ret () trivial rfl (rs1 (rv_tmp rfl)) rfl [] [] rfl rfl rfl
set_option maxRecDepth 100000 in
theorem bi11_spec (a b : Int) (ha : 0 ≤ a ∧ a < 4294967296) (hb : 0 ≤ b ∧ b < 4294967296) :
    Spec Try.prog 57 [.int .u32 a, .int .u32 b] [] [] (X := Unit) (fun _ => True) (fun _ => .int .u32 (tr (decide (a < b)))) (fun _ => []) (fun _ => []) := by
  refine r_enter Try.func57 rfl Try.ntmps57 rfl fun w0 M H => ?_
  refine r_seq ?_
  refine r_region ?_
  refine r_p (p_assign rfl) rfl ?_
  refine r_nil ?_
  refine r_seq ?_
  refine r_region ?_
  refine r_p (p_move rfl) rfl ?_
  refine r_p (p_move rfl) rfl ?_
  refine r_p (p_bin rfl rfl b_lt) rfl ?_
  refine r_call (xs := [.tmp 7]) (truth_spec (decide (a < b))) cb45 [] [] [] [] rfl rfl rfl rfl rfl rfl rfl rfl (fun _ _ => rfl) (fun _ _ _ => rfl) rfl (fun _ _ => ?_)
  refine r_p (p_assign rfl) rfl ?_
  refine r_nil ?_
  refine r_cret ?_
  refine r_ret () trivial rfl (rs1 (rv_tmp rfl)) rfl [] [] rfl rfl rfl
set_option maxRecDepth 100000 in
theorem bi12_spec (a b : Int) (ha : 0 ≤ a ∧ a < 4294967296) (hb : 0 ≤ b ∧ b < 4294967296) :
    Spec Try.prog 58 [.int .u32 a, .int .u32 b] [] [] (X := Unit) (fun _ => True) (fun _ => .int .u32 (tr (decide (a ≤ b)))) (fun _ => []) (fun _ => []) := by
  refine r_enter Try.func58 rfl Try.ntmps58 rfl fun w0 M H => ?_
  refine r_seq ?_
  refine r_region ?_
  refine r_p (p_assign rfl) rfl ?_
  refine r_nil ?_
  refine r_seq ?_
  refine r_region ?_
  refine r_p (p_move rfl) rfl ?_
  refine r_p (p_move rfl) rfl ?_
  refine r_p (p_bin rfl rfl b_le) rfl ?_
  refine r_call (xs := [.tmp 7]) (truth_spec (decide (a ≤ b))) cb45 [] [] [] [] rfl rfl rfl rfl rfl rfl rfl rfl (fun _ _ => rfl) (fun _ _ _ => rfl) rfl (fun _ _ => ?_)
  refine r_p (p_assign rfl) rfl ?_
  refine r_nil ?_
  refine r_cret ?_
  refine r_ret () trivial rfl (rs1 (rv_tmp rfl)) rfl [] [] rfl rfl rfl
set_option maxRecDepth 100000 in
theorem bi13_spec (a b : Int) (ha : 0 ≤ a ∧ a < 4294967296) (hb : 0 ≤ b ∧ b < 4294967296) :
    Spec Try.prog 59 [.int .u32 a, .int .u32 b] [] [] (X := Unit) (fun _ => True) (fun _ => .int .u32 (tr (decide (a > b)))) (fun _ => []) (fun _ => []) := by
  refine r_enter Try.func59 rfl Try.ntmps59 rfl fun w0 M H => ?_
  refine r_seq ?_
  refine r_region ?_
  refine r_p (p_assign rfl) rfl ?_
  refine r_nil ?_
  refine r_seq ?_
  refine r_region ?_
  refine r_p (p_move rfl) rfl ?_
  refine r_p (p_move rfl) rfl ?_
  refine r_p (p_bin rfl rfl b_gt) rfl ?_
  refine r_call (xs := [.tmp 7]) (truth_spec (decide (a > b))) cb45 [] [] [] [] rfl rfl rfl rfl rfl rfl rfl rfl (fun _ _ => rfl) (fun _ _ _ => rfl) rfl (fun _ _ => ?_)
  refine r_p (p_assign rfl) rfl ?_
  refine r_nil ?_
  refine r_cret ?_
  refine r_ret () trivial rfl (rs1 (rv_tmp rfl)) rfl [] [] rfl rfl rfl
set_option maxRecDepth 100000 in
theorem bi14_spec (a b : Int) (ha : 0 ≤ a ∧ a < 4294967296) (hb : 0 ≤ b ∧ b < 4294967296) :
    Spec Try.prog 60 [.int .u32 a, .int .u32 b] [] [] (X := Unit) (fun _ => True) (fun _ => .int .u32 (tr (decide (a ≥ b)))) (fun _ => []) (fun _ => []) := by
  refine r_enter Try.func60 rfl Try.ntmps60 rfl fun w0 M H => ?_
  refine r_seq ?_
  refine r_region ?_
  refine r_p (p_assign rfl) rfl ?_
  refine r_nil ?_
  refine r_seq ?_
  refine r_region ?_
  refine r_p (p_move rfl) rfl ?_
  refine r_p (p_move rfl) rfl ?_
  refine r_p (p_bin rfl rfl b_ge) rfl ?_
  refine r_call (xs := [.tmp 7]) (truth_spec (decide (a ≥ b))) cb45 [] [] [] [] rfl rfl rfl rfl rfl rfl rfl rfl (fun _ _ => rfl) (fun _ _ _ => rfl) rfl (fun _ _ => ?_)
  refine r_p (p_assign rfl) rfl ?_
  refine r_nil ?_
  refine r_cret ?_
  refine r_ret () trivial rfl (rs1 (rv_tmp rfl)) rfl [] [] rfl rfl rfl
set_option maxRecDepth 100000 in
theorem bi15_spec (a b : Int) (ha : 0 ≤ a ∧ a < 4294967296) (hb : 0 ≤ b ∧ b < 4294967296) :
    Spec Try.prog 61 [.int .u32 a, .int .u32 b] [] [] (X := Unit) (fun _ => True) (fun _ => .int .u32 (tr (decide (a = b)))) (fun _ => []) (fun _ => []) := by
  refine r_enter Try.func61 rfl Try.ntmps61 rfl fun w0 M H => ?_
  refine r_seq ?_
  refine r_region ?_
  refine r_p (p_assign rfl) rfl ?_
  refine r_nil ?_
  refine r_seq ?_
  refine r_region ?_
  refine r_p (p_move rfl) rfl ?_
  refine r_p (p_move rfl) rfl ?_
  refine r_p (p_bin rfl rfl b_eq) rfl ?_
  refine r_call (xs := [.tmp 7]) (truth_spec (decide (a = b))) cb45 [] [] [] [] rfl rfl rfl rfl rfl rfl rfl rfl (fun _ _ => rfl) (fun _ _ _ => rfl) rfl (fun _ _ => ?_)
  refine r_p (p_assign rfl) rfl ?_
  refine r_nil ?_
  refine r_cret ?_
  refine r_ret () trivial rfl (rs1 (rv_tmp rfl)) rfl [] [] rfl rfl rfl
set_option maxRecDepth 100000 in
theorem bi16_spec (a b : Int) (ha : 0 ≤ a ∧ a < 4294967296) (hb : 0 ≤ b ∧ b < 4294967296) :
    Spec Try.prog 62 [.int .u32 a, .int .u32 b] [] [] (X := Unit) (fun _ => True) (fun _ => .int .u32 (tr (!decide (a = b)))) (fun _ => []) (fun _ => []) := by
  refine r_enter Try.func62 rfl Try.ntmps62 rfl fun w0 M H => ?_
  refine r_seq ?_
  refine r_region ?_
  refine r_p (p_assign rfl) rfl ?_
  refine r_nil ?_
  refine r_seq ?_
  refine r_region ?_
  refine r_p (p_move rfl) rfl ?_
  refine r_p (p_move rfl) rfl ?_
  refine r_p (p_bin rfl rfl b_ne) rfl ?_
  refine r_call (xs := [.tmp 7]) (truth_spec (!decide (a = b))) cb45 [] [] [] [] rfl rfl rfl rfl rfl rfl rfl rfl (fun _ _ => rfl) (fun _ _ _ => rfl) rfl (fun _ _ => ?_)
  refine r_p (p_assign rfl) rfl ?_
  refine r_nil ?_
  refine r_cret ?_
  refine r_ret () trivial rfl (rs1 (rv_tmp rfl)) rfl [] [] rfl rfl rfl

end Go.Proofs.Ytdcbbkpdlcojfaa
