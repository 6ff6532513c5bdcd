/-
  Identities of words: plain. No condition.
-/
import Derived.Test.YtdcbbkpdlcojfaaAY
namespace Go.Proofs.Ytdcbbkpdlcojfaa
set_option linter.unusedSimpArgs false
set_option linter.unusedVariables false
open Go.RowKit

theorem id_div {a b : Int} (ha : oW a) (hb : oW b) : decide (wU (wU ((if b = 0 then 0 else a / b) * b) + (if b = 0 then a else a % b)) = a) = true := by
  refine decide_eq_true ?_
  by_cases h : b = 0
  · subst h
    simp only [if_true, Int.zero_mul]
    rw [wU_id0 (n := 0) ⟨by omega, by omega⟩, Int.zero_add]
    exact wU_id0 ha
  · rw [if_neg h, if_neg h]
    have h1 : 0 ≤ a / b := Int.ediv_nonneg ha.1 hb.1
    have h2 := Int.emod_add_mul_ediv a b
    have h3 := Int.emod_nonneg a h
    have h4 : a / b * b = b * (a / b) := Int.mul_comm _ _
    have h5 : 0 ≤ b * (a / b) := Int.mul_nonneg hb.1 h1
    rw [wU_id0 (n := a / b * b) ⟨by omega, by have := ha.2; omega⟩, show a / b * b + a % b = a by omega]
    exact wU_id0 ha
where
  wU_id0 {n : Int} (h : oW n) : wU n = n := w_u32 h.1 h.2
theorem id_rem {a b : Int} (ha : oW a) (hb : oW b) : (decide (b = 0) || decide ((if b = 0 then a else a % b) < b)) = true := by
  by_cases h : b = 0
  · simp [h]
  · have h2 := Int.emod_lt_of_pos a (b := b) (by have := hb.1; omega)
    simp [h, h2]
theorem tr_T {p : Bool} (h : p = true) : tr p = 1 := by rw [h]; rfl
theorem tr_F {p : Bool} (h : p = false) : tr p = 0 := by rw [h]; rfl
theorem id_lt (a b : Int) : decide (IntKind.u32.wrap (tr (decide (a < b)) + tr (decide (a ≥ b))) = 1) = true := by
  by_cases h : a < b
  · rw [tr_T (decide_eq_true h), tr_F (decide_eq_false (show ¬ a ≥ b by omega))]; rfl
  · rw [tr_F (decide_eq_false h), tr_T (decide_eq_true (show a ≥ b by omega))]; rfl
theorem id_gt (a b : Int) : decide (IntKind.u32.wrap (tr (decide (a > b)) + tr (decide (a ≤ b))) = 1) = true := by
  by_cases h : a > b
  · rw [tr_T (decide_eq_true h), tr_F (decide_eq_false (show ¬ a ≤ b by omega))]; rfl
  · rw [tr_F (decide_eq_false h), tr_T (decide_eq_true (show a ≤ b by omega))]; rfl
theorem id_eq (a b : Int) : decide (IntKind.u32.wrap (tr (decide (a = b)) + tr (!decide (a = b))) = 1) = true := by
  by_cases h : a = b
  · rw [decide_eq_true h]; rfl
  · rw [decide_eq_false h]; rfl
theorem id_sw (a b : Int) : decide (tr (decide (a < b)) = tr (decide (b > a))) = true := decide_eq_true rfl
theorem id_tri (a b : Int) : decide (IntKind.u32.wrap (IntKind.u32.wrap (tr (decide (a < b)) + tr (decide (a = b))) + tr (decide (a > b))) = 1) = true := by
  by_cases h : a < b
  · rw [tr_T (decide_eq_true h), tr_F (decide_eq_false (show ¬ a = b by omega)), tr_F (decide_eq_false (show ¬ a > b by omega))]; rfl
  · by_cases h2 : a = b
    · rw [tr_F (decide_eq_false h), tr_T (decide_eq_true h2), tr_F (decide_eq_false (show ¬ a > b by omega))]; rfl
    · rw [tr_F (decide_eq_false h), tr_F (decide_eq_false h2), tr_T (decide_eq_true (show a > b by omega))]; rfl
theorem pow_oW (b : Int) : oW (1 * 2 ^ (b % 32).toNat) ∧ (1 : Int) ≤ 1 * 2 ^ (b % 32).toNat := by
  have h0 : (b % 32).toNat < 32 := by omega
  have h1 : (2 : Nat) ^ (b % 32).toNat < 2 ^ 32 := Nat.pow_lt_pow_right (by decide) h0
  have h2 : 1 ≤ (2 : Nat) ^ (b % 32).toNat := Nat.one_le_two_pow
  have h3 : ((2 : Int) ^ (b % 32).toNat) = ((2 ^ (b % 32).toNat : Nat) : Int) := by rw [Int.natCast_pow]; rfl
  rw [h3]
  refine ⟨⟨by omega, ?_⟩, by omega⟩
  have : (2 : Nat) ^ 32 = 4294967296 := by decide
  show 1 * ((2 ^ (b % 32).toNat : Nat) : Int) < 4294967296
  omega
theorem pow_w (b : Int) : wU (1 * 2 ^ (b % 32).toNat) = 2 ^ (b % 32).toNat := by
  have h := pow_oW b
  have h2 : wU (1 * 2 ^ (b % 32).toNat) = 1 * 2 ^ (b % 32).toNat := w_u32 h.1.1 h.1.2
  rw [h2, Int.one_mul]
theorem id_shl (a b : Int) : decide (wU (a * 2 ^ (b % 32).toNat) = wU (a * wU (1 * 2 ^ (b % 32).toNat))) = true := by
  rw [pow_w]
  exact decide_eq_true rfl
theorem id_shr (a b : Int) : decide (a / 2 ^ (b % 32).toNat = if wU (1 * 2 ^ (b % 32).toNat) = 0 then 0 else a / wU (1 * 2 ^ (b % 32).toNat)) = true := by
  rw [pow_w]
  have h := (pow_oW b).2
  rw [Int.one_mul] at h
  rw [if_neg (by omega)]
  exact decide_eq_true rfl
theorem wU_mod (n : Int) : wU n = n % 4294967296 := by
  unfold wU
  simp [IntKind.wrap, IntKind.signed, IntKind.bits]
theorem id_neg {a : Int} (ha : oW a) : decide (wU (a + wU (-a)) = 0) = true := by
  refine decide_eq_true ?_
  rw [wU_mod, wU_mod]
  have h1 := ha.1
  have h2 := ha.2
  omega
theorem id_com {a : Int} (ha : oW a) : decide (wU (wU (-a) + 4294967295) = 4294967295 - a) = true := by
  refine decide_eq_true ?_
  rw [wU_mod, wU_mod]
  have h1 := ha.1
  have h2 := ha.2
  omega
theorem bv_or (x y : BitVec 32) : x ||| y = (x ^^^ y) + (x &&& y) := by
  rw [BitVec.add_eq_or_of_and_eq_zero]
  · ext i hi
    simp only [BitVec.getElem_or, BitVec.getElem_xor, BitVec.getElem_and]
    cases x[i] <;> cases y[i] <;> rfl
  · ext i hi
    simp only [BitVec.getElem_xor, BitVec.getElem_and, BitVec.getElem_zero]
    cases x[i] <;> cases y[i] <;> rfl
theorem id_bits (a b : Int) : decide (bits .xor .u32 a b = wU (bits .or .u32 a b - bits .and .u32 a b)) = true := by
  refine decide_eq_true ?_
  have h1 : bits .xor .u32 a b = IntKind.u32.wrap (((BitVec.ofInt 32 a ^^^ BitVec.ofInt 32 b).toNat : Nat) : Int) := rfl
  have h2 : bits .or .u32 a b = IntKind.u32.wrap (((BitVec.ofInt 32 a ||| BitVec.ofInt 32 b).toNat : Nat) : Int) := rfl
  have h3 : bits .and .u32 a b = IntKind.u32.wrap (((BitVec.ofInt 32 a &&& BitVec.ofInt 32 b).toNat : Nat) : Int) := rfl
  rw [h1, h2, h3, bv_or]
  generalize BitVec.ofInt 32 a ^^^ BitVec.ofInt 32 b = x
  generalize BitVec.ofInt 32 a &&& BitVec.ofInt 32 b = y
  rw [BitVec.toNat_add]
  show wU _ = wU (wU _ - wU _)
  rw [wU_mod, wU_mod, wU_mod, wU_mod]
  have hx := x.isLt
  have hy := y.isLt
  have h32 : (2 : Nat) ^ 32 = 4294967296 := by decide
  rw [h32] at hx hy ⊢
  omega
end Go.Proofs.Ytdcbbkpdlcojfaa
