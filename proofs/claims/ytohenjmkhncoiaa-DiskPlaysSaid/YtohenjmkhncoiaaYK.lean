/-
  The checksum; the word of four bytes. Condition: at most a million bytes.
-/
import Derived.Test.YtohenjmkhncoiaaYJ
namespace Go.Proofs.Ytohenjmkhncoiaa
set_option linter.unusedSimpArgs false
set_option linter.unusedVariables false
open Go.RowKit

def poly : Int := 3988292384
def stepC (x : Int) : Int := if bits .and .u32 x 1 = 1 then bits .xor .u32 (x / 2 ^ (1 : Int).toNat) 3988292384 else x / 2 ^ (1 : Int).toNat
def itS : Nat → Int → Int
  | 0, x => x
  | n + 1, x => stepC (itS n x)
def crcB (x b : Int) : Int := itS 8 (bits .xor .u32 x b)
def foldC (l : List Int) (k : Nat) : Int := (l.take k).foldl crcB 4294967295
def crc (s : ByteArray) : Int := bits .xor .u32 4294967295 (foldC (bytesI s) s.size)
theorem bits_bd (op : BinOp) (x y : Int) : 0 ≤ bits op .u32 x y ∧ bits op .u32 x y < 4294967296 := wrap_u32_bd _
theorem and_one (x : Int) : bits .and .u32 x 1 = 0 ∨ bits .and .u32 x 1 = 1 := by
  have h : (BitVec.ofInt 32 x &&& BitVec.ofInt 32 1).toNat = (BitVec.ofInt 32 x).toNat % 2 := by
    rw [BitVec.toNat_and]
    exact Nat.and_one_is_mod _
  have h2 : bits .and .u32 x 1 = IntKind.u32.wrap (((BitVec.ofInt 32 x).toNat % 2 : Nat) : Int) := by
    show IntKind.u32.wrap (((BitVec.ofInt 32 x &&& BitVec.ofInt 32 1).toNat : Nat) : Int) = _
    rw [h]
  rw [h2, wrap_u32_id (by omega) (by omega)]
  omega
theorem xor_zero {y : Int} (h : 0 ≤ y) (h2 : y < 4294967296) : bits .xor .u32 y 0 = y := by
  have e : (BitVec.ofInt 32 y ^^^ BitVec.ofInt 32 0).toNat = y.toNat := by
    have : BitVec.ofInt 32 0 = 0#32 := by decide
    rw [this, BitVec.xor_zero, BitVec.toNat_ofInt]
    omega
  have h3 : bits .xor .u32 y 0 = IntKind.u32.wrap ((y.toNat : Nat) : Int) := by
    show IntKind.u32.wrap (((BitVec.ofInt 32 y ^^^ BitVec.ofInt 32 0).toNat : Nat) : Int) = _
    rw [e]
  rw [h3, wrap_u32_id (by omega) (by omega)]
  omega
theorem step_mask {x : Int} (h : 0 ≤ x) (h2 : x < 4294967296) : bits .xor .u32 (x / 2 ^ (1 : Int).toNat) (bits .and .u32 3988292384 (IntKind.u32.wrap (-(bits .and .u32 x 1)))) = stepC x := by
  unfold stepC
  have hq : 0 ≤ x / 2 ^ (1 : Int).toNat ∧ x / 2 ^ (1 : Int).toNat < 4294967296 := by
    have : (2 : Int) ^ (1 : Int).toNat = 2 := by decide
    rw [this]
    omega
  rcases and_one x with h3 | h3
  · rw [h3, if_neg (by decide)]
    have : bits .and .u32 3988292384 (IntKind.u32.wrap (-0)) = 0 := by decide
    rw [this]
    exact xor_zero hq.1 hq.2
  · rw [h3, if_pos rfl]
    have : bits .and .u32 3988292384 (IntKind.u32.wrap (-1)) = 3988292384 := by decide
    rw [this]
theorem stepC_bd {x : Int} (h : 0 ≤ x ∧ x < 4294967296) : 0 ≤ stepC x ∧ stepC x < 4294967296 := by
  unfold stepC
  split
  · exact bits_bd _ _ _
  · have : (2 : Int) ^ (1 : Int).toNat = 2 := by decide
    rw [this]
    omega
theorem itS_bd {x : Int} (h : 0 ≤ x ∧ x < 4294967296) : ∀ n, 0 ≤ itS n x ∧ itS n x < 4294967296
  | 0 => h
  | n + 1 => stepC_bd (itS_bd h n)
theorem foldC_succ {l : List Int} {k : Nat} (hk : k < l.length) : foldC l (k + 1) = crcB (foldC l k) (l.getD k 0) := by
  unfold foldC
  rw [List.take_succ_eq_append_getElem hk, List.foldl_append, List.getD_eq_getElem?_getD, List.getElem?_eq_getElem hk]
  rfl
theorem p_compl {N : Nat} {w0 : World} {M H : Nat → Prop} {E : Env} {Γ R : Ctx} {S : TypeId} {x : Operand} {n : Int} (hx : ev E x = some (.int .u32 n)) : PR Try.prog N w0 M H E Γ R (.unOp .xor S x) (.int .u32 (bits .xor .u32 4294967295 n)) := fun _ _ _ a w hE _ _ _ => by
  have : IntKind.u32.max = 4294967295 := by decide
  simp [execOp, hE.ev hx, Op.unary, IntKind.signed, this, intBits_xor]

set_option maxRecDepth 100000 in
theorem sumA_spec (s : ByteArray) (hs : s.size ≤ 1000000) :
    Spec Try.prog 72 [.string s] [] [] (X := Unit) (fun _ => True) (fun _ => .int .u32 (crc s)) (fun _ => []) (fun _ => []) := by
  refine r_enter Try.func72 rfl Try.ntmps72 rfl fun w0 M H => ?_
  refine r_seq ?_
  refine r_region ?_
  refine r_p (p_assign rfl) rfl ?_
  refine r_nil ?_
  refine r_seq ?_
  refine r_region ?_
  refine r_p (p_assign rfl) rfl ?_
  refine r_nil ?_
  refine r_seq ?_
  refine r_seq ?_
  refine r_region ?_
  refine r_p (p_move rfl) rfl ?_
  refine r_s2b Try.underlying9 Try.underlying95 Try.underlying5 rfl (by omega) rfl fun v7 => ?_
  refine r_p (p_len_sl Try.underlying95 rfl (hs_sl (k := 7) rfl)) rfl ?_
  refine r_p (p_move rfl) rfl ?_
  refine r_nil ?_
  refine r_block ?_
  refine r_loop (X := Nat) (fun k => k ≤ s.size) (fun k => [(7, sv v7), (8, .int .i64 ((bytesI s).length : Int)), (3, .int .u32 (foldC (bytesI s) k)), (9, .int .i64 (k : Int))]) (fun k => []) (fun k => [(7, sl 1 eU8 (sv v7) (bytesI s))]) (fun k => s.size - k) 0 (Nat.zero_le _) rfl rfl rfl (fun k hk0 => ?_)
  refine r_seq ?_
  refine r_region ?_
  refine r_p (p_bin rfl rfl b_lt) rfl ?_
  refine r_nil ?_
  refine r_seq ?_
  refine r_cond rfl (fun h1 => ?_) (fun h1 => ?_)
  · (try simp only [decide_eq_true_eq, decide_eq_false_iff_not, Bool.and_eq_true, Bool.or_eq_true, Bool.and_eq_false_iff, Bool.or_eq_false_iff, Bool.not_eq_true, Bool.not_eq_false, Bool.not_eq_true', Bool.not_eq_false', Bool.not_not, bne_iff_ne, beq_iff_eq] at h1)
    have hk : k < s.size := by rw [bytesI_len] at h1; omega
    have hbb := bytesI_bd s k
    refine r_skip ?_
    refine r_seq ?_
    refine r_block ?_
    refine r_seq ?_
    refine r_region ?_
    refine r_p (p_idx_sl (j := k) Try.underlying95 t5 rfl rfl (hs_sl (k := 7) rfl) (by first | rfl | omega) (by rw [bytesI_len]; omega)) rfl ?_
    refine r_p (p_load1 t5 rfl rfl (g_el' (hs_sl (k := 7) rfl) (by intro _; rfl) (getD_get 0 (by rw [bytesI_len]; omega)) (by rfl))) rfl ?_
    refine r_p (p_assign rfl) rfl ?_
    refine r_nil ?_
    refine r_seq ?_
    refine r_region ?_
    refine r_p (p_move rfl) rfl ?_
    refine r_p (p_move rfl) rfl ?_
    refine r_p (p_conv Try.underlying5 Try.underlying32 rfl (by first | exact w_u32 (by omega) (by omega) | rfl)) rfl ?_
    refine r_p (p_bin rfl rfl (b_xor rfl)) rfl ?_
    refine r_p (p_assign rfl) rfl ?_
    refine r_nil ?_
    refine r_seq ?_
    refine r_region ?_
    refine r_p (p_move rfl) rfl ?_
    refine r_nil ?_
    refine r_block ?_
    refine r_loop (X := Nat) (fun j => j ≤ 8) (fun j => [(7, sv v7), (8, .int .i64 ((bytesI s).length : Int)), (9, .int .i64 (k : Int)), (3, .int .u32 (itS j (bits .xor .u32 (foldC (bytesI s) k) ((bytesI s).getD k 0)))), (17, .int .i64 (j : Int))]) (fun j => []) (fun j => [(7, sl 1 eU8 (sv v7) (bytesI s))]) (fun j => 8 - j) 0 (Nat.zero_le _) rfl rfl rfl (fun j hj0 => ?_)
    have hjb := itS_bd (bits_bd .xor (foldC (bytesI s) k) ((bytesI s).getD k 0)) j
    refine r_seq ?_
    refine r_region ?_
    refine r_p (p_bin rfl rfl b_lt) rfl ?_
    refine r_nil ?_
    refine r_seq ?_
    refine r_cond rfl (fun h2 => ?_) (fun h2 => ?_)
    · (try simp only [decide_eq_true_eq, decide_eq_false_iff_not, Bool.and_eq_true, Bool.or_eq_true, Bool.and_eq_false_iff, Bool.or_eq_false_iff, Bool.not_eq_true, Bool.not_eq_false, Bool.not_eq_true', Bool.not_eq_false', Bool.not_not, bne_iff_ne, beq_iff_eq] at h2)
      have hj : j < 8 := by omega
      refine r_skip ?_
      refine r_seq ?_
      refine r_block ?_
      refine r_region ?_
      refine r_p (p_move rfl) rfl ?_
      refine r_p (p_bin rfl rfl (b_shr (by omega) (by first | decide | (simp [IntKind.bits]; omega)) rfl)) rfl ?_
      refine r_p (p_move rfl) rfl ?_
      refine r_p (p_bin rfl rfl (b_and rfl)) rfl ?_
      refine r_p (p_neg rfl (by first | exact w_u32 (by omega) (by omega) | rfl)) rfl ?_
      refine r_p (p_bin rfl rfl (b_and rfl)) rfl ?_
      refine r_p (p_bin rfl rfl (b_xor rfl)) rfl ?_
      refine r_p (p_assign rfl) rfl ?_
      refine r_nil ?_
      refine r_region ?_
      refine r_p (p_bin rfl rfl (b_add (by first | exact w_i64 (by omega) (by omega) | rfl))) rfl ?_
      refine r_p (p_move rfl) rfl ?_
      refine r_nil ?_
      refine r_here (j + 1) ⟨by omega, by omega⟩ (by rw [itS, ← step_mask hjb.1 hjb.2]; rfl) rfl rfl
    · (try simp only [decide_eq_true_eq, decide_eq_false_iff_not, Bool.and_eq_true, Bool.or_eq_true, Bool.and_eq_false_iff, Bool.or_eq_false_iff, Bool.not_eq_true, Bool.not_eq_false, Bool.not_eq_true', Bool.not_eq_false', Bool.not_not, bne_iff_ne, beq_iff_eq] at h2)
      have hj : j = 8 := by omega
      subst hj
      refine r_exit ?_
      refine r_region ?_
      refine r_p (p_bin rfl rfl (b_add (by first | exact w_i64 (by omega) (by omega) | rfl))) rfl ?_
      refine r_p (p_move rfl) rfl ?_
      refine r_nil ?_
      refine r_here (k + 1) ⟨by omega, by omega⟩ (by rw [foldC_succ (by rw [bytesI_len]; omega)]; rfl) rfl rfl
  · (try simp only [decide_eq_true_eq, decide_eq_false_iff_not, Bool.and_eq_true, Bool.or_eq_true, Bool.and_eq_false_iff, Bool.or_eq_false_iff, Bool.not_eq_true, Bool.not_eq_false, Bool.not_eq_true', Bool.not_eq_false', Bool.not_not, bne_iff_ne, beq_iff_eq] at h1)
    have hk : k = s.size := by rw [bytesI_len] at h1; omega
    subst hk
    refine r_exit ?_
    refine r_seq ?_
    refine r_region ?_
    refine r_p (p_move rfl) rfl ?_
    refine r_p (p_compl rfl) rfl ?_
    refine r_p (p_assign rfl) rfl ?_
    refine r_nil ?_
    refine r_cret ?_
    refine r_ret () trivial rfl (rs1 (rv_tmp rfl)) rfl [] [] rfl rfl rfl
theorem crc_ok (s : ByteArray) : okW (crc s) := bits_bd _ _ _
set_option maxHeartbeats 1000000 in
set_option maxRecDepth 100000 in
theorem get_spec (s : ByteArray) (hs : s.size = 4 ∨ s.size = 0) :
    Spec Try.prog 67 [.string s] [] [] (X := Unit) (fun _ => True) (fun _ => .int .u32 (if s.size = 4 then get4 (bytesI s) else 0)) (fun _ => []) (fun _ => []) := by
  refine r_enter Try.func67 rfl Try.ntmps67 rfl fun w0 M H => ?_
  have hx4 : s.extract 0 s.size = s := by rw [ByteArray.extract_zero_size]
  have hmin : min (s.size : Int) 4 = s.size := by omega
  refine r_seq ?_
  refine r_region ?_
  refine r_p (p_assign rfl) rfl ?_
  refine r_nil ?_
  refine r_seq ?_
  refine r_region ?_
  refine r_p (p_assign rfl) rfl ?_
  refine r_nil ?_
  refine r_seq ?_
  refine r_seq ?_
  refine r_region ?_
  refine r_p (p_move rfl) rfl ?_
  refine r_p (p_move rfl) rfl ?_
  refine r_p (p_len_str Try.underlying9 rfl) rfl ?_
  refine r_p (p_min rfl rfl rfl) rfl ?_
  refine r_p (p_slice_strhi (i := (s.size : Int)) Try.underlying9 rfl (k := .i64) (by show some (Value.int .i64 (min (s.size : Int) 4)) = _; rw [hmin]) (by omega) (by omega)) rfl ?_
  rw [show s.extract 0 ((s.size : Int)).toNat = s from hx4]
  refine r_s2b Try.underlying9 Try.underlying95 Try.underlying5 rfl (by omega) rfl fun v11 => ?_
  refine r_p (p_len_sl Try.underlying95 rfl (hs_sl (k := 11) rfl)) rfl ?_
  refine r_p (p_move rfl) rfl ?_
  refine r_nil ?_
  refine r_block ?_
  refine r_loop (X := Nat) (fun k => k ≤ s.size) (fun k => [(11, sv v11), (12, .int .i64 ((bytesI s).length : Int)), (3, .int .u32 (getN (bytesI s) k)), (13, .int .i64 (k : Int))]) (fun k => []) (fun k => [(11, sl 1 eU8 (sv v11) (bytesI s))]) (fun k => s.size - k) 0 (Nat.zero_le _) rfl rfl rfl (fun k hk0 => ?_)
  refine r_seq ?_
  refine r_region ?_
  refine r_p (p_bin rfl rfl b_lt) rfl ?_
  refine r_nil ?_
  refine r_seq ?_
  refine r_cond rfl (fun h1 => ?_) (fun h1 => ?_)
  · (try simp only [decide_eq_true_eq, decide_eq_false_iff_not, Bool.and_eq_true, Bool.or_eq_true, Bool.and_eq_false_iff, Bool.or_eq_false_iff, Bool.not_eq_true, Bool.not_eq_false, Bool.not_eq_true', Bool.not_eq_false', Bool.not_not, bne_iff_ne, beq_iff_eq] at h1)
    have hk : k < s.size := by rw [bytesI_len] at h1; omega
    have hbb := bytesI_bd s k
    refine r_skip ?_
    refine r_seq ?_
    refine r_block ?_
    refine r_seq ?_
    refine r_region ?_
    refine r_p (p_move rfl) rfl ?_
    refine r_p (p_idx_sl (j := k) Try.underlying95 t5 rfl rfl (hs_sl (k := 11) rfl) (by first | rfl | omega) (by rw [bytesI_len]; omega)) rfl ?_
    refine r_p (p_load1 t5 rfl rfl (g_el' (hs_sl (k := 11) rfl) (by intro _; rfl) (getD_get 0 (by rw [bytesI_len]; omega)) (by rfl))) rfl ?_
    refine r_p (p_assign rfl) rfl ?_
    refine r_p (p_assign rfl) rfl ?_
    refine r_nil ?_
    refine r_region ?_
    refine r_p (p_move rfl) rfl ?_
    refine r_p (p_move rfl) rfl ?_
    refine r_p (p_conv Try.underlying5 Try.underlying32 rfl (by first | exact w_u32 (by omega) (by omega) | rfl)) rfl ?_
    refine r_p (p_move rfl) rfl ?_
    refine r_p (p_bin rfl rfl (b_mul (by first | exact w_i64 (by omega) (by omega) | rfl))) rfl ?_
    refine r_p (p_bin rfl rfl (b_shl (by omega) (by first | decide | (simp [IntKind.bits]; omega)) rfl)) rfl ?_
    refine r_p (p_bin rfl rfl (b_or rfl)) rfl ?_
    refine r_p (p_assign rfl) rfl ?_
    refine r_nil ?_
    refine r_region ?_
    refine r_p (p_bin rfl rfl (b_add (by first | exact w_i64 (by omega) (by omega) | rfl))) rfl ?_
    refine r_p (p_move rfl) rfl ?_
    refine r_nil ?_
    refine r_here (k + 1) ⟨by omega, by omega⟩ rfl rfl rfl
  · (try simp only [decide_eq_true_eq, decide_eq_false_iff_not, Bool.and_eq_true, Bool.or_eq_true, Bool.and_eq_false_iff, Bool.or_eq_false_iff, Bool.not_eq_true, Bool.not_eq_false, Bool.not_eq_true', Bool.not_eq_false', Bool.not_not, bne_iff_ne, beq_iff_eq] at h1)
    have hk : k = s.size := by rw [bytesI_len] at h1; omega
    subst hk
    refine r_exit ?_
    refine r_seq ?_
    refine r_region ?_
    refine r_p (p_move rfl) rfl ?_
    refine r_p (p_assign rfl) rfl ?_
    refine r_nil ?_
    refine r_cret ?_
    refine r_ret () trivial rfl (rs1 (rv_tmp rfl)) (by rcases hs with h | h <;> rw [h]; exact congrArg (Value.int .u32) (getN_four (bytesI_bd s)); rfl) [] [] rfl rfl rfl

end Go.Proofs.Ytohenjmkhncoiaa
