/-
  Filling, masks. Condition: at most a million bytes.
-/
import Derived.Test.YtohenjmkhncoiaaYP
namespace Go.Proofs.Ytohenjmkhncoiaa
set_option linter.unusedSimpArgs false
set_option linter.unusedVariables false
open Go.RowKit

theorem and_mask {x m : Int} (n : Nat) (hn : n ≤ 32) (hm : m = ((2 ^ n - 1 : Nat) : Int)) : bits .and .i64 x m = x % ((2 ^ n : Nat) : Int) := by
  subst hm
  have hp : 2 ^ n ≤ 4294967296 := by
    have := Nat.pow_le_pow_right (n := 2) (by decide) hn
    simpa using this
  have hp0 : 0 < 2 ^ n := Nat.pow_pos (by decide)
  have h3 : ∀ x y : Int, bits .and .i64 x y = IntKind.i64.wrap (((BitVec.ofInt 64 x &&& BitVec.ofInt 64 y).toNat : Nat) : Int) := fun _ _ => rfl
  have e2 : (BitVec.ofInt 64 ((2 ^ n - 1 : Nat) : Int)).toNat = 2 ^ n - 1 := by rw [BitVec.toNat_ofInt]; omega
  have hlt : (x % 18446744073709551616).toNat % 2 ^ n < 2 ^ n := Nat.mod_lt _ hp0
  rw [h3, BitVec.toNat_and, e2, BitVec.toNat_ofInt, Nat.and_two_pow_sub_one_eq_mod]
  rw [show ((2 ^ 64 : Nat) : Int) = 18446744073709551616 from rfl, IntKind.wrap_i64]
  have hd : ((2 ^ n : Nat) : Int) ∣ 18446744073709551616 := by
    have h : (2 : Nat) ^ n ∣ 2 ^ 64 := Nat.pow_dvd_pow 2 (by omega)
    have : ((2 ^ n : Nat) : Int) ∣ ((2 ^ 64 : Nat) : Int) := Int.natCast_dvd_natCast.2 h
    simpa using this
  have hx : x % ((2 ^ n : Nat) : Int) = (x % 18446744073709551616) % ((2 ^ n : Nat) : Int) := (Int.emod_emod_of_dvd x hd).symm
  rw [hx]
  have hnn : 0 ≤ x % 18446744073709551616 := Int.emod_nonneg _ (by decide)
  obtain ⟨y, hy⟩ := Int.eq_ofNat_of_zero_le hnn
  rw [hy] at hlt ⊢
  rw [Int.toNat_natCast] at hlt ⊢
  rw [← Int.natCast_emod]
  omega
theorem and3 (x : Int) : bits .and .i64 x 3 = x % 4 := and_mask 2 (by decide) rfl
theorem and7 (x : Int) : bits .and .i64 x 7 = x % 8 := and_mask 3 (by decide) rfl
theorem and65535 (x : Int) : bits .and .i64 x 65535 = x % 65536 := and_mask 16 (by decide) rfl
/-- The bytes of Fill. -/
def sdF (seed : Int) : Nat → Int
  | 0 => seed
  | k + 1 => IntKind.u32.wrap (IntKind.u32.wrap (sdF seed k * 1664525) + 1013904223)
def byF (seed : Int) (i : Nat) : Int := IntKind.u8.wrap (sdF seed (i + 1) / 2 ^ (24 : Int).toNat)
def fillL (seed : Int) (n : Nat) : List Int := (List.range n).map (byF seed)
def fillS (seed : Int) (n : Nat) : ByteArray := ofI (fillL seed n)
theorem byF_bd (seed : Int) (i : Nat) : 0 ≤ byF seed i ∧ byF seed i < 256 := by
  unfold byF
  generalize sdF seed (i + 1) / 2 ^ (24 : Int).toNat = z
  have : IntKind.u8.wrap z = z % 256 := rfl
  rw [this]
  omega
theorem By_fillL (seed : Int) (n : Nat) : By (fillL seed n) := fun x hx => by
  obtain ⟨i, _, rfl⟩ := List.mem_map.1 hx
  exact byF_bd seed i
theorem fillS_size (seed : Int) (n : Nat) : (fillS seed n).size = n := by
  unfold fillS fillL
  rw [ofI_size, List.length_map, List.length_range]
theorem rep_range (n : Nat) (f : Nat → Int) : List.replicate n (0 : Int) = (List.range n).map fun i => if i < 0 then f i else 0 := by
  apply List.ext_getElem
  · simp
  · intro i h1 h2
    simp
theorem range_set (n k : Nat) (f : Nat → Int) (hk : k < n) : ((List.range n).map fun i => if i < k then f i else 0).set k (f k) = (List.range n).map fun i => if i < k + 1 then f i else 0 := by
  apply List.ext_getElem
  · simp
  · intro i h1 h2
    rw [List.getElem_set]
    by_cases h : k = i
    · subst h; simp
    · simp [h]
      by_cases h' : i < k
      · rw [if_pos h', if_pos (by omega)]
      · rw [if_neg h', if_neg (by omega)]
theorem range_done (n : Nat) (f : Nat → Int) : ((List.range n).map fun i => if i < n then f i else 0) = (List.range n).map f := by
  apply List.map_congr_left
  intro i hi
  rw [if_pos (List.mem_range.1 hi)]

set_option maxHeartbeats 1000000 in
set_option maxRecDepth 100000 in
theorem fill_spec (seed n : Int) (h0 : 0 ≤ n) (h1 : n ≤ 1000000) :
    Spec Try.prog 18 [.int .u32 seed, .int .i64 n] [] [] (X := Unit) (fun _ => True) (fun _ => .string (fillS seed n.toNat)) (fun _ => []) (fun _ => []) := by
  refine r_enter Try.func18 rfl Try.ntmps18 rfl fun w0 M H => ?_
  have hmx : max 0 n = n := by omega
  refine r_seq ?_
  refine r_region ?_
  refine r_p (p_assign rfl) rfl ?_
  refine r_nil ?_
  refine r_seq ?_
  refine r_region ?_
  refine r_p (p_move rfl) rfl ?_
  refine r_p (p_max rfl rfl rfl) rfl ?_
  refine r_makeN eU8 (0 : Int) Try.underlying95 t5 rfl rfl rfl rfl (c := n.toNat) (by omega) (by omega) (by omega) (by simp only [maxLen]; omega) rfl fun v9 => ?_
  refine r_p (p_assign rfl) rfl ?_
  refine r_nil ?_
  refine r_seq ?_
  refine r_seq ?_
  refine r_region ?_
  refine r_p (p_assign rfl) rfl ?_
  refine r_nil ?_
  refine r_block ?_
  refine r_loop (X := Nat) (fun k => k ≤ n.toNat) (fun k => [(0, .int .u32 (sdF seed k)), (5, sv v9), (6, .int .i64 (k : Int))]) (fun k => [(9, own 5 1 eU8 (sv v9) ((List.range n.toNat).map fun i => if i < k then byF seed i else 0))]) (fun k => []) (fun k => n.toNat - k) 0 (Nat.zero_le _) rfl (by rw [rep_range n.toNat (byF seed)]; rfl) rfl (fun k hk0 => ?_)
  have hll : ((List.range n.toNat).map fun i => if i < k then byF seed i else 0).length = n.toNat := by simp only [List.length_map, List.length_range]
  refine r_seq ?_
  refine r_seq ?_
  refine r_region ?_
  refine r_p (p_move rfl) rfl ?_
  refine r_p (p_move rfl) rfl ?_
  refine r_p (p_len_sl Try.underlying95 rfl (hs_own (k := 9) rfl)) rfl ?_
  refine r_p (p_bin rfl rfl b_lt) rfl ?_
  refine r_nil ?_
  refine r_cond rfl (fun h1 => ?_) (fun h1 => ?_)
  · (try simp only [decide_eq_true_eq, decide_eq_false_iff_not, Bool.and_eq_true, Bool.or_eq_true, Bool.and_eq_false_iff, Bool.or_eq_false_iff, Bool.not_eq_true, Bool.not_eq_false, Bool.not_eq_true', Bool.not_eq_false', Bool.not_not, bne_iff_ne, beq_iff_eq] at h1)
    have hk : k < n.toNat := by rw [hll] at h1; omega
    refine r_skip ?_
    refine r_seq ?_
    refine r_block ?_
    refine r_seq ?_
    refine r_region ?_
    refine r_p (p_move rfl) rfl ?_
    refine r_p (p_bin rfl rfl (b_mul rfl)) rfl ?_
    refine r_p (p_bin rfl rfl (b_add rfl)) rfl ?_
    refine r_p (p_assign rfl) rfl ?_
    refine r_nil ?_
    refine r_region ?_
    refine r_p (p_move rfl) rfl ?_
    refine r_p (p_move rfl) rfl ?_
    refine r_p (p_move rfl) rfl ?_
    refine r_p (p_bin rfl rfl (b_shr (by omega) (by first | decide | (simp [IntKind.bits]; omega)) rfl)) rfl ?_
    refine r_p (p_conv Try.underlying32 Try.underlying5 rfl (by first | exact w_u8 (by omega) (by omega) | rfl)) rfl ?_
    refine r_p (p_idx_sl (j := k) Try.underlying95 t5 rfl rfl (hs_own (k := 9) rfl) (by first | rfl | omega) (by simp only [List.length_map, List.length_range]; omega)) rfl ?_
    refine r_store_el (k := 9) (e' := (byF seed k)) t5 rfl rfl rfl (by intro _; rfl) (getD_get 0 (by simp only [List.length_map, List.length_range]; omega)) rfl rfl ?_
    refine r_nil ?_
    refine r_region ?_
    refine r_p (p_move rfl) rfl ?_
    refine r_p (p_bin rfl rfl (b_add (by first | exact w_i64 (by omega) (by omega) | rfl))) rfl ?_
    refine r_p (p_assign rfl) rfl ?_
    refine r_nil ?_
    refine r_here (k + 1) ⟨by omega, by omega⟩ rfl (by rw [← range_set n.toNat k (byF seed) hk]; rfl) rfl
  · (try simp only [decide_eq_true_eq, decide_eq_false_iff_not, Bool.and_eq_true, Bool.or_eq_true, Bool.and_eq_false_iff, Bool.or_eq_false_iff, Bool.not_eq_true, Bool.not_eq_false, Bool.not_eq_true', Bool.not_eq_false', Bool.not_not, bne_iff_ne, beq_iff_eq] at h1)
    have hk : k = n.toNat := by rw [hll] at h1; omega
    subst hk
    refine r_exit ?_
    refine r_seq ?_
    refine r_region ?_
    refine r_p (p_move rfl) rfl ?_
    refine r_p (p_b2sE Try.underlying95 Try.underlying5 Try.underlying9 rfl (SlS.of (hs_own (k := 9) rfl))) rfl ?_
    refine r_p (p_assign rfl) rfl ?_
    refine r_nil ?_
    refine r_cret ?_
    refine r_ret () trivial rfl (rs1 (rv_tmp rfl)) (by rw [range_done]; rfl) [] [] rfl rfl rfl
set_option maxRecDepth 100000 in
theorem k4_spec (n : Int) :
    Spec Try.prog 48 [.int .i64 n] [] [] (X := Unit) (fun _ => True) (fun _ => .int .i64 (n % 4)) (fun _ => []) (fun _ => []) := by
  refine r_enter Try.func48 rfl Try.ntmps48 rfl fun w0 M H => ?_
  refine r_seq ?_
  refine r_region ?_
  refine r_p (p_assign rfl) rfl ?_
  refine r_nil ?_
  refine r_seq ?_
  refine r_region ?_
  refine r_p (p_move rfl) rfl ?_
  refine r_p (p_bin rfl rfl (b_and (and3 _))) rfl ?_
  refine r_p (p_assign rfl) rfl ?_
  refine r_nil ?_
  refine r_cret ?_
  refine r_ret () trivial rfl (rs1 (rv_tmp rfl)) rfl [] [] rfl rfl rfl

end Go.Proofs.Ytohenjmkhncoiaa
