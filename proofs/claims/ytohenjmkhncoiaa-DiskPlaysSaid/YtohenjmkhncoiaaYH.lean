/-
  Comparing states; numbers of bytes. No condition.
-/
import Derived.Test.YtohenjmkhncoiaaYG
import Derived.Test.YtohenjmkhncoiaaF
namespace Go.Proofs.Ytohenjmkhncoiaa
set_option linter.unusedSimpArgs false
set_option linter.unusedVariables false
open Go.RowKit

theorem eqF_step {P : Program} {w : World} {d : Nat} {xs ys : Array Value} {f : Field} {fs : List Field} {a b : Value} {r q : Bool} (hn : f.name ≠ "_") (ha : (part f.type xs f.offset).run P w = .ok a w) (hb : (part f.type ys f.offset).run P w = .ok b w)
    (hr : (Op.equalIn d f.type a b).run P w = .ok r w) (hq : (Op.eqFields d xs ys fs).run P w = .ok q w) : (Op.eqFields d xs ys (f :: fs)).run P w = .ok (r && q) w := by
  rw [Op.eqFields, if_pos hn]
  simp only [Sem.run_bind, ha, hb, hr, Result.andThen_ok]
  cases r
  · simp
  · simpa using hq
theorem arr16 (x : Sp) : ((List.range 16).map fun i => Value.int .u32 (x.R i)).toArray = ((stC x).toArray).extract 1 (1 + 16) := by rfl
theorem equalIn_arr {P : Program} {S U : TypeId} {k : IntKind} {z : Value} {n bb d : Nat} {f g : Nat → Int} (w : World) (hS : P.underlying S = some (.array n U)) (hU : TI P U (.int k) z 1 bb) :
    (Op.equalIn (d + 2) S (.agg ((List.range n).map fun i => .int k (f i)).toArray) (.agg ((List.range n).map fun i => .int k (g i)).toArray)).run P w = .ok (decide ((List.range n).map f = (List.range n).map g)) w := by
  obtain ⟨i, h1, h2, h3, h4⟩ := hU.info
  rw [run_equalIn_array w (d + 1) _ _ hS h1, hU.cellsOf, eqItems_int (d := d) (f := f) (g := g) hU w, range_all]
  intro j hj
  have hj' : j < n := by simpa using hj
  simp [hj']
set_option maxRecDepth 100000 in
theorem equal56 (k : Nat) (x y : Sp) (w : World) : (Op.equalIn (k + 4) 56 (.agg (stC x).toArray) (.agg (stC y).toArray)).run Try.prog w = .ok (decide (StEq x y)) w := by
  rw [run_equalIn_struct (P := Try.prog) w (k + 3) 56 _ _ (by kernel_rfl) (by kernel_rfl)]
  have hf : (Try.prog.fieldsOf 56).toList = [Field.mk "PC" 32 0 false "" "" 0, Field.mk "R" 53 1 false "" "" 4, Field.mk "F" 32 17 false "" "" 68, Field.mk "C" 54 18 false "" "" 72, Field.mk "Steps" 3 22 false "" "" 88, Field.mk "Due" 3 23 false "" "" 96] := by kernel_rfl
  rw [hf]
  have h := eqF_step (P := Try.prog) (w := w) (d := k + 3) (xs := (stC x).toArray) (ys := (stC y).toArray) (f := Field.mk "PC" 32 0 false "" "" 0) (by decide) (run_part1 t32 rfl (by rfl) w) (run_part1 t32 rfl (by rfl) w) (run_equalIn_int w _ 32 .u32 .u32 _ _ t32.und)
    (eqF_step (f := Field.mk "R" 53 1 false "" "" 4) (by decide) (run_partA t53 rfl (arr16 x).symm w) (run_partA t53 rfl (arr16 y).symm w) (equalIn_arr w t53.und t32)
    (eqF_step (f := Field.mk "F" 32 17 false "" "" 68) (by decide) (run_part1 t32 rfl (by rfl) w) (run_part1 t32 rfl (by rfl) w) (run_equalIn_int w _ 32 .u32 .u32 _ _ t32.und)
    (eqF_step (f := Field.mk "C" 54 18 false "" "" 72) (by decide) (run_partA (us := ((List.range 4).map fun i => Value.int .u32 (x.C i)).toArray) t54 rfl (by rfl) w) (run_partA (us := ((List.range 4).map fun i => Value.int .u32 (y.C i)).toArray) t54 rfl (by rfl) w) (equalIn_arr w t54.und t32)
    (eqF_step (f := Field.mk "Steps" 3 22 false "" "" 88) (by decide) (run_part1 t3 rfl (by rfl) w) (run_part1 t3 rfl (by rfl) w) (run_equalIn_int w _ 3 .i64 .i64 _ _ t3.und)
    (eqF_step (f := Field.mk "Due" 3 23 false "" "" 96) (by decide) (run_part1 t3 rfl (by rfl) w) (run_part1 t3 rfl (by rfl) w) (run_equalIn_int w _ 3 .i64 .i64 _ _ t3.und) (fs := []) (q := true) rfl)))))
  refine h.trans ?_
  congr 1
  rw [Bool.eq_iff_iff]
  simp only [Bool.and_eq_true, beq_iff_eq, decide_eq_true_eq, and_true]
  exact ⟨fun ⟨h1, h2, h3, h4, h5, h6⟩ => ⟨h1, h2, h3, h4, h5, h6⟩, fun e => ⟨e.pc, e.R, e.f, e.C, e.steps, e.due⟩⟩
theorem b_neSt (x y : Sp) : BinRun Try.prog .neq 56 (.agg (stC x).toArray) (.agg (stC y).toArray) (.bool (!decide (StEq x y))) := fun a b w => by
  have hq : Try.prog.eqGuardType Try.prog.depth 56 = false := by kernel_rfl
  simp only [Sem.run_bind, run_eqGuard_agg w .neq 56 a b _ _ hq, Result.andThen_ok, run_neq_struct]
  rw [equal56 9996]
  rfl
/-! ### Numbers of bytes -/
theorem or_add_u32 {a c : Int} (i : Nat) (ha : 0 ≤ a) (ha2 : a < 2 ^ i) (hc : 0 ≤ c) (hs : a + c * 2 ^ i < 4294967296) : bits .or .u32 a (IntKind.u32.wrap (c * 2 ^ i)) = a + c * 2 ^ i := by
  have hci : 0 ≤ c * 2 ^ i := Int.mul_nonneg hc (Int.le_of_lt (Int.pow_pos (by decide)))
  rw [wrap_u32_id hci (by omega)]
  obtain ⟨m, rfl⟩ := Int.eq_ofNat_of_zero_le ha
  obtain ⟨n, rfl⟩ := Int.eq_ofNat_of_zero_le hc
  have hm : m < 2 ^ i := by
    have : ((m : Nat) : Int) < ((2 ^ i : Nat) : Int) := by rw [Int.natCast_pow]; exact ha2
    omega
  have hs' : m + n * 2 ^ i < 4294967296 := by
    have : ((m + n * 2 ^ i : Nat) : Int) < 4294967296 := by rw [Int.natCast_add, Int.natCast_mul, Int.natCast_pow]; exact hs
    omega
  have h3 : bits .or .u32 (m : Int) ((n : Int) * 2 ^ i) = IntKind.u32.wrap (((BitVec.ofInt 32 (m : Int) ||| BitVec.ofInt 32 ((n : Int) * 2 ^ i)).toNat : Nat) : Int) := rfl
  have e1 : (BitVec.ofInt 32 (m : Int)).toNat = m := by rw [BitVec.toNat_ofInt]; omega
  have e2 : (BitVec.ofInt 32 ((n : Int) * 2 ^ i)).toNat = n * 2 ^ i := by
    rw [BitVec.toNat_ofInt]
    have : ((n : Int) * 2 ^ i) = ((n * 2 ^ i : Nat) : Int) := by rw [Int.natCast_mul, Int.natCast_pow]; rfl
    rw [this]
    omega
  rw [h3, BitVec.toNat_or, e1, e2, ← Nat.shiftLeft_eq, Nat.or_comm, ← Nat.shiftLeft_add_eq_or_of_lt hm, Nat.shiftLeft_eq]
  rw [wrap_u32_id (by omega) (by omega), Int.natCast_add, Int.natCast_mul, Int.natCast_pow, Int.add_comm]
  rfl
def getN (l : List Int) : Nat → Int
  | 0 => 0
  | k + 1 => bits .or .u32 (getN l k) (IntKind.u32.wrap (l.getD k 0 * 2 ^ (8 * k)))
theorem getN_four {l : List Int} (h : ∀ j, 0 ≤ l.getD j 0 ∧ l.getD j 0 < 256) : getN l 4 = get4 l := by
  have h0 := h 0; have h1 := h 1; have h2 := h 2; have h3 := h 3
  have e1 : getN l 1 = l.getD 0 0 := by
    show bits .or .u32 0 (IntKind.u32.wrap (l.getD 0 0 * 2 ^ 0)) = _
    rw [or_add_u32 0 (by omega) (by omega) h0.1 (by omega)]
    omega
  have e2 : getN l 2 = l.getD 0 0 + l.getD 1 0 * 256 := by
    show bits .or .u32 (getN l 1) (IntKind.u32.wrap (l.getD 1 0 * 2 ^ 8)) = _
    rw [e1, or_add_u32 8 (by omega) (by omega) h1.1 (by omega)]
    omega
  have e3 : getN l 3 = l.getD 0 0 + l.getD 1 0 * 256 + l.getD 2 0 * 65536 := by
    show bits .or .u32 (getN l 2) (IntKind.u32.wrap (l.getD 2 0 * 2 ^ 16)) = _
    rw [e2, or_add_u32 16 (by omega) (by omega) h2.1 (by omega)]
    omega
  show bits .or .u32 (getN l 3) (IntKind.u32.wrap (l.getD 3 0 * 2 ^ 24)) = _
  rw [e3, or_add_u32 24 (by omega) (by omega) h3.1 (by omega)]
  unfold get4
  omega
theorem join_u64 {lo hi : Int} (hl : 0 ≤ lo ∧ lo < 4294967296) (hh : 0 ≤ hi ∧ hi < 4294967296) : IntKind.i64.wrap (bits .or .u64 (IntKind.u64.wrap (hi * 2 ^ 32)) lo) = joinI (lo, hi) := by
  obtain ⟨m, rfl⟩ := Int.eq_ofNat_of_zero_le hl.1
  obtain ⟨n, rfl⟩ := Int.eq_ofNat_of_zero_le hh.1
  have hw : IntKind.u64.wrap ((n : Int) * 2 ^ 32) = ((n * 2 ^ 32 : Nat) : Int) := by
    have : IntKind.u64.wrap ((n : Int) * 2 ^ 32) = ((n : Int) * 2 ^ 32) % 18446744073709551616 := rfl
    rw [this]
    omega
  have h3 : ∀ x y : Int, bits .or .u64 x y = IntKind.u64.wrap (((BitVec.ofInt 64 x ||| BitVec.ofInt 64 y).toNat : Nat) : Int) := fun _ _ => rfl
  have e1 : (BitVec.ofInt 64 (m : Int)).toNat = m := by rw [BitVec.toNat_ofInt]; omega
  have e2 : (BitVec.ofInt 64 ((n * 2 ^ 32 : Nat) : Int)).toNat = n * 2 ^ 32 := by rw [BitVec.toNat_ofInt]; omega
  have hm : m < 2 ^ 32 := by omega
  rw [hw, h3, BitVec.toNat_or, e1, e2, ← Nat.shiftLeft_eq, ← Nat.shiftLeft_add_eq_or_of_lt hm, Nat.shiftLeft_eq]
  have h5 : IntKind.u64.wrap (((n * 2 ^ 32 + m : Nat) : Int)) = ((n * 2 ^ 32 + m : Nat) : Int) := by
    have : IntKind.u64.wrap (((n * 2 ^ 32 + m : Nat) : Int)) = ((n * 2 ^ 32 + m : Nat) : Int) % 18446744073709551616 := rfl
    rw [this]
    omega
  rw [h5]
  unfold joinI
  have h6 : ∀ z : Int, IntKind.i64.wrap z = (if z % 18446744073709551616 < 9223372036854775808 then z % 18446744073709551616 else z % 18446744073709551616 - 18446744073709551616) := fun z => by rw [IntKind.wrap_i64]; omega
  rw [h6]
  dsimp only
  split <;> split <;> omega

end Go.Proofs.Ytohenjmkhncoiaa
