/-
  The walk of the law QcodeConsts: it answers true. Condition: the number is a word.
-/
import Derived.Test.YtdoanneelnelbaaV2
namespace Go.Proofs.Ytdoanneelnelbaa
set_option linter.unusedSimpArgs false
set_option linter.unusedVariables false
open Go.RowKit

attribute [local go_sem] cell_set

theorem valid_lui (m n : Int) (hm : 0 ≤ m ∧ m < 16) (h0 : 0 ≤ n) (h1 : n < 4294967296) : validR ⟨41, m, 0, 0, n / 1024⟩ = true := by
  have hf : formOf 41 = ⟨true, true, false, false, false, 22, 0⟩ := rfl
  have h2 : fitsR m true = true := (fitsR_iff _ _).2 (by by_cases h : m = 0; exact .inl h; exact .inr ⟨rfl, by omega, by omega⟩)
  show validF (formOf 41) _ = true
  rw [hf]
  show (true && (fitsR m true && (fitsR 0 false && (fitsR 0 false && decide (n / 1024 < 4194304))))) = true
  rw [h2]
  simp [fitsR]
  omega

theorem valid_ori (m n : Int) (hm : 0 ≤ m ∧ m < 16) (h0 : 0 ≤ n) (h1 : n < 4294967296) : validR ⟨18, m, m, 0, n % 1024⟩ = true := by
  have hf : formOf 18 = ⟨true, true, true, false, false, 18, 0⟩ := rfl
  have h2 : fitsR m true = true := (fitsR_iff _ _).2 (by by_cases h : m = 0; exact .inl h; exact .inr ⟨rfl, by omega, by omega⟩)
  show validF (formOf 18) _ = true
  rw [hf]
  show (true && (fitsR m true && (fitsR m true && (fitsR 0 false && decide (n % 1024 < 262144))))) = true
  rw [h2]
  simp [fitsR]
  omega

theorem equal27 (k : Nat) (a0 a1 a2 a3 a4 : Int) (w : World) :
    (Op.equalIn (k + 2) 27 (.agg #[.int .i64 a0, .int .i64 a1, .int .i64 a2, .int .i64 a3, .int .u32 a4]) (.agg #[.int .i64 a0, .int .i64 a1, .int .i64 a2, .int .i64 a3, .int .u32 a4])).run Try.prog w = .ok true w := by
  rw [run_equalIn_struct (P := Try.prog) w (k + 1) 27 _ _ (by kernel_rfl) (by kernel_rfl)]
  simp [go_sem]

theorem equal56 (k : Nat) (a0 a1 a2 a3 a4 a5 a6 a7 a8 a9 : Int) (w : World) :
    (Op.equalIn (k + 3) 56 (.agg #[.int .i64 a0, .int .i64 a1, .int .i64 a2, .int .i64 a3, .int .u32 a4, .int .i64 a5, .int .i64 a6, .int .i64 a7, .int .i64 a8, .int .u32 a9]) (.agg #[.int .i64 a0, .int .i64 a1, .int .i64 a2, .int .i64 a3, .int .u32 a4, .int .i64 a5, .int .i64 a6, .int .i64 a7, .int .i64 a8, .int .u32 a9])).run Try.prog w = .ok true w := by
  have hs : (sizeOf 27).run Try.prog w = .ok 5 w := by kernel_rfl
  have hp0 : (part 27 #[.int .i64 a0, .int .i64 a1, .int .i64 a2, .int .i64 a3, .int .u32 a4, .int .i64 a5, .int .i64 a6, .int .i64 a7, .int .i64 a8, .int .u32 a9] 0).run Try.prog w = .ok (.agg #[.int .i64 a0, .int .i64 a1, .int .i64 a2, .int .i64 a3, .int .u32 a4]) w := by kernel_rfl
  have hp1 : (part 27 #[.int .i64 a0, .int .i64 a1, .int .i64 a2, .int .i64 a3, .int .u32 a4, .int .i64 a5, .int .i64 a6, .int .i64 a7, .int .i64 a8, .int .u32 a9] 5).run Try.prog w = .ok (.agg #[.int .i64 a5, .int .i64 a6, .int .i64 a7, .int .i64 a8, .int .u32 a9]) w := by kernel_rfl
  have hi0 := equal27 k a0 a1 a2 a3 a4 w
  have hi1 := equal27 k a5 a6 a7 a8 a9 w
  rw [Op.equalIn]
  simp [run_underlying Try.underlying56, hs, List.range', hp0, hp1, hi0, hi1]

theorem eql56 (a0 a1 a2 a3 a4 a5 a6 a7 a8 a9 : Int) (w : World) :
    (binOp .eql 56 (.agg #[.int .i64 a0, .int .i64 a1, .int .i64 a2, .int .i64 a3, .int .u32 a4, .int .i64 a5, .int .i64 a6, .int .i64 a7, .int .i64 a8, .int .u32 a9]) (.agg #[.int .i64 a0, .int .i64 a1, .int .i64 a2, .int .i64 a3, .int .u32 a4, .int .i64 a5, .int .i64 a6, .int .i64 a7, .int .i64 a8, .int .u32 a9])).run Try.prog w = .ok (.bool true) w := by
  rw [run_eql_struct, equal56 9997]
  rfl

set_option maxHeartbeats 1000000 in
theorem consts_walk (d n : Int) (h0 : 0 ≤ n) (h1 : n < 4294967296) (w : World) :
    Calls Try.prog 13 #[.int .i64 d, .int .u32 n] w fun e w' => e = .returned (.bool true) ∧ Below w.heap.size w w' := by
  have hm : 0 ≤ d % 16 ∧ d % 16 < 16 := by omega
  have hV1 := fun w => valid_any ⟨41, d % 16, 0, 0, n / 1024⟩ w (by simp only; omega) (by simp only; omega)
  have hV2 := fun w => valid_any ⟨18, d % 16, d % 16, 0, n % 1024⟩ w (by simp only; omega) (by simp only; omega)
  rw [valid_lui _ _ hm h0 h1] at hV1
  rw [valid_ori _ _ hm h0 h1] at hV2
  have HV1 := Lib.hid hV1
  have HV2 := Lib.hid hV2
  clear hV1 hV2
  go_enter Try.func13, Try.ntmps13
  go_wp2_with fail
  refine (sanity_any _).mono ?_
  rintro e w1 ⟨rfl, hb1⟩
  go_wp2_with fail
  refine (mod_any _ _ (by omega) (by omega) _).mono ?_
  rintro e w1' ⟨rfl, rfl⟩
  go_wp2_with fail
  refine (const_any _ _ _ h0 h1).mono ?_
  unfold constV
  rintro e w2 ⟨rfl, hb2⟩
  go_wp2_with fail
  refine (HV1.out _).mono ?_
  rintro e w3 ⟨rfl, hb3⟩
  obtain ⟨hc3, hf3⟩ := bcell hb3
  have hz3 := grew hb3
  go_wp2_with fail
  refine (HV2.out _).mono ?_
  rintro e w4 ⟨rfl, hb4⟩
  obtain ⟨hc4, hf4⟩ := bcell hb4
  have hz4 : w2.heap.size < w4.heap.size := Nat.lt_of_lt_of_le hz3 hb4.size
  have or1 := or_join (n / 1024 * 1024) (n % 1024) 10 (by omega) (by omega) (by omega) (by omega) (by omega) (by omega)
  have heq := eql56
  go_wp2_with fail
  refine (const_any _ _ _ h0 h1).mono ?_
  unfold constV
  rintro e w5 ⟨rfl, hb5⟩
  obtain ⟨hc5, hf5⟩ := bcell hb5
  have hz5 : w2.heap.size < w5.heap.size := Nat.lt_of_lt_of_le hz4 hb5.size
  go_wp2_with fail
  refine (constRef_any _ _ _ h0 h1).mono ?_
  unfold constV
  rintro e w6 ⟨rfl, hb6⟩
  obtain ⟨hc6, hf6⟩ := bcell hb6
  have hz6 : w2.heap.size < w6.heap.size := Nat.lt_of_lt_of_le hz5 hb6.size
  have or2 : (n / 1024 * 1024 + n % 1024 == n) = true := by rw [beq_iff_eq]; omega
  go_wp2
  go_ret
  exact ⟨rfl, (by repeat' (first | with_reducible exact Below.refl _ _ | with_reducible refine below_alloc ?_ _ | with_reducible refine below_drew ?_ | with_reducible refine below_drewN ?_ _ | with_reducible refine below_set ?_ (by first | exact Nat.le_refl _ | (simp <;> omega)) _ | with_reducible refine below_call ?_ (by assumption)))⟩

end Go.Proofs.Ytdoanneelnelbaa
