/-
  Plain laws of the encoding of Q, in plain Lean: decoding inverts encoding, and what follows. No condition but that an immediate is a word.
-/
import Derived.Test.YtdoanneelnelbaaP
namespace Go.Proofs.Ytdoanneelnelbaa
set_option linter.unusedSimpArgs false
set_option linter.unusedVariables false

theorem pw_0 : pw 0 = 1 := rfl
theorem pw_18 : pw 18 = 262144 := rfl
theorem pw_22 : pw 22 = 4194304 := rfl

theorem encE_zero (i : QI) : (encE i == 0) = validR i := by
  unfold encE
  cases validR i <;> rfl

theorem QI.ext' {i j : QI} (h1 : i.op = j.op) (h2 : i.d = j.d) (h3 : i.a = j.a) (h4 : i.b = j.b) (h5 : i.imm = j.imm) : i = j := by
  cases i; cases j; simp_all

theorem dec_enc (i : QI) (hv : validR i = true) (h0 : 0 ≤ i.imm) (h1 : i.imm < 4294967296) : decI (wordR i) = i ∧ 0 ≤ wordR i ∧ wordR i < 4294967296 := by
  obtain ⟨o0, o1, d0, d1, a0, a1, b0, b1, dz, az, bz, is, im⟩ := validR_facts i hv
  have hw : wordR i = i.op * 67108864 + i.d * 4194304 + i.a * 262144 + i.b * 16384 + i.imm % pw (formOf i.op).bits := rfl
  rw [hw]
  clear hw hv
  obtain ⟨op, d, a, b, imm⟩ := i
  simp only at *
  rcases formOf_cases op with h | h | h | h | h | h | h | h | h | h | h
  all_goals
    rw [h] at dz az bz is im ⊢
    simp only [immR, pw_0, pw_18, pw_22, if_true, Bool.false_eq_true, if_false, beq_iff_eq, decide_eq_true_eq, forall_const, Bool.true_eq_false, false_implies, sgn, Int.reduceEq, Int.reduceLT] at dz az bz is im ⊢
    try subst dz
    try subst az
    try subst bz
  all_goals
    try (cases is; done)
  all_goals
    refine ⟨?_, by omega, by omega⟩
    unfold decI
    simp only [show ∀ x : Int, 0 ≤ x → x < 67108864 → (op * 67108864 + x) / 67108864 = op from fun x hx hy => by omega, Int.add_assoc]
    first
    | rw [show (op * 67108864 + (d * 4194304 + (a * 262144 + (b * 16384 + imm % 1)))) / 67108864 = op by omega]
    | rw [show (op * 67108864 + (d * 4194304 + (a * 262144 + (0 * 16384 + imm % 262144)))) / 67108864 = op by omega]
    | rw [show (op * 67108864 + (d * 4194304 + (0 * 262144 + (0 * 16384 + imm % 4194304)))) / 67108864 = op by omega]
    | rw [show (op * 67108864 + (0 * 4194304 + (0 * 262144 + (0 * 16384 + imm % 262144)))) / 67108864 = op by omega]
    | rw [show (op * 67108864 + (0 * 4194304 + (0 * 262144 + (0 * 16384 + imm % 1)))) / 67108864 = op by omega]
    | rw [show (op * 67108864 + (0 * 4194304 + (a * 262144 + (0 * 16384 + imm % 1)))) / 67108864 = op by omega]
    | rw [show (op * 67108864 + (d * 4194304 + (0 * 262144 + (0 * 16384 + imm % 262144)))) / 67108864 = op by omega]
    | rw [show (op * 67108864 + (0 * 4194304 + (a * 262144 + (0 * 16384 + imm % 262144)))) / 67108864 = op by omega]
    rw [h]
    apply QI.ext'
    all_goals simp only [if_true, Bool.false_eq_true, if_false, pw_0, pw_18, pw_22, sgn]
    all_goals first
      | done
      | omega
      | (have im2 := of_decide_eq_true im; omega)
      | (rw [show (op * 67108864 + (d * 4194304 + (a * 262144 + (0 * 16384 + imm % 262144)))) % 262144 = imm % 262144 by omega, Int.emod_emod_of_dvd _ (Int.dvd_refl _)]; exact im)
      | (rw [show (op * 67108864 + (d * 4194304 + (0 * 262144 + (0 * 16384 + imm % 4194304)))) % 4194304 = imm % 4194304 by omega, Int.emod_emod_of_dvd _ (Int.dvd_refl _)]; exact im)

theorem encW_of {i : QI} (h : validR i = true) : encW i = wordR i := by unfold encW; rw [if_pos h]
theorem encE_of {i : QI} (h : validR i = true) : encE i = 0 := by unfold encE; rw [if_pos h]

theorem decOk_enc (i : QI) (hv : validR i = true) (h0 : 0 ≤ i.imm) (h1 : i.imm < 4294967296) : decOk (wordR i) = true := by
  unfold decOk
  rw [(dec_enc i hv h0 h1).1, encE_of hv, encW_of hv]
  simp

theorem decV_enc (i : QI) (hv : validR i = true) (h0 : 0 ≤ i.imm) (h1 : i.imm < 4294967296) : decV (wordR i) = i ∧ decE (wordR i) = 0 := by
  unfold decV decE
  rw [decOk_enc i hv h0 h1, if_pos rfl, if_pos rfl]
  exact ⟨(dec_enc i hv h0 h1).1, rfl⟩

theorem encW_bd (i : QI) (h0 : 0 ≤ i.imm) (h1 : i.imm < 4294967296) : 0 ≤ encW i ∧ encW i < 4294967296 := by
  unfold encW
  cases hv : validR i
  · simp
  · simp only [if_true]
    exact (dec_enc i hv h0 h1).2

/-- What Decode accepts is the word of a valid instruction. -/
theorem decOk_word (w : Int) (h : decOk w = true) : validR (decI w) = true ∧ encW (decI w) = w := by
  unfold decOk at h
  rw [Bool.and_eq_true, encE_zero, beq_iff_eq] at h
  exact h

theorem dec_op (w : Int) : (decI w).op = w / 67108864 := rfl

end Go.Proofs.Ytdoanneelnelbaa
