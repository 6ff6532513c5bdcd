/-
  What immediate computes. Conditions: the form is one of the listed ones.
-/
import Derived.Test.YtdoanneelnelbaaW2
namespace Go.Proofs.Ytdoanneelnelbaa
set_option linter.unusedSimpArgs false
set_option linter.unusedVariables false
open Go.RowKit

set_option maxHeartbeats 400000 in
theorem immediate_any (f : Form) (hf : (f.bits = 0 ∨ f.bits = 18 ∨ f.bits = 22) ∧ (f.sg = true → f.bits ≠ 0 ∧ f.most = 0) ∧ (f.most = 0 ∨ f.most = 3 ∨ f.most = 4) ∧ (f.most ≠ 0 → f.bits = 18)) (n : Int) (w : World) (hn : 0 ≤ n) (hn2 : n < 4294967296) :
    Calls Try.prog 36 #[.agg #[.bool f.is, .bool f.d, .bool f.a, .bool f.b, .int .i64 (if f.bits = 0 then 0 else if f.sg then 1 else 2), .int .i64 f.bits, .int .u32 f.most], .int .u32 n] w fun e w' => e = .returned (.bool (immR f n)) ∧ Below w.heap.size w w' := by
  obtain ⟨fis, fd, fa, fb, fsg, fbits, fmost⟩ := f
  obtain ⟨h1, h2, h3, h4⟩ := hf
  simp only at *
  by_cases hb : fbits = 0
  · subst hb
    go_enter Try.func36, Try.ntmps36
    go_wp2
    go_ret
    exact ⟨ret_bool (by simp [immR]), (Below.refl _ _).alloc (Nat.le_refl _) _⟩
  · have hb' : fbits = 18 ∨ fbits = 22 := by omega
    rw [if_neg hb]
    cases fsg
    · simp only [Bool.false_eq_true, if_false]
      by_cases hm : 0 < fmost
      · go_enter Try.func36, Try.ntmps36
        go_wp2
        go_ret
        exact ⟨ret_bool (by simp [immR, hb, hm]), (Below.refl _ _).alloc (Nat.le_refl _) _⟩
      · have hm0 : fmost = 0 := by omega
        subst hm0
        rcases hb' with rfl | rfl
        · go_enter Try.func36, Try.ntmps36
          go_wp2
          go_ret
          refine ⟨ret_bool ?_, (Below.refl _ _).alloc (Nat.le_refl _) _⟩
          show (n / 262144 == 0) = decide (n < 262144)
          rw [Bool.eq_iff_iff]; simp only [beq_iff_eq, decide_eq_true_eq]; omega
        · go_enter Try.func36, Try.ntmps36
          go_wp2
          go_ret
          refine ⟨ret_bool ?_, (Below.refl _ _).alloc (Nat.le_refl _) _⟩
          show (n / 4194304 == 0) = decide (n < 4194304)
          rw [Bool.eq_iff_iff]; simp only [beq_iff_eq, decide_eq_true_eq]; omega
    · simp only [if_true]
      go_enter Try.func36, Try.ntmps36
      go_wp2_with (go_at_call 45; refine (fitsw_any _ _ _ hb' hn hn2).mono ?_; rintro e w' ⟨rfl, rfl⟩)
      go_ret
      exact ⟨ret_bool (by simp [immR, hb]), (Below.refl _ _).alloc (Nat.le_refl _) _⟩

/-- What the walk needs of a form's numbers. -/
theorem fine18 {f : Form} (hf : f.Fine) (h : f.bits ≠ 0) : f.bits = 18 ∨ f.bits = 22 := by
  rcases hf.bits with h1 | h1 | h1
  · exact absurd h1 h
  · exact .inl h1
  · exact .inr h1

set_option maxHeartbeats 1000000 in
theorem validRef_any (i : QI) (w : World) (hn : 0 ≤ i.imm) (hn2 : i.imm < 4294967296) :
    Calls Try.prog 20 #[.agg #[.int .i64 i.op, .int .i64 i.d, .int .i64 i.a, .int .i64 i.b, .int .u32 i.imm]] w fun e w' => e = .returned (.bool (validR i)) ∧ Below w.heap.size w w' := by
  obtain ⟨op, d, a, b, imm⟩ := i
  simp only at *
  go_enter Try.func20, Try.ntmps20
  go_wp2_with fail
  refine (of_any _ _).mono ?_
  rintro e w1 ⟨rfl, hb1⟩
  obtain ⟨hc, hfz⟩ := bcell hb1
  have hz := grew hb1
  have hfine := formOf_fine op
  generalize hf : formOf op = f at *
  have Hf := Lib.hid hf
  clear hf
  by_cases h1 : f.is = true
  · go_wp2_with (first | (go_at_call 37; refine (register_any _ _ _).mono ?_; rintro e w' ⟨rfl, rfl⟩) | (go_at_call 38; refine (fits1_any _ _ _ (fine18 hfine (by simpa using ‹(f.bits == 0) = false›)) hn hn2).mono ?_; rintro e w' ⟨rfl, rfl⟩))
    all_goals
      go_ret
      refine ⟨ret_bool ?_, (by repeat' (first | with_reducible exact Below.refl _ _ | with_reducible refine below_alloc ?_ _ | with_reducible refine below_drew ?_ | with_reducible refine below_drewN ?_ _ | with_reducible refine below_set ?_ (by first | exact Nat.le_refl _ | (simp <;> omega)) _ | with_reducible refine below_call ?_ (by assumption)))⟩
      simp only [validR, validF, immR, Hf.out]
      first
      | (simp_all; done)
      | (rcases fine18 hfine (by simp_all) with hq | hq
         · have hm : ¬ 0 < f.most := by simp_all
           have hs : f.sg = false := by simp_all
           have hb0 : fitsR b f.b = true := by simp_all
           have hw : (2 : Int) ^ min (IntKind.u64.wrap 18).toNat 32 % 4294967296 = 262144 := by decide
           have hp : pw 18 = 262144 := rfl
           simp [*]
         · have hm : ¬ 0 < f.most := by simp_all
           have hs : f.sg = false := by simp_all
           have hb0 : fitsR b f.b = true := by simp_all
           have hw : (2 : Int) ^ min (IntKind.u64.wrap 22).toNat 32 % 4294967296 = 4194304 := by decide
           have hp : pw 22 = 4194304 := rfl
           simp [*])
  · go_wp2_with fail
    all_goals (first | (go_ret; exact ⟨ret_bool (by simp_all [validR, validF, immR, Hf.out]), (by repeat' (first | with_reducible exact Below.refl _ _ | with_reducible refine below_alloc ?_ _ | with_reducible refine below_drew ?_ | with_reducible refine below_drewN ?_ _ | with_reducible refine below_set ?_ (by first | exact Nat.le_refl _ | (simp <;> omega)) _ | with_reducible refine below_call ?_ (by assumption)))⟩) | fail)

end Go.Proofs.Ytdoanneelnelbaa
