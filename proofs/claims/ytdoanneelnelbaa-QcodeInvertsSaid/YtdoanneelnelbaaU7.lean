/-
  What the references of Target and Const compute. Condition: the immediate and the place are words.
-/
import Derived.Test.YtdoanneelnelbaaU6
namespace Go.Proofs.Ytdoanneelnelbaa
set_option linter.unusedSimpArgs false
set_option linter.unusedVariables false
open Go.RowKit

attribute [local go_sem] cell_set

set_option maxHeartbeats 1000000 in
theorem tgtRef_any (i : QI) (at_ : Int) (w : World) (hn : 0 ≤ i.imm) (hn2 : i.imm < 4294967296) (h0 : 0 ≤ at_) (h1 : at_ < 4294967296) :
    Calls Try.prog 28 #[.agg #[.int .i64 i.op, .int .i64 i.d, .int .i64 i.a, .int .i64 i.b, .int .u32 i.imm], .int .u32 at_] w fun e w' => e = .returned (.tuple #[.int .u32 (tgtW i at_), .bool (tgtB i)]) ∧ Below w.heap.size w w' := by
  have hV := validRef_any i
  have htb : tgtB i = (validR i && (i.op == 40 || branchR i.op)) := rfl
  have htw : tgtW i at_ = if tgtB i then (at_ + 4 * i.imm) % 4294967296 else 0 := rfl
  rw [htw, htb]
  clear htw htb
  generalize validR i = V at *
  obtain ⟨op, d, a, b, imm⟩ := i
  simp only at *
  have HV := Lib.hid hV
  clear hV
  generalize hq : (V && (op == 40 || branchR op)) = q
  have Hq := Lib.hid hq
  clear hq
  cases q
  all_goals
    (first | simp only [if_true] | simp only [Bool.false_eq_true, if_false])
    go_enter Try.func28, Try.ntmps28
    go_wp2_with fail
    refine (HV.out _ hn hn2).mono ?_
    rintro e w1 ⟨rfl, hb1⟩
    obtain ⟨hc, hfz⟩ := bcell hb1
    have hz := grew hb1
    go_wp2
    all_goals
      have hq := Hq.out
      unfold branchR at hq
      first
      | (exfalso; simp_all; done)
      | (exfalso; simp_all; omega)
      | (go_ret2; refine ⟨ret_tup2b ?_ rfl, (by repeat' (first | with_reducible exact Below.refl _ _ | with_reducible refine below_alloc ?_ _ | with_reducible refine below_drew ?_ | with_reducible refine below_drewN ?_ _ | with_reducible refine below_set ?_ (by first | exact Nat.le_refl _ | (simp <;> omega)) _ | with_reducible refine below_call ?_ (by assumption)))⟩; omega)
      | (go_ret2; exact ⟨rfl, (by repeat' (first | with_reducible exact Below.refl _ _ | with_reducible refine below_alloc ?_ _ | with_reducible refine below_drew ?_ | with_reducible refine below_drewN ?_ _ | with_reducible refine below_set ?_ (by first | exact Nat.le_refl _ | (simp <;> omega)) _ | with_reducible refine below_call ?_ (by assumption)))⟩)
      | fail

def unusedR (op : Int) : Int :=
  67108863 - (if (formOf op).d then 62914560 else 0) - (if (formOf op).a then 3932160 else 0) - (if (formOf op).b then 245760 else 0) - (pw (formOf op).bits - 1)

set_option maxHeartbeats 2000000 in
theorem unused_any (op : Int) (w : World) :
    Calls Try.prog 25 #[.int .i64 op] w fun e w' => e = .returned (.int .u32 (unusedR op)) ∧ Below w.heap.size w w' := by
  have hO := of_any op
  have hu : unusedR op = 67108863 - (if (formOf op).d then 62914560 else 0) - (if (formOf op).a then 3932160 else 0) - (if (formOf op).b then 245760 else 0) - (pw (formOf op).bits - 1) := rfl
  rw [hu]
  clear hu
  rcases formOf_cases op with h | h | h | h | h | h | h | h | h | h | h
  all_goals
    rw [h] at hO ⊢
    simp only [if_true, Bool.false_eq_true, if_false] at hO ⊢
    have HO := Lib.hid hO
    clear hO h
    go_enter Try.func25, Try.ntmps25
    go_wp2_with (go_at_call 26; (with_reducible refine (HO.out _).mono ?_); rintro e w1 ⟨rfl, hb1⟩)
    go_ret
    refine ⟨ret_int ?_, (by repeat' (first | with_reducible exact Below.refl _ _ | with_reducible refine below_alloc ?_ _ | with_reducible refine below_drew ?_ | with_reducible refine below_drewN ?_ _ | with_reducible refine below_set ?_ (by first | exact Nat.le_refl _ | (simp <;> omega)) _ | with_reducible refine below_call ?_ (by assumption)))⟩
    simp [pw0, pw18, pw22]

/-- Some instruction, the immediate a word. -/
def SomeQI (w : World) (e : Ending) (w' : World) : Prop :=
  ∃ j : QI, 0 ≤ j.imm ∧ j.imm < 4294967296 ∧ e = .returned (.agg #[.int .i64 j.op, .int .i64 j.d, .int .i64 j.a, .int .i64 j.b, .int .u32 j.imm]) ∧ Below w.heap.size w w'

set_option maxHeartbeats 1000000 in
theorem spoilt_any (i : QI) (k : Int) (w : World) (hn : 0 ≤ i.imm) (hn2 : i.imm < 4294967296) :
    Calls Try.prog 33 #[.agg #[.int .i64 i.op, .int .i64 i.d, .int .i64 i.a, .int .i64 i.b, .int .u32 i.imm], .int .i64 k] w (SomeQI w) := by
  obtain ⟨op, d, a, b, imm⟩ := i
  simp only at *
  go_enter Try.func33, Try.ntmps33
  go_wp2_with (go_at_call 22; (with_reducible refine (mod_any _ _ (by omega) (by omega) _).mono ?_); rintro e w' ⟨rfl, rfl⟩)
  all_goals
    first
    | (refine bodyPost_ret (v := .agg #[.int .i64 (wrap64 (op + (wrap64 (k.tdiv 5) % 40 - 20))), .int .i64 (d), .int .i64 (a), .int .i64 (b), .int .u32 (imm)]) ?_ rfl ⟨⟨wrap64 (op + (wrap64 (k.tdiv 5) % 40 - 20)), d, a, b, imm⟩, by simp only; omega, by simp only; omega, rfl, (by repeat' (first | with_reducible exact Below.refl _ _ | with_reducible refine below_alloc ?_ _ | with_reducible refine below_drew ?_ | with_reducible refine below_drewN ?_ _ | with_reducible refine below_set ?_ (by first | exact Nat.le_refl _ | (simp <;> omega)) _ | with_reducible refine below_call ?_ (by assumption)))⟩; simp [results, Try.results33, go_sem]; done)
    | (refine bodyPost_ret (v := .agg #[.int .i64 (op), .int .i64 (wrap64 (d + (wrap64 (k.tdiv 5) % 40 - 20))), .int .i64 (a), .int .i64 (b), .int .u32 (imm)]) ?_ rfl ⟨⟨op, wrap64 (d + (wrap64 (k.tdiv 5) % 40 - 20)), a, b, imm⟩, by simp only; omega, by simp only; omega, rfl, (by repeat' (first | with_reducible exact Below.refl _ _ | with_reducible refine below_alloc ?_ _ | with_reducible refine below_drew ?_ | with_reducible refine below_drewN ?_ _ | with_reducible refine below_set ?_ (by first | exact Nat.le_refl _ | (simp <;> omega)) _ | with_reducible refine below_call ?_ (by assumption)))⟩; simp [results, Try.results33, go_sem]; done)
    | (refine bodyPost_ret (v := .agg #[.int .i64 (op), .int .i64 (d), .int .i64 (wrap64 (a + (wrap64 (k.tdiv 5) % 40 - 20))), .int .i64 (b), .int .u32 (imm)]) ?_ rfl ⟨⟨op, d, wrap64 (a + (wrap64 (k.tdiv 5) % 40 - 20)), b, imm⟩, by simp only; omega, by simp only; omega, rfl, (by repeat' (first | with_reducible exact Below.refl _ _ | with_reducible refine below_alloc ?_ _ | with_reducible refine below_drew ?_ | with_reducible refine below_drewN ?_ _ | with_reducible refine below_set ?_ (by first | exact Nat.le_refl _ | (simp <;> omega)) _ | with_reducible refine below_call ?_ (by assumption)))⟩; simp [results, Try.results33, go_sem]; done)
    | (refine bodyPost_ret (v := .agg #[.int .i64 (op), .int .i64 (d), .int .i64 (a), .int .i64 (wrap64 (b + (wrap64 (k.tdiv 5) % 40 - 20))), .int .u32 (imm)]) ?_ rfl ⟨⟨op, d, a, wrap64 (b + (wrap64 (k.tdiv 5) % 40 - 20)), imm⟩, by simp only; omega, by simp only; omega, rfl, (by repeat' (first | with_reducible exact Below.refl _ _ | with_reducible refine below_alloc ?_ _ | with_reducible refine below_drew ?_ | with_reducible refine below_drewN ?_ _ | with_reducible refine below_set ?_ (by first | exact Nat.le_refl _ | (simp <;> omega)) _ | with_reducible refine below_call ?_ (by assumption)))⟩; simp [results, Try.results33, go_sem]; done)
    | (refine bodyPost_ret (v := .agg #[.int .i64 (op), .int .i64 (d), .int .i64 (a), .int .i64 (b), .int .u32 (imm)]) ?_ rfl ⟨⟨op, d, a, b, imm⟩, by simp only; omega, by simp only; omega, rfl, (by repeat' (first | with_reducible exact Below.refl _ _ | with_reducible refine below_alloc ?_ _ | with_reducible refine below_drew ?_ | with_reducible refine below_drewN ?_ _ | with_reducible refine below_set ?_ (by first | exact Nat.le_refl _ | (simp <;> omega)) _ | with_reducible refine below_call ?_ (by assumption)))⟩; simp [results, Try.results33, go_sem]; done)
    | (refine bodyPost_ret (v := .agg #[.int .i64 (op), .int .i64 (d), .int .i64 (a), .int .i64 (b), .int .u32 ((imm + (wrap64 (k.tdiv 5) % 40 - 20) % 4294967296 * 131072) % 4294967296)]) ?_ rfl ⟨⟨op, d, a, b, (imm + (wrap64 (k.tdiv 5) % 40 - 20) % 4294967296 * 131072) % 4294967296⟩, by simp only; omega, by simp only; omega, rfl, (by repeat' (first | with_reducible exact Below.refl _ _ | with_reducible refine below_alloc ?_ _ | with_reducible refine below_drew ?_ | with_reducible refine below_drewN ?_ _ | with_reducible refine below_set ?_ (by first | exact Nat.le_refl _ | (simp <;> omega)) _ | with_reducible refine below_call ?_ (by assumption)))⟩; simp [results, Try.results33, go_sem]; done)
    | fail

end Go.Proofs.Ytdoanneelnelbaa
