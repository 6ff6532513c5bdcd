/-
  What Target and Const compute. Condition: the immediate and the place are words.
-/
import Derived.Test.YtdoanneelnelbaaU3
import Derived.Test.YtdoanneelnelbaaX0
namespace Go.Proofs.Ytdoanneelnelbaa
set_option linter.unusedSimpArgs false
set_option linter.unusedVariables false
open Go.RowKit

attribute [local go_sem] cell_set

theorem ret_tup2b {k : IntKind} {a b : Int} {c d : Bool} (h : a = b) (h2 : c = d) : Ending.returned (.tuple #[.int k a, .bool c]) = .returned (.tuple #[.int k b, .bool d]) := by rw [h, h2]

def branchR (op : Int) : Bool := decide (32 ≤ op) && decide (op ≤ 37)
def endsR (op : Int) : Bool := op == 27 || op == 40 || op == 48 || op == 49 || op == 50 || op == 51 || branchR op

set_option maxHeartbeats 400000 in
theorem branch_any (op : Int) (w : World) :
    Calls Try.prog 43 #[.int .i64 op] w fun e w' => e = .returned (.bool (branchR op)) ∧ w = w' := by
  go_enter Try.func43, Try.ntmps43
  go_wp2
  all_goals
    go_ret
    exact ⟨ret_bool (by simp [branchR, *] <;> omega), rfl⟩

set_option maxHeartbeats 1000000 in
theorem ends_any (op d a b imm : Int) (w : World) :
    Calls Try.prog 31 #[.agg #[.int .i64 op, .int .i64 d, .int .i64 a, .int .i64 b, .int .u32 imm]] w fun e w' => e = .returned (.bool (endsR op)) ∧ Below w.heap.size w w' := by
  go_enter Try.func31, Try.ntmps31
  go_wp2_with (go_at_call 43; (with_reducible refine (branch_any _ _).mono ?_); rintro e w' ⟨rfl, rfl⟩)
  all_goals
    go_ret
    exact ⟨ret_bool (by simp_all [endsR]), (by repeat' (first | with_reducible exact Below.refl _ _ | with_reducible refine below_alloc ?_ _ | with_reducible refine below_drew ?_ | with_reducible refine below_drewN ?_ _ | with_reducible refine below_set ?_ (by first | exact Nat.le_refl _ | (simp <;> omega)) _ | with_reducible refine below_call ?_ (by assumption)))⟩

set_option maxHeartbeats 1000000 in
theorem endsRef_any (op d a b imm : Int) (w : World) :
    Calls Try.prog 32 #[.agg #[.int .i64 op, .int .i64 d, .int .i64 a, .int .i64 b, .int .u32 imm]] w fun e w' => e = .returned (.bool (endsR op)) ∧ Below w.heap.size w w' := by
  go_enter Try.func32, Try.ntmps32
  go_wp2
  all_goals
    go_ret
    refine ⟨ret_bool ?_, (by repeat' (first | with_reducible exact Below.refl _ _ | with_reducible refine below_alloc ?_ _ | with_reducible refine below_drew ?_ | with_reducible refine below_drewN ?_ _ | with_reducible refine below_set ?_ (by first | exact Nat.le_refl _ | (simp <;> omega)) _ | with_reducible refine below_call ?_ (by assumption)))⟩
    simp only [endsR, branchR]
    first
    | (simp_all; done)
    | (rw [eq_comm, Bool.eq_iff_iff]; simp_all; omega)

def constV (d n : Int) : Array Value := #[.int .i64 41, .int .i64 d, .int .i64 0, .int .i64 0, .int .u32 (n / 1024), .int .i64 18, .int .i64 d, .int .i64 d, .int .i64 0, .int .u32 (n % 1024)]

theorem and10 (n : Int) (h0 : 0 ≤ n) (h1 : n < 4294967296) : bits .and .u32 n 1023 = n % 1024 := by
  obtain ⟨a, rfl⟩ := Int.eq_ofNat_of_zero_le h0
  rw [u32_and _ _ h0 h1 (by omega) (by omega)]
  simp only [Int.toNat_natCast, show (1023 : Int).toNat = 1023 from rfl]
  rw [nat_mask10]; omega

set_option maxHeartbeats 400000 in
theorem const_any (d n : Int) (w : World) (h0 : 0 ≤ n) (h1 : n < 4294967296) :
    Calls Try.prog 29 #[.int .i64 d, .int .u32 n] w fun e w' => e = .returned (.agg (constV d n)) ∧ Below w.heap.size w w' := by
  go_enter Try.func29, Try.ntmps29
  go_wp2
  refine bodyPost_ret ?_ rfl ⟨rfl, (by repeat' (first | with_reducible exact Below.refl _ _ | with_reducible refine below_alloc ?_ _ | with_reducible refine below_drew ?_ | with_reducible refine below_drewN ?_ _ | with_reducible refine below_set ?_ (by first | exact Nat.le_refl _ | (simp <;> omega)) _ | with_reducible refine below_call ?_ (by assumption)))⟩
  simp [results, Try.results29, go_sem, constV, and10 n h0 h1]

set_option maxHeartbeats 400000 in
theorem constRef_any (d n : Int) (w : World) (h0 : 0 ≤ n) (h1 : n < 4294967296) :
    Calls Try.prog 30 #[.int .i64 d, .int .u32 n] w fun e w' => e = .returned (.agg (constV d n)) ∧ Below w.heap.size w w' := by
  go_enter Try.func30, Try.ntmps30
  go_wp2
  refine bodyPost_ret ?_ rfl ⟨rfl, (by repeat' (first | with_reducible exact Below.refl _ _ | with_reducible refine below_alloc ?_ _ | with_reducible refine below_drew ?_ | with_reducible refine below_drewN ?_ _ | with_reducible refine below_set ?_ (by first | exact Nat.le_refl _ | (simp <;> omega)) _ | with_reducible refine below_call ?_ (by assumption)))⟩
  simp [results, Try.results30, go_sem, constV]

def tgtB (i : QI) : Bool := validR i && (i.op == 40 || branchR i.op)
def tgtW (i : QI) (at_ : Int) : Int := if tgtB i then (at_ + 4 * i.imm) % 4294967296 else 0

set_option maxHeartbeats 1000000 in
theorem tgt_any (i : QI) (at_ : Int) (w : World) (hn : 0 ≤ i.imm) (hn2 : i.imm < 4294967296) (h0 : 0 ≤ at_) (h1 : at_ < 4294967296) :
    Calls Try.prog 27 #[.agg #[.int .i64 i.op, .int .i64 i.d, .int .i64 i.a, .int .i64 i.b, .int .u32 i.imm], .int .u32 at_] w fun e w' => e = .returned (.tuple #[.int .u32 (tgtW i at_), .bool (tgtB i)]) ∧ Below w.heap.size w w' := by
  have hV := valid_any i
  have htb : tgtB i = (validR i && (i.op == 40 || branchR i.op)) := rfl
  have htw : tgtW i at_ = if tgtB i then (at_ + 4 * i.imm) % 4294967296 else 0 := rfl
  rw [htw, htb]
  clear htw htb
  generalize validR i = V at *
  obtain ⟨op, d, a, b, imm⟩ := i
  simp only at *
  have HV := Lib.hid hV
  clear hV
  cases V
  · simp only [Bool.false_and, Bool.false_eq_true, if_false]
    go_enter Try.func27, Try.ntmps27
    go_wp2_with fail
    refine (HV.out _ hn hn2).mono ?_
    rintro e w1 ⟨rfl, hb1⟩
    obtain ⟨hc, hfz⟩ := bcell hb1
    have hz := grew hb1
    go_wp2
    go_ret2
    exact ⟨rfl, (by repeat' (first | with_reducible exact Below.refl _ _ | with_reducible refine below_alloc ?_ _ | with_reducible refine below_drew ?_ | with_reducible refine below_drewN ?_ _ | with_reducible refine below_set ?_ (by first | exact Nat.le_refl _ | (simp <;> omega)) _ | with_reducible refine below_call ?_ (by assumption)))⟩
  · simp only [Bool.true_and]
    by_cases h40 : op = 40
    · subst h40
      simp only [beq_self_eq_true, Bool.true_or, if_true]
      go_enter Try.func27, Try.ntmps27
      go_wp2_with fail
      refine (HV.out _ hn hn2).mono ?_
      rintro e w1 ⟨rfl, hb1⟩
      obtain ⟨hc, hfz⟩ := bcell hb1
      have hz := grew hb1
      go_wp2
      go_ret2
      refine ⟨ret_tup2b ?_ rfl, (by repeat' (first | with_reducible exact Below.refl _ _ | with_reducible refine below_alloc ?_ _ | with_reducible refine below_drew ?_ | with_reducible refine below_drewN ?_ _ | with_reducible refine below_set ?_ (by first | exact Nat.le_refl _ | (simp <;> omega)) _ | with_reducible refine below_call ?_ (by assumption)))⟩
      omega
    · have h40' : (op == 40) = false := by simpa using h40
      cases hbr : branchR op
      · have HB := branch_any op
        rw [hbr] at HB
        rw [h40']
        simp only [Bool.or_false, Bool.false_eq_true, if_false]
        have HB := Lib.hid HB
        clear hbr
        go_enter Try.func27, Try.ntmps27
        go_wp2_with fail
        refine (HV.out _ hn hn2).mono ?_
        rintro e w1 ⟨rfl, hb1⟩
        obtain ⟨hc, hfz⟩ := bcell hb1
        have hz := grew hb1
        go_wp2_with (go_at_call 43; (with_reducible refine (HB.out _).mono ?_); rintro e w' ⟨rfl, rfl⟩)
        go_ret2
        exact ⟨rfl, (by repeat' (first | with_reducible exact Below.refl _ _ | with_reducible refine below_alloc ?_ _ | with_reducible refine below_drew ?_ | with_reducible refine below_drewN ?_ _ | with_reducible refine below_set ?_ (by first | exact Nat.le_refl _ | (simp <;> omega)) _ | with_reducible refine below_call ?_ (by assumption)))⟩
      · have HB := branch_any op
        rw [hbr] at HB
        simp only [Bool.or_true, if_true]
        have HB := Lib.hid HB
        clear hbr
        go_enter Try.func27, Try.ntmps27
        go_wp2_with fail
        refine (HV.out _ hn hn2).mono ?_
        rintro e w1 ⟨rfl, hb1⟩
        obtain ⟨hc, hfz⟩ := bcell hb1
        have hz := grew hb1
        go_wp2_with (go_at_call 43; (with_reducible refine (HB.out _).mono ?_); rintro e w' ⟨rfl, rfl⟩)
        go_ret2
        refine ⟨ret_tup2b ?_ rfl, (by repeat' (first | with_reducible exact Below.refl _ _ | with_reducible refine below_alloc ?_ _ | with_reducible refine below_drew ?_ | with_reducible refine below_drewN ?_ _ | with_reducible refine below_set ?_ (by first | exact Nat.le_refl _ | (simp <;> omega)) _ | with_reducible refine below_call ?_ (by assumption)))⟩
        omega

end Go.Proofs.Ytdoanneelnelbaa
