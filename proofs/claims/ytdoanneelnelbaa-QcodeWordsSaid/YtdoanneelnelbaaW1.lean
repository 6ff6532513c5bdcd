/-
  What register, the fitting of a register and the signs compute. No condition.
-/
import Derived.Test.YtdoanneelnelbaaProg
import Derived.Test.YtdoanneelnelbaaP
import Derived.Test.YtdoanneelnelbaaW0
namespace Go.Proofs.Ytdoanneelnelbaa
set_option linter.unusedSimpArgs false
set_option linter.unusedVariables false
open Go.RowKit

set_option maxHeartbeats 400000 in
theorem register_any (n : Int) (u : Bool) (w : World) :
    Calls Try.prog 37 #[.int .i64 n, .bool u] w fun e w' => e = .returned (.bool (fitsR n u)) ∧ w = w' := by
  go_enter Try.func37, Try.ntmps37
  go_wp2
  all_goals (go_ret; exact ⟨ret_bool (by simp [fitsR, *] <;> omega), rfl⟩)

set_option maxHeartbeats 400000 in
theorem fits_any (n : Int) (u : Bool) (w : World) :
    Calls Try.prog 35 #[.int .i64 n, .bool u] w fun e w' => e = .returned (.bool (fitsR n u)) ∧ w = w' := by
  go_enter Try.func35, Try.ntmps35
  go_wp2
  all_goals (go_ret; exact ⟨ret_bool (by simp [fitsR, *] <;> omega), rfl⟩)

theorem tmod_mod (n m : Int) (hm : 1 ≤ m) : (n.tmod m + m) % m = n % m := by
  rw [Int.add_emod_right, Int.tmod_eq_emod]
  split
  · simp
  · have : (m.natAbs : Int) = m := by omega
    rw [this]; simp

set_option maxHeartbeats 400000 in
theorem mod_any (n m : Int) (hm : 1 ≤ m) (hm2 : m ≤ 1073741824) (w : World) :
    Calls Try.prog 22 #[.int .i64 n, .int .i64 m] w fun e w' => e = .returned (.int .i64 (n % m)) ∧ w = w' := by
  have h1 : n.tmod m < m := Int.tmod_lt_of_pos n (by omega)
  have h2 : -m < n.tmod m := by
    have := Int.lt_tmod_of_pos n (show (0:Int) < m by omega); omega
  go_enter Try.func22, Try.ntmps22
  go_wp2
  all_goals (go_ret)
  exact ⟨ret_int (tmod_mod n m hm), rfl⟩

theorem pw18 : pw 18 = 262144 := rfl
theorem pw22 : pw 22 = 4194304 := rfl

set_option maxHeartbeats 400000 in
theorem sign1_any (n bits : Int) (w : World) (h : bits = 18 ∨ bits = 22) (hn : 0 ≤ n) (hn2 : n < 4294967296) :
    Calls Try.prog 40 #[.int .u32 n, .int .i64 bits] w fun e w' => e = .returned (.int .u32 (sgn n bits)) ∧ w = w' := by
  rcases h with rfl | rfl
  all_goals go_enter Try.func40, Try.ntmps40
  all_goals go_wp2
  all_goals (go_ret; refine ⟨ret_int ?_, rfl⟩; simp only [sgn, pw18, pw22]; omega)

set_option maxHeartbeats 400000 in
theorem signw_any (n bits : Int) (w : World) (h : bits = 18 ∨ bits = 22) (_hn : 0 ≤ n) (_hn2 : n < 4294967296) :
    Calls Try.prog 42 #[.int .u32 n, .int .i64 bits] w fun e w' => e = .returned (.int .u32 (sgn n bits)) ∧ w = w' := by
  rcases h with rfl | rfl
  all_goals go_enter Try.func42, Try.ntmps42
  all_goals go_wp2
  all_goals (go_ret; refine ⟨ret_int ?_, rfl⟩; simp only [sgn, pw18, pw22]; unfold wrap32; omega)

set_option maxHeartbeats 400000 in
theorem fits1_any (n bits : Int) (w : World) (h : bits = 18 ∨ bits = 22) (hn : 0 ≤ n) (hn2 : n < 4294967296) :
    Calls Try.prog 38 #[.int .u32 n, .int .i64 bits] w fun e w' => e = .returned (.bool (sgn n bits == n)) ∧ w = w' := by
  go_enter Try.func38, Try.ntmps38
  go_wp2_with (go_at_call 40; refine (sign1_any _ _ _ h hn hn2).mono ?_; rintro e w' ⟨rfl, rfl⟩)
  go_ret
  exact ⟨rfl, rfl⟩

set_option maxHeartbeats 400000 in
theorem fitsw_any (n bits : Int) (w : World) (h : bits = 18 ∨ bits = 22) (hn : 0 ≤ n) (hn2 : n < 4294967296) :
    Calls Try.prog 45 #[.int .u32 n, .int .i64 bits] w fun e w' => e = .returned (.bool (sgn n bits == n)) ∧ w = w' := by
  go_enter Try.func45, Try.ntmps45
  go_wp2_with (go_at_call 42; refine (signw_any _ _ _ h hn hn2).mono ?_; rintro e w' ⟨rfl, rfl⟩)
  go_ret
  exact ⟨rfl, rfl⟩

end Go.Proofs.Ytdoanneelnelbaa
