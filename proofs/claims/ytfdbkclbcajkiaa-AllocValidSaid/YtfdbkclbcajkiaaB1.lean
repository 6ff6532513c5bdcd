/-
  Counting a variable in place. Condition: no number of uses is beyond a million.
-/
import Derived.Test.YtfdbkclbcajkiaaF
import Derived.Test.YtfdbkclbcajkiaaKA
namespace Go.Proofs.Ytfdbkclbcajkiaa
set_option linter.unusedSimpArgs false
set_option linter.unusedVariables false
open Go.RowKit

def isV (v : Int) : Bool := decide (0 ≤ v) && decide (v < 28) && !decide (v = 19)
def vi (u : Nat → Int) : Nat → Value := fun i => .int .i64 (u i)
def bump (v : Int) (u : Nat → Int) : Nat → Int := fun j => if isV v = true ∧ j = v.toNat then u j + 1 else u j
theorem bump_vi {v : Int} {u : Nat → Int} {n : Nat} (h : isV v = true) (hn : v = n) : fset (vi u) n (.int .i64 (u n + 1)) = vi (bump v u) := by
  funext j
  subst hn
  simp only [fset, vi, bump, h]
  by_cases e : j = n
  · subst e; simp
  · simp [e]
theorem bump_no {v : Int} {u : Nat → Int} (h : isV v = false) : bump v u = u := by
  funext j
  simp [bump, h]

set_option maxRecDepth 100000 in
theorem count_spec (v : Int) (B : Nat) (u : Nat → Int) (hu : ∀ i, 0 ≤ u i ∧ u i ≤ 1000000) :
    Spec Try.prog 27 [.int .i64 v, .pointer (some ⟨B, 0, none⟩)] [arr B 30 28 (vi u)] [] (X := Unit) (fun _ => True) (fun _ => .tuple #[]) (fun _ => [arr B 30 28 (vi (bump v u))]) (fun _ => []) := by
  refine r_enter Try.func27 rfl Try.ntmps27 rfl fun w0 M H => ?_
  refine r_seq ?_
  refine r_region ?_
  refine r_p (p_move rfl) rfl ?_
  refine r_p (p_bin rfl rfl b_ge) rfl ?_
  refine r_p (p_move rfl) rfl ?_
  refine r_gp [] rfl rfl trivial (fun hg1 => p_move rfl) rfl ?_
  refine r_gp [(6, _)] rfl rfl ⟨rfl, trivial⟩ (fun hg2 => p_bin rfl rfl b_lt) rfl ?_
  refine r_p (p_pick rfl rfl rfl (by first | exact pick_and | exact pick_or |  rfl)) rfl ?_
  refine r_p (p_move rfl) rfl ?_
  refine r_gp [] rfl rfl trivial (fun hg3 => p_move rfl) rfl ?_
  refine r_gp [(10, _)] rfl rfl ⟨rfl, trivial⟩ (fun hg4 => p_bin rfl rfl b_ne) rfl ?_
  refine r_p (p_pick rfl rfl rfl (by first | exact pick_and | exact pick_or |  rfl)) rfl ?_
  refine r_nil ?_
  refine r_cond rfl (fun h5 => ?_) (fun h5 => ?_)
  · (try simp only [decide_eq_true_eq, decide_eq_false_iff_not, Bool.and_eq_true, Bool.or_eq_true, Bool.and_eq_false_iff, Bool.or_eq_false_iff, Bool.not_eq_true, Bool.not_eq_false, Bool.not_eq_true', Bool.not_eq_false', Bool.not_not, bne_iff_ne, beq_iff_eq] at h5)
    obtain ⟨n, rfl⟩ := Int.eq_ofNat_of_zero_le h5.1.1
    have hn : n < 28 := by omega
    have hun := hu n
    refine r_region ?_
    refine r_p (p_move rfl) rfl ?_
    refine r_p (p_idx_arr1 Try.underlying30 t3 rfl rfl (by first | rfl | omega) (by first | omega | (simp; done) | (simp; omega))) rfl ?_
    refine r_p (p_load1 t3 rfl rfl (g_arr1 (k := 0) rfl (by omega))) rfl ?_
    refine r_p (p_bin rfl rfl (b_add (by first | exact w_i64 (by omega) (by omega) | rfl))) rfl ?_
    refine r_p (p_idx_arr1 Try.underlying30 t3 rfl rfl (by first | rfl | omega) (by first | omega | (simp; done) | (simp; omega))) rfl ?_
    refine r_store_arr (k := 0) t3 rfl rfl rfl rfl rfl (by omega) ?_
    refine r_nil ?_
    first
      | (refine r_end () trivial rfl rs0 rfl [0] [] rfl (by rw [← bump_vi (n := n) (by simp [isV]; omega) rfl]; rfl) rfl)
      | (refine r_end () trivial rfl rs0 rfl [0] [] rfl (by rw [bump_no (by simp [isV] at *; omega)]; rfl) rfl)
  · (try simp only [decide_eq_true_eq, decide_eq_false_iff_not, Bool.and_eq_true, Bool.or_eq_true, Bool.and_eq_false_iff, Bool.or_eq_false_iff, Bool.not_eq_true, Bool.not_eq_false, Bool.not_eq_true', Bool.not_eq_false', Bool.not_not, bne_iff_ne, beq_iff_eq] at h5)
    refine r_skip ?_
    first
      | (refine r_end () trivial rfl rs0 rfl [0] [] rfl (by rw [← bump_vi (n := n) (by simp [isV]; omega) rfl]; rfl) rfl)
      | (refine r_end () trivial rfl rs0 rfl [0] [] rfl (by rw [bump_no (by simp [isV] at *; omega)]; rfl) rfl)

end Go.Proofs.Ytfdbkclbcajkiaa
