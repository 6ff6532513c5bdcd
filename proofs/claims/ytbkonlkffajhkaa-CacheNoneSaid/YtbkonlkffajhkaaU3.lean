/-
  Sorting few integers. Condition: at most 12.
-/
import Derived.Test.YtbkonlkffajhkaaU2
namespace Go.Proofs.Ytbkonlkffajhkaa
set_option linter.unusedSimpArgs false
set_option linter.unusedVariables false
open Go.RowKit

theorem le_wk : Wk (fun x y : Int => x ≤ y) := ⟨fun x => Int.le_refl x, fun _ _ _ h h2 => Int.le_trans h h2⟩
theorem ins_sorted (xs : List Int) : Srt 0 (fun x y : Int => x ≤ y) (insSort 0 ltI xs 0 xs.length) 0 xs.length :=
  (insSort_srt 0 ltI (fun x y : Int => x ≤ y) le_wk (Nat.le_refl _) fun p q _ _ _ => ⟨fun h => Int.le_of_lt (of_decide_eq_true h), fun h => Int.not_lt.1 (of_decide_eq_false h)⟩).1
/-- What sorting gives. -/
def SortOk (v : SV) (xs : List Int) : Prop := Spec Try.prog 56 [sv v] [own 30 1 eU (sv v) xs] [] (X := List Int) (fun ys => ys.Perm xs ∧ Srt 0 (fun x y : Int => x ≤ y) ys 0 ys.length) (fun _ => .tuple #[]) (fun ys => [own 30 1 eU (sv v) ys]) (fun _ => [])

set_option maxRecDepth 100000 in
theorem pdqs_spec (v : SV) (xs : List Int) (limit : Int) (hl : xs.length ≤ 12) :
    Spec Try.prog 71 [sv v, .int .i64 0, .int .i64 (xs.length : Int), .int .i64 limit] [own 30 1 eU (sv v) xs] [] (X := Unit) (fun _ => True) (fun _ => .tuple #[]) (fun _ => [own 30 1 eU (sv v) (insSort 0 ltI xs 0 xs.length)]) (fun _ => []) := by
  refine r_enter Try.func71 rfl Try.ntmps71 rfl fun w0 M H => ?_
  refine r_seq ?_
  refine r_region ?_
  refine r_p (p_assign rfl) rfl ?_
  refine r_nil ?_
  refine r_seq ?_
  refine r_region ?_
  refine r_p (p_assign rfl) rfl ?_
  refine r_nil ?_
  refine r_block ?_
  refine r_loop (X := Unit) (fun _ => True) (fun _ => [(0, sv v), (1, .int .i64 0), (2, .int .i64 (xs.length : Int)), (3, .int .i64 limit)]) (fun _ => [(0, own 30 1 eU (sv v) xs)]) (fun _ => []) (fun _ => 0) () trivial rfl rfl rfl (fun _ _ => ?_)
  refine r_block ?_
  refine r_seq ?_
  refine r_region ?_
  refine r_p (p_move rfl) rfl ?_
  refine r_p (p_move rfl) rfl ?_
  refine r_p (p_bin rfl rfl (b_sub (by first | exact w_i64 (by omega) (by omega) | rfl))) rfl ?_
  refine r_p (p_assign rfl) rfl ?_
  refine r_nil ?_
  refine r_seq ?_
  refine r_seq ?_
  refine r_region ?_
  refine r_p (p_move rfl) rfl ?_
  refine r_p (p_bin rfl rfl b_le) rfl ?_
  refine r_nil ?_
  refine r_cond rfl (fun h1 => ?_) (fun h1 => ?_)
  · (try simp only [decide_eq_true_eq, decide_eq_false_iff_not, Bool.and_eq_true, Bool.or_eq_true, Bool.and_eq_false_iff, Bool.or_eq_false_iff, Bool.not_eq_true, Bool.not_eq_false, Bool.not_eq_true', Bool.not_eq_false', Bool.not_not, bne_iff_ne, beq_iff_eq] at h1)
    refine r_seq ?_
    refine r_region ?_
    refine r_p (p_move rfl) rfl ?_
    refine r_p (p_move rfl) rfl ?_
    refine r_p (p_move rfl) rfl ?_
    refine r_call (xs := [.tmp 24, .tmp 25, .tmp 26]) (insO_spec v xs 0 xs.length (Nat.zero_le _) (Nat.le_refl _) (by omega)) cb81 [0] [] [0] [] rfl rfl rfl rfl rfl rfl rfl rfl (fun _ _ => rfl) (fun _ _ _ => rfl) rfl (fun _ _ => ?_)
    refine r_nil ?_
    refine r_cret ?_
    refine r_ret () trivial rfl rs0 rfl [0] [] rfl rfl rfl
  · exfalso; simp at h1; omega
set_option maxRecDepth 100000 in
theorem sort_small (v : SV) (xs : List Int) (hl : xs.length ≤ 12) : SortOk v xs := by
  refine r_enter Try.func56 rfl Try.ntmps56 rfl fun w0 M H => ?_
  refine r_seq ?_
  refine r_region ?_
  refine r_p (p_move rfl) rfl ?_
  refine r_p (p_len_sl Try.underlying44 rfl (hs_own (k := 0) rfl)) rfl ?_
  refine r_p (p_assign rfl) rfl ?_
  refine r_nil ?_
  refine r_region ?_
  refine r_p (p_move rfl) rfl ?_
  refine r_p (p_move rfl) rfl ?_
  refine r_p (p_move rfl) rfl ?_
  refine r_p (p_conv Try.underlying3 Try.underlying91 rfl (by first | exact w_u64 (by omega) (by omega) | rfl)) rfl ?_
  refine r_call (xs := [.tmp 8]) (blen_spec xs.length (by omega)) cb72 [] [] [] [] rfl rfl rfl rfl rfl rfl rfl rfl (fun _ _ => rfl) (fun _ _ _ => rfl) rfl (fun x9 hx9 => ?_)
  refine r_call (xs := [.tmp 5, .const (.int .i64 0), .tmp 6, .tmp 9]) (pdqs_spec v xs x9 hl) cb71 [0] [] [0] [] rfl rfl rfl rfl rfl rfl rfl rfl (fun _ _ => rfl) (fun _ _ _ => rfl) rfl (fun _ _ => ?_)
  refine r_nil ?_
  refine r_end (insSort 0 ltI xs 0 xs.length) ⟨insSort_perm 0 ltI (Nat.le_refl _), by rw [insSort_len]; exact ins_sorted xs⟩ rfl rs0 rfl [0] [] rfl rfl rfl

end Go.Proofs.Ytbkonlkffajhkaa
