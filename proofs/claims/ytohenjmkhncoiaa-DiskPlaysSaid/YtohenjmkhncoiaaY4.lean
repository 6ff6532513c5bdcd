/-
  The disk: writing. No condition.
-/
import Derived.Test.YtohenjmkhncoiaaY3
namespace Go.Proofs.Ytohenjmkhncoiaa
set_option linter.unusedSimpArgs false
set_option linter.unusedVariables false
open Go.RowKit

def putS (fr : List (Int × ByteArray)) (n : Int) (s : ByteArray) : List (Int × ByteArray) := (n, s) :: fr.filter fun p => decide (p.1 ≠ n)
/-- Arguments that no disk accepts. -/
def wrB (len n : Int) (s : ByteArray) : Prop := n < 0 ∨ len ≤ n ∨ s.size ≠ 64
instance (len n : Int) (s : ByteArray) : Decidable (wrB len n s) := by unfold wrB; infer_instance
/-- What writing gives. -/
structure Dk where
  e : Int
  off : Bool
  left : Int
  fr : List (Int × ByteArray)
def wrF (off armed : Bool) (left len : Int) (fr : List (Int × ByteArray)) (n : Int) (s : ByteArray) : Dk :=
  if off = true then ⟨50, off, left, fr⟩ else if wrB len n s then ⟨1, off, left, fr⟩ else
    if pwO off armed left = true then ⟨50, pwO off armed left, IntKind.i64.wrap (left - 1), fr⟩ else ⟨0, pwO off armed left, IntKind.i64.wrap (left - 1), putS fr n s⟩

set_option maxRecDepth 100000 in
theorem write_spec (D : Nat) (v : SV) (m : Nat) (off armed : Bool) (left : Int) (dur : List ByteArray) (fr : List (Int × ByteArray)) (n : Int) (s : ByteArray) :
    Spec Try.prog 19 [.pointer (some ⟨D, 0, none⟩), .int .i64 n, .string s] [row D 94 (dC v (some m) off armed left), mp mkI Prod.fst vS (some m) fr] [own 9 1 eS (sv v) dur] (X := Unit) (fun _ => True) (fun _ => .int .i64 (wrF off armed left dur.length fr n s).e) (fun _ => [row D 94 (dC v (some m) (wrF off armed left dur.length fr n s).off armed (wrF off armed left dur.length fr n s).left), mp mkI Prod.fst vS (some m) (wrF off armed left dur.length fr n s).fr]) (fun _ => []) := by
  refine r_enter Try.func19 rfl Try.ntmps19 rfl fun w0 M H => ?_
  refine r_more 0 0 rfl (fun w G h _ => ⟨G, own_to_sl w G h, fun _ hb => hb⟩) ?_
  refine r_seq ?_
  refine r_region ?_
  refine r_p (p_assign rfl) rfl ?_
  refine r_nil ?_
  refine r_seq ?_
  refine r_block ?_
  refine r_seq ?_
  refine r_region ?_
  refine r_p (p_move rfl) rfl ?_
  refine r_p (p_bin rfl rfl (b_eqPn Try.underlying24)) rfl ?_
  refine r_p (p_move rfl) rfl ?_
  refine r_gp [] rfl rfl trivial (fun hg1 => p_move rfl) rfl ?_
  refine r_gp [(11, _)] rfl rfl ⟨rfl, trivial⟩ (fun hg2 => p_nilCheck rfl) rfl ?_
  refine r_gp [(11, _), (12, _)] rfl rfl ⟨rfl, rfl, trivial⟩ (fun hg3 => p_field0 fo94_2 rfl) rfl ?_
  refine r_gp [(11, _), (12, _), (13, _)] rfl rfl ⟨rfl, rfl, rfl, trivial⟩ (fun hg4 => p_load1 t4 rfl rfl (g_row1 (k := 0) rfl rfl)) rfl ?_
  refine r_p (p_pick rfl rfl rfl (by first | exact pick_and | exact pick_or |  rfl)) rfl ?_
  refine r_p (p_assign rfl) rfl ?_
  refine r_nil ?_
  refine r_cond rfl (fun h5 => ?_) (fun h5 => ?_)
  · have hq : off = true := by simpa using h5
    refine r_seq ?_
    refine r_region ?_
    refine r_p (p_assign rfl) rfl ?_
    refine r_nil ?_
    refine r_cret ?_
    refine r_ret () trivial rfl (rs1 (rv_tmp rfl)) (by unfold wrF; rw [if_pos hq] <;> rfl) [0, 1] [] rfl (by unfold wrF; rw [if_pos hq] <;> rfl) rfl
  · have hq : off = false := by simpa using h5
    refine r_seq ?_
    refine r_region ?_
    refine r_p (p_move rfl) rfl ?_
    refine r_p (p_bin rfl rfl b_lt) rfl ?_
    refine r_p (p_move rfl) rfl ?_
    refine r_gp [] rfl rfl trivial (fun hg6 => p_move rfl) rfl ?_
    refine r_gp [(20, _)] rfl rfl ⟨rfl, trivial⟩ (fun hg7 => p_move rfl) rfl ?_
    refine r_gp [(20, _), (21, _)] rfl rfl ⟨rfl, rfl, trivial⟩ (fun hg8 => p_nilCheck rfl) rfl ?_
    refine r_gp [(20, _), (21, _), (22, _)] rfl rfl ⟨rfl, rfl, rfl, trivial⟩ (fun hg9 => p_field0 fo94_0 rfl) rfl ?_
    refine r_gp [(20, _), (21, _), (22, _), (23, _)] rfl rfl ⟨rfl, rfl, rfl, rfl, trivial⟩ (fun hg10 => p_load1 t41 rfl rfl (g_row1 (k := 0) rfl rfl)) rfl ?_
    refine r_gp [(20, _), (21, _), (22, _), (23, _), (24, _)] rfl rfl ⟨rfl, rfl, rfl, rfl, rfl, trivial⟩ (fun hg11 => p_len_sl Try.underlying41 rfl (hs_sl (k := 0) rfl)) rfl ?_
    refine r_gp [(20, _), (21, _), (22, _), (23, _), (24, _), (25, _)] rfl rfl ⟨rfl, rfl, rfl, rfl, rfl, rfl, trivial⟩ (fun hg12 => p_bin rfl rfl b_ge) rfl ?_
    refine r_p (p_pick rfl rfl rfl (by first | exact pick_and | exact pick_or |  rfl)) rfl ?_
    refine r_p (p_move rfl) rfl ?_
    refine r_gp [] rfl rfl trivial (fun hg13 => p_move rfl) rfl ?_
    refine r_gp [(29, _)] rfl rfl ⟨rfl, trivial⟩ (fun hg14 => p_len_str Try.underlying9 rfl) rfl ?_
    refine r_gp [(29, _), (30, _)] rfl rfl ⟨rfl, rfl, trivial⟩ (fun hg15 => p_bin rfl rfl b_ne) rfl ?_
    refine r_p (p_pick rfl rfl rfl (by first | exact pick_and | exact pick_or |  rfl)) rfl ?_
    refine r_p (p_assign rfl) rfl ?_
    refine r_nil ?_
    refine r_cond rfl (fun h16 => ?_) (fun h16 => ?_)
    · (try simp only [decide_eq_true_eq, decide_eq_false_iff_not, Bool.and_eq_true, Bool.or_eq_true, Bool.and_eq_false_iff, Bool.or_eq_false_iff, Bool.not_eq_true, Bool.not_eq_false, Bool.not_eq_true', Bool.not_eq_false', Bool.not_not, bne_iff_ne, beq_iff_eq] at h16)
      have hn : wrB dur.length n s := by unfold wrB; omega
      refine r_seq ?_
      refine r_region ?_
      refine r_p (p_assign rfl) rfl ?_
      refine r_nil ?_
      refine r_cret ?_
      refine r_ret () trivial rfl (rs1 (rv_tmp rfl)) (by unfold wrF; rw [if_neg (by simp [hq]), if_pos hn] <;> rfl) [0, 1] [] rfl (by unfold wrF; rw [if_neg (by simp [hq]), if_pos hn] <;> rfl) rfl
    · (try simp only [decide_eq_true_eq, decide_eq_false_iff_not, Bool.and_eq_true, Bool.or_eq_true, Bool.and_eq_false_iff, Bool.or_eq_false_iff, Bool.not_eq_true, Bool.not_eq_false, Bool.not_eq_true', Bool.not_eq_false', Bool.not_not, bne_iff_ne, beq_iff_eq] at h16)
      have hn : ¬ wrB dur.length n s := by unfold wrB; omega
      refine r_seq ?_
      refine r_region ?_
      refine r_p (p_move rfl) rfl ?_
      refine r_call (xs := [.tmp 34]) (power_spec D v (some m) off armed left) cb45 [0] [] [0] [] rfl rfl rfl rfl rfl rfl rfl rfl (fun _ _ => rfl) (fun _ _ _ => rfl) rfl (fun _ _ => ?_)
      refine r_p (p_not rfl) rfl ?_
      refine r_p (p_assign rfl) rfl ?_
      refine r_nil ?_
      refine r_cond rfl (fun h17 => ?_) (fun h17 => ?_)
      · have hp : pwO off armed left = true := by simpa using h17
        refine r_seq ?_
        refine r_region ?_
        refine r_p (p_assign rfl) rfl ?_
        refine r_nil ?_
        refine r_cret ?_
        refine r_ret () trivial rfl (rs1 (rv_tmp rfl)) (by unfold wrF; rw [if_neg (by simp [hq]), if_neg hn, if_pos hp] <;> rfl) [0, 1] [] rfl (by unfold wrF; rw [if_neg (by simp [hq]), if_neg hn, if_pos hp] <;> rfl) rfl
      · have hp : ¬ pwO off armed left = true := by simpa using h17
        refine r_skip ?_
        refine r_seq ?_
        refine r_region ?_
        refine r_p (p_move rfl) rfl ?_
        refine r_p (p_nilCheck rfl) rfl ?_
        refine r_p (p_field0 fo94_1 rfl) rfl ?_
        refine r_p (p_load1 t92 rfl rfl (g_row1 (k := 0) rfl rfl)) rfl ?_
        refine r_p (p_move rfl) rfl ?_
        refine r_p (p_move rfl) rfl ?_
        refine r_mapUpdate (k := 1) (n, s) (putS fr n s) Try.underlying92 keyI rfl rfl rfl rfl (List.Perm.refl _) ?_
        refine r_nil ?_
        refine r_seq ?_
        refine r_region ?_
        refine r_p (p_assign rfl) rfl ?_
        refine r_nil ?_
        refine r_cret ?_
        refine r_ret () trivial rfl (rs1 (rv_tmp rfl)) (by unfold wrF; rw [if_neg (by simp [hq]), if_neg hn, if_neg hp] <;> rfl) [0, 1] [] rfl (by unfold wrF; rw [if_neg (by simp [hq]), if_neg hn, if_neg hp] <;> rfl) rfl
set_option maxRecDepth 100000 in
theorem write_nil (n : Int) (s : ByteArray) :
    Spec Try.prog 19 [.pointer none, .int .i64 n, .string s] [] [] (X := Unit) (fun _ => True) (fun _ => .int .i64 50) (fun _ => []) (fun _ => []) := by
  refine r_enter Try.func19 rfl Try.ntmps19 rfl fun w0 M H => ?_
  refine r_seq ?_
  refine r_region ?_
  refine r_p (p_assign rfl) rfl ?_
  refine r_nil ?_
  refine r_seq ?_
  refine r_block ?_
  refine r_seq ?_
  refine r_region ?_
  refine r_p (p_move rfl) rfl ?_
  refine r_p (p_bin rfl rfl (b_eqPn Try.underlying24)) rfl ?_
  refine r_p (p_move rfl) rfl ?_
  refine r_split (t := 10) rfl (fun h1 => ?_) (fun h1 => False.elim (by simp at h1))
  refine r_gno rfl rfl rfl rfl ?_
  refine r_gno rfl rfl rfl rfl ?_
  refine r_gno rfl rfl rfl rfl ?_
  refine r_gno rfl rfl rfl rfl ?_
  refine r_p (p_pick rfl rfl rfl (by first | exact pick_and | exact pick_or |  rfl)) rfl ?_
  refine r_p (p_assign rfl) rfl ?_
  refine r_nil ?_
  refine r_cond rfl (fun h2 => ?_) (fun h2 => ?_)
  · (try simp only [decide_eq_true_eq, decide_eq_false_iff_not, Bool.and_eq_true, Bool.or_eq_true, Bool.and_eq_false_iff, Bool.or_eq_false_iff, Bool.not_eq_true, Bool.not_eq_false, Bool.not_eq_true', Bool.not_eq_false', Bool.not_not, bne_iff_ne, beq_iff_eq] at h2)
    refine r_seq ?_
    refine r_region ?_
    refine r_p (p_assign rfl) rfl ?_
    refine r_nil ?_
    refine r_cret ?_
    refine r_ret () trivial rfl (rs1 (rv_tmp rfl)) rfl [] [] rfl rfl rfl
  · exact absurd h2 (by simp)
set_option maxRecDepth 100000 in
theorem read_nil (n : Int) :
    Spec Try.prog 27 [.pointer none, .int .i64 n] [] [] (X := Unit) (fun _ => True) (fun _ => .tuple #[.string ByteArray.empty, .int .i64 50]) (fun _ => []) (fun _ => []) := by
  refine r_enter Try.func27 rfl Try.ntmps27 rfl fun w0 M H => ?_
  refine r_seq ?_
  refine r_region ?_
  refine r_p (p_assign rfl) rfl ?_
  refine r_p (p_assign rfl) rfl ?_
  refine r_nil ?_
  refine r_seq ?_
  refine r_block ?_
  refine r_seq ?_
  refine r_region ?_
  refine r_p (p_move rfl) rfl ?_
  refine r_p (p_bin rfl rfl (b_eqPn Try.underlying24)) rfl ?_
  refine r_p (p_move rfl) rfl ?_
  refine r_split (t := 11) rfl (fun h1 => ?_) (fun h1 => False.elim (by simp at h1))
  refine r_gno rfl rfl rfl rfl ?_
  refine r_gno rfl rfl rfl rfl ?_
  refine r_gno rfl rfl rfl rfl ?_
  refine r_gno rfl rfl rfl rfl ?_
  refine r_p (p_pick rfl rfl rfl (by first | exact pick_and | exact pick_or |  rfl)) rfl ?_
  refine r_p (p_assign rfl) rfl ?_
  refine r_nil ?_
  refine r_cond rfl (fun h2 => ?_) (fun h2 => ?_)
  · (try simp only [decide_eq_true_eq, decide_eq_false_iff_not, Bool.and_eq_true, Bool.or_eq_true, Bool.and_eq_false_iff, Bool.or_eq_false_iff, Bool.not_eq_true, Bool.not_eq_false, Bool.not_eq_true', Bool.not_eq_false', Bool.not_not, bne_iff_ne, beq_iff_eq] at h2)
    refine r_seq ?_
    refine r_region ?_
    refine r_p (p_assign rfl) rfl ?_
    refine r_p (p_assign rfl) rfl ?_
    refine r_nil ?_
    refine r_cret ?_
    refine r_ret () trivial rfl (rs2 (rv_tmp rfl) (rv_tmp rfl)) rfl [] [] rfl rfl rfl
  · exact absurd h2 (by simp)

end Go.Proofs.Ytohenjmkhncoiaa
