/-
  The model of the disk: writing. No condition.
-/
import Derived.Test.YtohenjmkhncoiaaY5
namespace Go.Proofs.Ytohenjmkhncoiaa
set_option linter.unusedSimpArgs false
set_option linter.unusedVariables false
open Go.RowKit

/-- What writing to the model gives. -/
structure Dr where
  e : Int
  off : Bool
  left : Int
  new : List ByteArray
  has : List Bool
def rwF (off : Bool) (left len : Int) (new : List ByteArray) (has : List Bool) (n : Int) (s : ByteArray) : Dr :=
  if off = true then ⟨50, off, left, new, has⟩ else if wrB len n s then ⟨1, off, left, new, has⟩ else
    if flO off left = true then ⟨50, flO off left, flL left, new, has⟩ else ⟨0, flO off left, flL left, new.set n.toNat s, has.set n.toNat true⟩

set_option maxRecDepth 100000 in
theorem rwrite_spec (r : Nat) (vo vn vh : SV) (off : Bool) (left : Int) (old new : List ByteArray) (has : List Bool) (n : Int) (s : ByteArray) (h1 : new.length = old.length) (h2 : has.length = old.length) (hl : left < 9223372036854775808) :
    Spec Try.prog 20 [.pointer (some ⟨r, 0, none⟩), .int .i64 n, .string s] [row r 44 (rC vo vn vh off left), own 9 1 eS (sv vn) new, own 4 1 eB (sv vh) has] [own 9 1 eS (sv vo) old] (X := Unit) (fun _ => True) (fun _ => .int .i64 (rwF off left old.length new has n s).e) (fun _ => [row r 44 (rC vo vn vh (rwF off left old.length new has n s).off (rwF off left old.length new has n s).left), own 9 1 eS (sv vn) (rwF off left old.length new has n s).new, own 4 1 eB (sv vh) (rwF off left old.length new has n s).has]) (fun _ => []) := by
  refine r_enter Try.func20 rfl Try.ntmps20 rfl fun w0 M H => ?_
  refine r_more 0 0 rfl (fun w G h _ => ⟨G, own_to_sl w G h, fun _ hb => hb⟩) ?_
  refine r_seq ?_
  refine r_region ?_
  refine r_p (p_assign rfl) rfl ?_
  refine r_nil ?_
  refine r_seq ?_
  refine r_seq ?_
  refine r_region ?_
  refine r_p (p_move rfl) rfl ?_
  refine r_p (p_nilCheck rfl) rfl ?_
  refine r_p (p_field0 fo44_3 rfl) rfl ?_
  refine r_p (p_load1 t4 rfl rfl (g_row1 (k := 0) rfl rfl)) rfl ?_
  refine r_nil ?_
  refine r_cond rfl (fun h1 => ?_) (fun h1 => ?_)
  · have hq : off = true := h1
    refine r_seq ?_
    refine r_region ?_
    refine r_p (p_assign rfl) rfl ?_
    refine r_nil ?_
    refine r_cret ?_
    refine r_ret () trivial rfl (rs1 (rv_tmp rfl)) (by unfold rwF; rw [if_pos hq] <;> rfl) [0, 1, 2] [] rfl (by unfold rwF; rw [if_pos hq] <;> rfl) rfl
  · have hq : ¬ off = true := by simp [h1]
    refine r_skip ?_
    refine r_seq ?_
    refine r_seq ?_
    refine r_region ?_
    refine r_p (p_move rfl) rfl ?_
    refine r_p (p_bin rfl rfl b_lt) rfl ?_
    refine r_p (p_move rfl) rfl ?_
    refine r_gp [] rfl rfl trivial (fun hg2 => p_move rfl) rfl ?_
    refine r_gp [(14, _)] rfl rfl ⟨rfl, trivial⟩ (fun hg3 => p_move rfl) rfl ?_
    refine r_gp [(14, _), (15, _)] rfl rfl ⟨rfl, rfl, trivial⟩ (fun hg4 => p_nilCheck rfl) rfl ?_
    refine r_gp [(14, _), (15, _), (16, _)] rfl rfl ⟨rfl, rfl, rfl, trivial⟩ (fun hg5 => p_field0 fo44_0 rfl) rfl ?_
    refine r_gp [(14, _), (15, _), (16, _), (17, _)] rfl rfl ⟨rfl, rfl, rfl, rfl, trivial⟩ (fun hg6 => p_load1 t41 rfl rfl (g_row1 (k := 0) rfl rfl)) rfl ?_
    refine r_gp [(14, _), (15, _), (16, _), (17, _), (18, _)] rfl rfl ⟨rfl, rfl, rfl, rfl, rfl, trivial⟩ (fun hg7 => p_len_sl Try.underlying41 rfl (hs_sl (k := 0) rfl)) rfl ?_
    refine r_gp [(14, _), (15, _), (16, _), (17, _), (18, _), (19, _)] rfl rfl ⟨rfl, rfl, rfl, rfl, rfl, rfl, trivial⟩ (fun hg8 => p_bin rfl rfl b_ge) rfl ?_
    refine r_p (p_pick rfl rfl rfl (by first | exact pick_and | exact pick_or |  rfl)) rfl ?_
    refine r_p (p_move rfl) rfl ?_
    refine r_gp [] rfl rfl trivial (fun hg9 => p_move rfl) rfl ?_
    refine r_gp [(23, _)] rfl rfl ⟨rfl, trivial⟩ (fun hg10 => p_len_str Try.underlying9 rfl) rfl ?_
    refine r_gp [(23, _), (24, _)] rfl rfl ⟨rfl, rfl, trivial⟩ (fun hg11 => p_bin rfl rfl b_ne) rfl ?_
    refine r_p (p_pick rfl rfl rfl (by first | exact pick_and | exact pick_or |  rfl)) rfl ?_
    refine r_nil ?_
    refine r_cond rfl (fun h12 => ?_) (fun h12 => ?_)
    · (try simp only [decide_eq_true_eq, decide_eq_false_iff_not, Bool.and_eq_true, Bool.or_eq_true, Bool.and_eq_false_iff, Bool.or_eq_false_iff, Bool.not_eq_true, Bool.not_eq_false, Bool.not_eq_true', Bool.not_eq_false', Bool.not_not, bne_iff_ne, beq_iff_eq] at h12)
      have hn : wrB old.length n s := by unfold wrB; omega
      refine r_seq ?_
      refine r_region ?_
      refine r_p (p_assign rfl) rfl ?_
      refine r_nil ?_
      refine r_cret ?_
      refine r_ret () trivial rfl (rs1 (rv_tmp rfl)) (by unfold rwF; rw [if_neg hq, if_pos hn] <;> rfl) [0, 1, 2] [] rfl (by unfold rwF; rw [if_neg hq, if_pos hn] <;> rfl) rfl
    · (try simp only [decide_eq_true_eq, decide_eq_false_iff_not, Bool.and_eq_true, Bool.or_eq_true, Bool.and_eq_false_iff, Bool.or_eq_false_iff, Bool.not_eq_true, Bool.not_eq_false, Bool.not_eq_true', Bool.not_eq_false', Bool.not_not, bne_iff_ne, beq_iff_eq] at h12)
      have hn : ¬ wrB old.length n s := by unfold wrB; omega
      have hn2 : ¬ (n < 0 ∨ (old.length : Int) ≤ n ∨ s.size ≠ 64) := hn
      refine r_skip ?_
      refine r_seq ?_
      refine r_seq ?_
      refine r_region ?_
      refine r_p (p_move rfl) rfl ?_
      refine r_call (xs := [.tmp 27]) (fails_spec r vo vn vh off left hl) cb46 [0] [] [0] [] rfl rfl rfl rfl rfl rfl rfl rfl (fun _ _ => rfl) (fun _ _ _ => rfl) rfl (fun _ _ => ?_)
      refine r_nil ?_
      refine r_cond rfl (fun h13 => ?_) (fun h13 => ?_)
      · have hp : flO off left = true := h13
        refine r_seq ?_
        refine r_region ?_
        refine r_p (p_assign rfl) rfl ?_
        refine r_nil ?_
        refine r_cret ?_
        refine r_ret () trivial rfl (rs1 (rv_tmp rfl)) (by unfold rwF; rw [if_neg hq, if_neg hn, if_pos hp] <;> rfl) [0, 1, 2] [] rfl (by unfold rwF; rw [if_neg hq, if_neg hn, if_pos hp] <;> rfl) rfl
      · have hp : ¬ flO off left = true := by rw [h13]; simp
        refine r_skip ?_
        refine r_seq ?_
        refine r_region ?_
        refine r_p (p_move rfl) rfl ?_
        refine r_p (p_nilCheck rfl) rfl ?_
        refine r_p (p_field0 fo44_1 rfl) rfl ?_
        refine r_p (p_load1 t41 rfl rfl (g_row1 (k := 0) rfl rfl)) rfl ?_
        refine r_p (p_move rfl) rfl ?_
        refine r_p (p_move rfl) rfl ?_
        refine r_p (p_idx_sl (j := n.toNat) Try.underlying41 t9 rfl rfl (hs_own (k := 1) rfl) (by first | rfl | omega) (by first | omega | (simp; done) | (simp; omega))) rfl ?_
        refine r_store_el (k := 1) (e' := s) t9 rfl rfl rfl (by intro _; rfl) (getD_get ByteArray.empty (by omega)) rfl rfl ?_
        refine r_nil ?_
        refine r_seq ?_
        refine r_region ?_
        refine r_p (p_move rfl) rfl ?_
        refine r_p (p_nilCheck rfl) rfl ?_
        refine r_p (p_field0 fo44_2 rfl) rfl ?_
        refine r_p (p_load1 t42 rfl rfl (g_row1 (k := 0) rfl rfl)) rfl ?_
        refine r_p (p_move rfl) rfl ?_
        refine r_p (p_idx_sl (j := n.toNat) Try.underlying42 t4 rfl rfl (hs_own (k := 2) rfl) (by first | rfl | omega) (by first | omega | (simp; done) | (simp; omega))) rfl ?_
        refine r_store_el (k := 2) (e' := true) t4 rfl rfl rfl (by intro _; rfl) (getD_get false (by omega)) rfl rfl ?_
        refine r_nil ?_
        refine r_seq ?_
        refine r_region ?_
        refine r_p (p_assign rfl) rfl ?_
        refine r_nil ?_
        refine r_cret ?_
        refine r_ret () trivial rfl (rs1 (rv_tmp rfl)) (by unfold rwF; rw [if_neg hq, if_neg hn, if_neg hp] <;> rfl) [0, 1, 2] [] rfl (by unfold rwF; rw [if_neg hq, if_neg hn, if_neg hp] <;> rfl) rfl

end Go.Proofs.Ytohenjmkhncoiaa
