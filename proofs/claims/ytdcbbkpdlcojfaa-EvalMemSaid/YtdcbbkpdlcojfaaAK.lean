/-
  Whether a list contains a string. Condition: not longer than a million.
-/
import Derived.Test.YtdcbbkpdlcojfaaAJ
namespace Go.Proofs.Ytdcbbkpdlcojfaa
set_option linter.unusedSimpArgs false
set_option linter.unusedVariables false
open Go.RowKit

set_option maxHeartbeats 1000000 in
set_option maxRecDepth 100000 in
theorem index_spec (v : SV) (l : List ByteArray) (hl : l.length ≤ 1000000) (s : ByteArray) :
    Spec Try.prog 101 [sv v, .string s] [] [sl 1 eS (sv v) l] (X := Unit) (fun _ => True) (fun _ => .int .i64 (ixF (fun x => decide (s = x)) l)) (fun _ => []) (fun _ => []) := by
  refine r_enter Try.func101 rfl Try.ntmps101 rfl fun w0 M H => ?_
  refine r_seq ?_
  refine r_region ?_
  refine r_p (p_assign rfl) rfl ?_
  refine r_nil ?_
  refine r_seq ?_
  refine r_seq ?_
  refine r_region ?_
  refine r_p (p_move rfl) rfl ?_
  refine r_p (p_len_sl Try.underlying62 rfl (hs_sl (k := 0) rfl)) rfl ?_
  refine r_p (p_move rfl) rfl ?_
  refine r_nil ?_
  refine r_block ?_
  refine r_loop (X := Nat) (fun k => k ≤ l.length ∧ ∀ i y, i < k → l[i]? = some y → (fun x => decide (s = x)) y = false) (fun k => [(0, sv v), (1, .string s), (7, .int .i64 (l.length : Int)), (8, .int .i64 (k : Int))]) (fun k => []) (fun k => [(0, sl 1 eS (sv v) l)]) (fun k => l.length - k) 0 ⟨Nat.zero_le _, fun i y hi => by omega⟩ rfl rfl rfl (fun k hk0 => ?_)
  obtain ⟨n1, n2⟩ := hk0
  refine r_seq ?_
  refine r_region ?_
  refine r_p (p_bin rfl rfl b_lt) rfl ?_
  refine r_nil ?_
  refine r_seq ?_
  refine r_cond rfl (fun h1 => ?_) (fun h1 => ?_)
  · (try simp only [decide_eq_true_eq, decide_eq_false_iff_not, Bool.and_eq_true, Bool.or_eq_true, Bool.and_eq_false_iff, Bool.or_eq_false_iff, Bool.not_eq_true, Bool.not_eq_false, Bool.not_eq_true', Bool.not_eq_false', Bool.not_not, bne_iff_ne, beq_iff_eq] at h1)
    have hk : k < l.length := by omega
    obtain ⟨x, hx⟩ : ∃ x, l[k]? = some x := ⟨_, List.getElem?_eq_getElem hk⟩
    refine r_skip ?_
    refine r_seq ?_
    refine r_block ?_
    refine r_seq ?_
    refine r_region ?_
    refine r_p (p_move rfl) rfl ?_
    refine r_p (p_assign rfl) rfl ?_
    refine r_nil ?_
    refine r_seq ?_
    refine r_region ?_
    refine r_p (p_move rfl) rfl ?_
    refine r_p (p_move rfl) rfl ?_
    refine r_p (p_move rfl) rfl ?_
    refine r_p (p_idx_sl (j := k) Try.underlying62 t9 rfl rfl (hs_sl (k := 0) rfl) (by first | rfl | omega) (by first | omega | (simp; done) | (simp; omega))) rfl ?_
    refine r_p (p_load1 t9 rfl rfl (g_el' (hs_sl (k := 0) rfl) (by intro _; rfl) hx (by rfl))) rfl ?_
    refine r_p (p_bin rfl rfl b_seq) rfl ?_
    refine r_nil ?_
    refine r_cond rfl (fun h2 => ?_) (fun h2 => ?_)
    · have hq : decide (s = x) = true := by rw [← ba_eq]; exact h2
      refine r_seq ?_
      refine r_region ?_
      refine r_p (p_move rfl) rfl ?_
      refine r_p (p_assign rfl) rfl ?_
      refine r_nil ?_
      refine r_cret ?_
      refine r_ret () trivial rfl (rs1 (rv_tmp rfl)) (by rw [ixF_at hx hq n2]) [] [] rfl rfl rfl
    · have hq : decide (s = x) = false := by rw [← ba_eq]; exact h2
      refine r_skip ?_
      refine r_region ?_
      refine r_p (p_bin rfl rfl (b_add (by first | exact w_i64 (by omega) (by omega) | rfl))) rfl ?_
      refine r_p (p_move rfl) rfl ?_
      refine r_nil ?_
      refine r_here (k + 1) ⟨⟨by omega, fun i y hi hy => by rcases Nat.lt_succ_iff_lt_or_eq.1 hi with h | h; exact n2 i y h hy; rw [h, hx] at hy; rw [← Option.some.inj hy]; exact hq⟩, by omega⟩ rfl rfl rfl
  · (try simp only [decide_eq_true_eq, decide_eq_false_iff_not, Bool.and_eq_true, Bool.or_eq_true, Bool.and_eq_false_iff, Bool.or_eq_false_iff, Bool.not_eq_true, Bool.not_eq_false, Bool.not_eq_true', Bool.not_eq_false', Bool.not_not, bne_iff_ne, beq_iff_eq] at h1)
    have hk : k = l.length := by omega
    subst hk
    refine r_exit ?_
    refine r_seq ?_
    refine r_region ?_
    refine r_p (p_assign rfl) rfl ?_
    refine r_nil ?_
    refine r_cret ?_
    refine r_ret () trivial rfl (rs1 (rv_tmp rfl)) (by rw [ixF_no n2]) [] [] rfl rfl rfl
def memB (s : ByteArray) (l : List ByteArray) : Bool := l.any fun x => decide (s = x)
theorem ixF_ge {l : List ByteArray} {s : ByteArray} : decide (ixF (fun x => decide (s = x)) l ≥ 0) = memB s l := by
  unfold ixF memB
  cases h : l.findIdx? (fun x => decide (s = x)) with
  | none =>
    rw [List.findIdx?_eq_none_iff] at h
    have : (l.any fun x => decide (s = x)) = false := List.any_eq_false.2 fun x hx => by rw [h x hx]; simp
    rw [this]
    rfl
  | some i =>
    rw [List.findIdx?_eq_some_iff_getElem] at h
    obtain ⟨h1, h2, _⟩ := h
    have : (l.any fun x => decide (s = x)) = true := List.any_eq_true.2 ⟨_, List.getElem_mem h1, h2⟩
    rw [this]
    exact decide_eq_true (Int.natCast_nonneg i)
set_option maxRecDepth 100000 in
theorem contains_spec (v : SV) (l : List ByteArray) (hl : l.length ≤ 1000000) (s : ByteArray) :
    Spec Try.prog 87 [sv v, .string s] [] [sl 1 eS (sv v) l] (X := Unit) (fun _ => True) (fun _ => .bool (memB s l)) (fun _ => []) (fun _ => []) := by
  refine r_enter Try.func87 rfl Try.ntmps87 rfl fun w0 M H => ?_
  refine r_seq ?_
  refine r_region ?_
  refine r_p (p_assign rfl) rfl ?_
  refine r_nil ?_
  refine r_seq ?_
  refine r_region ?_
  refine r_p (p_move rfl) rfl ?_
  refine r_p (p_move rfl) rfl ?_
  refine r_call (xs := [.tmp 5, .tmp 6]) (index_spec v l hl s) cb101 [] [(false, 0)] [] [] rfl rfl rfl rfl rfl rfl rfl rfl (fun _ _ => rfl) (fun _ _ _ => rfl) rfl (fun _ _ => ?_)
  refine r_p (p_bin rfl rfl b_ge) rfl ?_
  refine r_p (p_assign rfl) rfl ?_
  refine r_nil ?_
  refine r_cret ?_
  refine r_ret () trivial rfl (rs1 (rv_tmp rfl)) (congrArg Value.bool ixF_ge) [] [] rfl rfl rfl

end Go.Proofs.Ytdcbbkpdlcojfaa
