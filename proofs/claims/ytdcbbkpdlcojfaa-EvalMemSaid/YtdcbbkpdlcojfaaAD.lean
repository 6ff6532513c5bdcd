/-
  The machine: all together. Condition: fuel fits.
-/
import Derived.Test.YtdcbbkpdlcojfaaAC
namespace Go.Proofs.Ytdcbbkpdlcojfaa
set_option linter.unusedSimpArgs false
set_option linter.unusedVariables false
open Go.RowKit

theorem s_step {e : En} {g : Nat} (hF : VF e.fs) (ihX : ∀ k, k ≤ g → HX e k) (ihB : ∀ k, k ≤ g → HB e k) : HS e (g + 1) := fun t d vb vs s vo r ht hd hs hr => by
  by_cases hfu : s.fuel ≤ 0
  · exact stmt_no e g hF ihX ihB t d vb vs s vo r ht hd hs hr hfu
  · exact stmt_ok e g hF ihX ihB t d vb vs s vo r ht hd hs hr hfu
/-- The contracts of the machine's functions, whatever the gas. -/
theorem h_all {e : En} (hF : VF e.fs) : ∀ g, ∀ k, k ≤ g → HX e k ∧ HC e k ∧ HB e k ∧ HS e k
  | 0, k, hk => by
    obtain rfl : k = 0 := by omega
    exact ⟨x_zero, c_zero, b_zero, s_zero⟩
  | g + 1, k, hk => by
    have ih := h_all hF g
    by_cases h : k ≤ g
    · exact ih k h
    · obtain rfl : k = g + 1 := by omega
      exact ⟨x_step hF (fun j hj => (ih j hj).1) (fun j hj => (ih j hj).2.1), c_step hF (ih g (Nat.le_refl g)).2.2.1, b_step hF fun j hj => (ih j hj).2.2.2, s_step hF (fun j hj => (ih j hj).1) fun j hj => (ih j hj).2.2.1⟩
theorem hc_all {e : En} (hF : VF e.fs) (g : Nat) : HC e g := (h_all hF g g (Nat.le_refl g)).2.1
theorem lists_eq {α : Type} {d : α} {a b : List α} (hl : a.length = b.length) (h : ∀ i, i < a.length → a.getD i d = b.getD i d) : a = b := by
  apply List.ext_getElem hl
  intro i h1 h2
  have := h i h1
  rw [List.getD_eq_getElem?_getD, List.getD_eq_getElem?_getD, List.getElem?_eq_getElem h1, List.getElem?_eq_getElem h2] at this
  exact this
theorem lists_ne {α : Type} {d : α} {a b : List α} {i : Nat} (h : ¬ a.getD i d = b.getD i d) : ¬ a = b := fun e => h (by rw [e])


set_option maxHeartbeats 1000000 in
set_option maxRecDepth 100000 in
theorem rwords_spec (va vb : SV) (a b : List Int) (hl : a.length ≤ 1000000) :
    Spec Try.prog 21 [sv va, sv vb] [] [sl 1 eU (sv va) a, sl 1 eU (sv vb) b] (X := Unit) (fun _ => True) (fun _ => .bool (decide (a = b))) (fun _ => []) (fun _ => []) := by
  refine r_enter Try.func21 rfl Try.ntmps21 rfl fun w0 M H => ?_
  refine r_seq ?_
  refine r_region ?_
  refine r_p (p_assign rfl) rfl ?_
  refine r_nil ?_
  refine r_seq ?_
  refine r_seq ?_
  refine r_region ?_
  refine r_p (p_move rfl) rfl ?_
  refine r_p (p_len_sl Try.underlying35 rfl (hs_sl (k := 0) rfl)) rfl ?_
  refine r_p (p_move rfl) rfl ?_
  refine r_p (p_len_sl Try.underlying35 rfl (hs_sl (k := 1) rfl)) rfl ?_
  refine r_p (p_bin rfl rfl b_ne) rfl ?_
  refine r_nil ?_
  refine r_cond rfl (fun h1 => ?_) (fun h1 => ?_)
  · (try simp only [decide_eq_true_eq, decide_eq_false_iff_not, Bool.and_eq_true, Bool.or_eq_true, Bool.and_eq_false_iff, Bool.or_eq_false_iff, Bool.not_eq_true, Bool.not_eq_false, Bool.not_eq_true', Bool.not_eq_false', Bool.not_not, bne_iff_ne, beq_iff_eq] at h1)
    have hle : ¬ (a.length : Int) = b.length := by simpa using h1
    refine r_seq ?_
    refine r_region ?_
    refine r_p (p_assign rfl) rfl ?_
    refine r_nil ?_
    refine r_cret ?_
    refine r_ret () trivial rfl (rs1 (rv_tmp rfl)) (congrArg Value.bool (decide_eq_false fun e => hle (by rw [e])).symm) [] [] rfl rfl rfl
  · (try simp only [decide_eq_true_eq, decide_eq_false_iff_not, Bool.and_eq_true, Bool.or_eq_true, Bool.and_eq_false_iff, Bool.or_eq_false_iff, Bool.not_eq_true, Bool.not_eq_false, Bool.not_eq_true', Bool.not_eq_false', Bool.not_not, bne_iff_ne, beq_iff_eq] at h1)
    have hle : a.length = b.length := by have := h1; omega
    refine r_skip ?_
    refine r_seq ?_
    refine r_seq ?_
    refine r_region ?_
    refine r_p (p_assign rfl) rfl ?_
    refine r_nil ?_
    refine r_block ?_
    refine r_loop (X := Nat) (fun k => k ≤ a.length ∧ ∀ i, i < k → a.getD i 0 = b.getD i 0) (fun k => [(0, sv va), (1, sv vb), (5, .int .i64 (k : Int))]) (fun k => []) (fun k => [(0, sl 1 eU (sv va) a), (1, sl 1 eU (sv vb) b)]) (fun k => a.length - k) 0 ⟨Nat.zero_le _, fun i hi => by omega⟩ rfl rfl rfl (fun k hk0 => ?_)
    obtain ⟨hk0, hall⟩ := hk0
    refine r_seq ?_
    refine r_seq ?_
    refine r_region ?_
    refine r_p (p_move rfl) rfl ?_
    refine r_p (p_move rfl) rfl ?_
    refine r_p (p_len_sl Try.underlying35 rfl (hs_sl (k := 0) rfl)) rfl ?_
    refine r_p (p_bin rfl rfl b_lt) rfl ?_
    refine r_nil ?_
    refine r_cond rfl (fun h2 => ?_) (fun h2 => ?_)
    · (try simp only [decide_eq_true_eq, decide_eq_false_iff_not, Bool.and_eq_true, Bool.or_eq_true, Bool.and_eq_false_iff, Bool.or_eq_false_iff, Bool.not_eq_true, Bool.not_eq_false, Bool.not_eq_true', Bool.not_eq_false', Bool.not_not, bne_iff_ne, beq_iff_eq] at h2)
      have hk : k < a.length := by omega
      refine r_skip ?_
      refine r_seq ?_
      refine r_block ?_
      refine r_seq ?_
      refine r_draw [17, 18, 19, 20, 21, 22, 23, 24, 25] _ rfl (stg_end (V := [(0, 17, _), (1, 18, _), (2, 19, _), (3, 20, _), (4, 21, _), (5, 22, _), (6, 23, _), (7, 24, _), (8, 25, _)]) [0, 1, 2, 3, 4, 5, 6, 7, 8] rfl rfl (prs_cons (pri rfl (p_move rfl)) (prs_cons (pri rfl (p_move rfl)) (prs_cons (pri rfl (p_idx_sl (j := k) Try.underlying35 t22 rfl rfl (hs_sl (k := 0) rfl) (by first | rfl | omega) (by first | omega | (simp; done) | (simp; omega)))) (prs_cons (pri rfl (p_load1 t22 rfl rfl (g_el' (hs_sl (k := 0) rfl) (by intro _; rfl) (getD_get 0 (by omega)) (by rfl)))) (prs_cons (pri rfl (p_move rfl)) (prs_cons (pri rfl (p_move rfl)) (prs_cons (pri rfl (p_idx_sl (j := k) Try.underlying35 t22 rfl rfl (hs_sl (k := 1) rfl) (by first | rfl | omega) (by first | omega | (simp; done) | (simp; omega)))) (prs_cons (pri rfl (p_load1 t22 rfl rfl (g_el' (hs_sl (k := 1) rfl) (by intro _; rfl) (getD_get 0 (by omega)) (by rfl)))) (prs_cons (pri rfl (p_bin rfl rfl b_ne)) prs_nil))))))))) rfl rfl rfl ?_)
      refine r_cond rfl (fun h3 => ?_) (fun h3 => ?_)
      · have hne : ¬ a.getD k 0 = b.getD k 0 := by
          have hh := h3
          rw [Bool.not_eq_true'] at hh
          exact of_decide_eq_false hh
        refine r_seq ?_
        refine r_region ?_
        refine r_p (p_assign rfl) rfl ?_
        refine r_nil ?_
        refine r_cret ?_
        refine r_ret () trivial rfl (rs1 (rv_tmp rfl)) (congrArg Value.bool (decide_eq_false (lists_ne hne)).symm) [] [] rfl rfl rfl
      · have heq : a.getD k 0 = b.getD k 0 := by
          have hh := h3
          rw [Bool.not_eq_false'] at hh
          exact of_decide_eq_true hh
        refine r_skip ?_
        refine r_region ?_
        refine r_p (p_move rfl) rfl ?_
        refine r_p (p_bin rfl rfl (b_add (by first | exact w_i64 (by omega) (by omega) | rfl))) rfl ?_
        refine r_p (p_assign rfl) rfl ?_
        refine r_nil ?_
        refine r_here (k + 1) ⟨⟨by omega, fun i hi => by rcases Nat.lt_succ_iff_lt_or_eq.1 hi with h | h; exact hall i h; rw [h]; exact heq⟩, by omega⟩ rfl rfl rfl
    · (try simp only [decide_eq_true_eq, decide_eq_false_iff_not, Bool.and_eq_true, Bool.or_eq_true, Bool.and_eq_false_iff, Bool.or_eq_false_iff, Bool.not_eq_true, Bool.not_eq_false, Bool.not_eq_true', Bool.not_eq_false', Bool.not_not, bne_iff_ne, beq_iff_eq] at h2)
      have hk : k = a.length := by omega
      subst hk
      refine r_exit ?_
      refine r_seq ?_
      refine r_region ?_
      refine r_p (p_assign rfl) rfl ?_
      refine r_nil ?_
      refine r_cret ?_
      refine r_ret () trivial rfl (rs1 (rv_tmp rfl)) (congrArg Value.bool (decide_eq_true (lists_eq hle hall)).symm) [] [] rfl rfl rfl

end Go.Proofs.Ytdcbbkpdlcojfaa
