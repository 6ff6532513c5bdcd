/-
  The model of the disk: making durable. No condition.
-/
import Derived.Test.YtohenjmkhncoiaaY6
namespace Go.Proofs.Ytohenjmkhncoiaa
set_option linter.unusedSimpArgs false
set_option linter.unusedVariables false
open Go.RowKit

/-- One sector becomes durable. -/
def stp (new : List ByteArray) (x : List ByteArray × List Bool) (k : Nat) : List ByteArray × List Bool := (if x.2.getD k false = true then x.1.set k (new.getD k ByteArray.empty) else x.1, x.2.set k false)
def syN (new : List ByteArray) (x : List ByteArray × List Bool) : Nat → List ByteArray × List Bool
  | 0 => x
  | k + 1 => stp new (syN new x k) k
theorem syN_len (new : List ByteArray) (x : List ByteArray × List Bool) : ∀ k, (syN new x k).1.length = x.1.length ∧ (syN new x k).2.length = x.2.length
  | 0 => ⟨rfl, rfl⟩
  | k + 1 => by
    obtain ⟨h1, h2⟩ := syN_len new x k
    show (stp new (syN new x k) k).1.length = _ ∧ (stp new (syN new x k) k).2.length = _
    unfold stp
    refine ⟨?_, by rw [List.length_set]; exact h2⟩
    dsimp only
    split
    · rw [List.length_set]; exact h1
    · exact h1

set_option maxRecDepth 100000 in
theorem rsync_off (r : Nat) (vo vn vh : SV) (left : Int) :
    Spec Try.prog 22 [.pointer (some ⟨r, 0, none⟩)] [] [row r 44 (rC vo vn vh true left)] (X := Unit) (fun _ => True) (fun _ => .int .i64 50) (fun _ => []) (fun _ => []) := by
  refine r_enter Try.func22 rfl Try.ntmps22 rfl fun w0 M H => ?_
  refine r_seq ?_
  refine r_region ?_
  refine r_p (p_assign rfl) rfl ?_
  refine r_nil ?_
  refine r_seq ?_
  refine r_seq ?_
  refine r_region ?_
  refine r_p (p_move rfl) rfl ?_
  refine r_p (p_nilCheck rfl) rfl ?_
  refine r_p (p_field0 fo44_3 rfl) rfl ?_
  refine r_p (p_load1 t4 rfl rfl (g_row1R (k := 0) rfl rfl)) rfl ?_
  refine r_p (p_move rfl) rfl ?_
  refine r_split (t := 8) rfl (fun h1 => ?_) (fun h1 => False.elim (by simp at h1))
  refine r_gno rfl rfl rfl rfl ?_
  refine r_gno rfl rfl rfl rfl ?_
  refine r_p (p_pick rfl rfl rfl (by first | exact pick_and | exact pick_or |  rfl)) rfl ?_
  refine r_nil ?_
  refine r_cond rfl (fun h2 => ?_) (fun h2 => ?_)
  · (try simp only [decide_eq_true_eq, decide_eq_false_iff_not, Bool.and_eq_true, Bool.or_eq_true, Bool.and_eq_false_iff, Bool.or_eq_false_iff, Bool.not_eq_true, Bool.not_eq_false, Bool.not_eq_true', Bool.not_eq_false', Bool.not_not, bne_iff_ne, beq_iff_eq] at h2)
    refine r_seq ?_
    refine r_region ?_
    refine r_p (p_assign rfl) rfl ?_
    refine r_nil ?_
    refine r_cret ?_
    refine r_ret () trivial rfl (rs1 (rv_tmp rfl)) rfl [] [] rfl rfl rfl
  · exact absurd h2 (by simp)
set_option maxHeartbeats 1000000 in
set_option maxRecDepth 100000 in
theorem rsync_on (r : Nat) (vo vn vh : SV) (left : Int) (old new : List ByteArray) (has : List Bool) (h1 : new.length = old.length) (h2 : has.length = old.length) (hl : left < 9223372036854775808) (hlen : old.length ≤ 65536) :
    Spec Try.prog 22 [.pointer (some ⟨r, 0, none⟩)] [row r 44 (rC vo vn vh false left), own 9 1 eS (sv vo) old, own 4 1 eB (sv vh) has] [own 9 1 eS (sv vn) new] (X := Unit) (fun _ => True) (fun _ => .int .i64 (if flO false left = true then 50 else 0)) (fun _ => [row r 44 (rC vo vn vh (flO false left) (flL left)), own 9 1 eS (sv vo) (if flO false left = true then old else (syN new (old, has) old.length).1), own 4 1 eB (sv vh) (if flO false left = true then has else (syN new (old, has) old.length).2)]) (fun _ => []) := by
  refine r_enter Try.func22 rfl Try.ntmps22 rfl fun w0 M H => ?_
  refine r_more 0 0 rfl (fun w G h _ => ⟨G, own_to_sl w G h, fun _ hb => hb⟩) ?_
  refine r_seq ?_
  refine r_region ?_
  refine r_p (p_assign rfl) rfl ?_
  refine r_nil ?_
  refine r_seq ?_
  refine r_seq ?_
  refine r_region ?_
  refine r_p (p_move rfl) rfl ?_
  refine r_p (p_nilCheck rfl) rfl ?_
  refine r_p (p_field0 fo44_3 rfl) rfl ?_
  refine r_p (p_load1 t4 rfl rfl (g_row1 (k := 0) rfl rfl)) rfl ?_
  refine r_p (p_move rfl) rfl ?_
  refine r_split (t := 8) rfl (fun h1 => False.elim (by simp at h1)) (fun h1 => ?_)
  refine r_gyes rfl rfl ?_
  refine r_p (p_move rfl) rfl ?_
  refine r_gyes rfl rfl ?_
  refine r_call (xs := [.tmp 9]) (fails_spec r vo vn vh false left hl) cb46 [0] [] [0] [] rfl rfl rfl rfl rfl rfl rfl rfl (fun _ _ => rfl) (fun _ _ _ => rfl) rfl (fun _ _ => ?_)
  refine r_p (p_pick rfl rfl rfl (by first | exact pick_and | exact pick_or |  rfl)) rfl ?_
  refine r_nil ?_
  refine r_cond rfl (fun h2 => ?_) (fun h2 => ?_)
  · have hp : flO false left = true := by simpa using h2
    refine r_seq ?_
    refine r_region ?_
    refine r_p (p_assign rfl) rfl ?_
    refine r_nil ?_
    refine r_cret ?_
    refine r_ret () trivial rfl (rs1 (rv_tmp rfl)) (by rw [if_pos hp] <;> rfl) [0, 1, 2] [] rfl (by rw [if_pos hp, if_pos hp] <;> rfl) rfl
  · have hp : ¬ flO false left = true := by simpa using h2
    refine r_skip ?_
    refine r_seq ?_
    refine r_seq ?_
    refine r_region ?_
    refine r_p (p_assign rfl) rfl ?_
    refine r_nil ?_
    refine r_block ?_
    refine r_loop (X := Nat) (fun k => k ≤ old.length) (fun k => [(0, .pointer (some ⟨r, 0, none⟩)), (3, .int .i64 (k : Int))]) (fun k => [(0, row r 44 (rC vo vn vh (flO false left) (flL left))), (1, own 9 1 eS (sv vo) (syN new (old, has) k).1), (2, own 4 1 eB (sv vh) (syN new (old, has) k).2)]) (fun k => [(0, sl 1 eS (sv vn) new)]) (fun k => old.length - k) 0 (Nat.zero_le _) rfl rfl rfl (fun k hk0 => ?_)
    obtain ⟨hy1, hy2⟩ := syN_len new (old, has) k
    dsimp only at hy1 hy2
    refine r_seq ?_
    refine r_seq ?_
    refine r_region ?_
    refine r_p (p_move rfl) rfl ?_
    refine r_p (p_move rfl) rfl ?_
    refine r_p (p_nilCheck rfl) rfl ?_
    refine r_p (p_field0 fo44_0 rfl) rfl ?_
    refine r_p (p_load1 t41 rfl rfl (g_row1 (k := 0) rfl rfl)) rfl ?_
    refine r_p (p_len_sl Try.underlying41 rfl (hs_own (k := 1) rfl)) rfl ?_
    refine r_p (p_bin rfl rfl b_lt) rfl ?_
    refine r_nil ?_
    refine r_cond rfl (fun h3 => ?_) (fun h3 => ?_)
    · (try simp only [decide_eq_true_eq, decide_eq_false_iff_not, Bool.and_eq_true, Bool.or_eq_true, Bool.and_eq_false_iff, Bool.or_eq_false_iff, Bool.not_eq_true, Bool.not_eq_false, Bool.not_eq_true', Bool.not_eq_false', Bool.not_not, bne_iff_ne, beq_iff_eq] at h3)
      have hk : k < old.length := by omega
      refine r_skip ?_
      refine r_seq ?_
      refine r_block ?_
      refine r_seq ?_
      refine r_seq ?_
      refine r_region ?_
      refine r_p (p_move rfl) rfl ?_
      refine r_p (p_nilCheck rfl) rfl ?_
      refine r_p (p_field0 fo44_2 rfl) rfl ?_
      refine r_p (p_load1 t42 rfl rfl (g_row1 (k := 0) rfl rfl)) rfl ?_
      refine r_p (p_move rfl) rfl ?_
      refine r_p (p_idx_sl (j := k) Try.underlying42 t4 rfl rfl (hs_own (k := 2) rfl) (by first | rfl | omega) (by first | omega | (simp; done) | (simp; omega))) rfl ?_
      refine r_p (p_load1 t4 rfl rfl (g_el' (hs_own (k := 2) rfl) (by intro _; rfl) (getD_get false (by omega)) (by rfl))) rfl ?_
      refine r_nil ?_
      refine r_cond rfl (fun h4 => ?_) (fun h4 => ?_)
      · have hp3 : (syN new (old, has) k).2.getD k false = true := h4
        refine r_draw [28, 29, 30, 31, 32, 33, 34, 35, 36, 37, 38, 39, 40] _ rfl (stg_mem0 (V := [(0, 28, _), (1, 29, _), (2, 30, _), (3, 31, _), (4, 32, _), (5, 33, _), (6, 34, _), (7, 35, _), (8, 36, _), (9, 37, _), (10, 38, _), (11, 39, _), (12, 40, _)]) [0, 1, 2, 3, 4, 5, 6, 7, 8, 9, 10, 11, 12] 13 [13, 12, 11, 10, 9, 8, 7, 6, 5, 4, 3, 2, 1, 0] [] (fun _ => []) rfl rfl (prs_cons (pri rfl (p_move rfl)) (prs_cons (pri rfl (p_nilCheck rfl)) (prs_cons (pri rfl (p_field0 fo44_0 rfl)) (prs_cons (pri rfl (p_load1 t41 rfl rfl (g_row1 (k := 0) rfl rfl))) (prs_cons (pri rfl (p_move rfl)) (prs_cons (pri rfl (p_move rfl)) (prs_cons (pri rfl (p_nilCheck rfl)) (prs_cons (pri rfl (p_field0 fo44_1 rfl)) (prs_cons (pri rfl (p_load1 t41 rfl rfl (g_row1 (k := 0) rfl rfl))) (prs_cons (pri rfl (p_move rfl)) (prs_cons (pri rfl (p_idx_sl (j := k) Try.underlying41 t9 rfl rfl (hs_sl (k := 0) rfl) (by first | rfl | omega) (by first | omega | (simp; done) | (simp; omega)))) (prs_cons (pri rfl (p_load1 t9 rfl rfl (g_el' (hs_sl (k := 0) rfl) (by intro _; rfl) (getD_get ByteArray.empty (by omega)) (by rfl)))) (prs_cons (pri rfl (p_idx_sl (j := k) Try.underlying41 t9 rfl rfl (hs_own (k := 1) rfl) (by first | rfl | omega) (by first | omega | (simp; done) | (simp; omega)))) prs_nil))))))))))))) rfl rfl rfl rfl rfl rfl rfl rfl rfl (fun _ _ => rfl) rfl (ms_store_el (k := 1) (e' := (new.getD k ByteArray.empty)) t9 rfl rfl rfl (by intro _; rfl) (getD_get ByteArray.empty (by omega)) rfl rfl) (fun _ _ => stg_end [] rfl rfl prs_nil rfl rfl rfl ?_))
        refine r_region ?_
        refine r_p (p_move rfl) rfl ?_
        refine r_p (p_nilCheck rfl) rfl ?_
        refine r_p (p_field0 fo44_2 rfl) rfl ?_
        refine r_p (p_load1 t42 rfl rfl (g_row1 (k := 0) rfl rfl)) rfl ?_
        refine r_p (p_move rfl) rfl ?_
        refine r_p (p_idx_sl (j := k) Try.underlying42 t4 rfl rfl (hs_own (k := 2) rfl) (by first | rfl | omega) (by first | omega | (simp; done) | (simp; omega))) rfl ?_
        refine r_store_el (k := 2) (e' := false) t4 rfl rfl rfl (by intro _; rfl) (getD_get false (by omega)) rfl rfl ?_
        refine r_nil ?_
        refine r_region ?_
        refine r_p (p_move rfl) rfl ?_
        refine r_p (p_bin rfl rfl (b_add (by first | exact w_i64 (by omega) (by omega) | rfl))) rfl ?_
        refine r_p (p_assign rfl) rfl ?_
        refine r_nil ?_
        have hs : (syN new (old, has) (k + 1)) = (((syN new (old, has) k).1.set k (new.getD k ByteArray.empty)), (syN new (old, has) k).2.set k false) := by
          show stp new _ k = _
          unfold stp
          rw [if_pos hp3]
        refine r_here (k + 1) ⟨by omega, by omega⟩ rfl (by rw [hs]; rfl) rfl
      · have hp3 : ¬ (syN new (old, has) k).2.getD k false = true := by rw [h4]; simp
        refine r_skip ?_
        refine r_region ?_
        refine r_p (p_move rfl) rfl ?_
        refine r_p (p_nilCheck rfl) rfl ?_
        refine r_p (p_field0 fo44_2 rfl) rfl ?_
        refine r_p (p_load1 t42 rfl rfl (g_row1 (k := 0) rfl rfl)) rfl ?_
        refine r_p (p_move rfl) rfl ?_
        refine r_p (p_idx_sl (j := k) Try.underlying42 t4 rfl rfl (hs_own (k := 2) rfl) (by first | rfl | omega) (by first | omega | (simp; done) | (simp; omega))) rfl ?_
        refine r_store_el (k := 2) (e' := false) t4 rfl rfl rfl (by intro _; rfl) (getD_get false (by omega)) rfl rfl ?_
        refine r_nil ?_
        refine r_region ?_
        refine r_p (p_move rfl) rfl ?_
        refine r_p (p_bin rfl rfl (b_add (by first | exact w_i64 (by omega) (by omega) | rfl))) rfl ?_
        refine r_p (p_assign rfl) rfl ?_
        refine r_nil ?_
        have hs : (syN new (old, has) (k + 1)) = ((syN new (old, has) k).1, (syN new (old, has) k).2.set k false) := by
          show stp new _ k = _
          unfold stp
          rw [if_neg hp3]
        refine r_here (k + 1) ⟨by omega, by omega⟩ rfl (by rw [hs]; rfl) rfl
    · (try simp only [decide_eq_true_eq, decide_eq_false_iff_not, Bool.and_eq_true, Bool.or_eq_true, Bool.and_eq_false_iff, Bool.or_eq_false_iff, Bool.not_eq_true, Bool.not_eq_false, Bool.not_eq_true', Bool.not_eq_false', Bool.not_not, bne_iff_ne, beq_iff_eq] at h3)
      have hk : k = old.length := by omega
      subst hk
      refine r_exit ?_
      refine r_seq ?_
      refine r_region ?_
      refine r_p (p_assign rfl) rfl ?_
      refine r_nil ?_
      refine r_cret ?_
      refine r_ret () trivial rfl (rs1 (rv_tmp rfl)) (by rw [if_neg hp] <;> rfl) [0, 1, 2] [] rfl (by rw [if_neg hp, if_neg hp] <;> rfl) rfl

end Go.Proofs.Ytohenjmkhncoiaa
