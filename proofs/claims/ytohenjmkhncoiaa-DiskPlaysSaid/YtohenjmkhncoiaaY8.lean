/-
  The model of the disk: a crash. No condition.
-/
import Derived.Test.YtohenjmkhncoiaaY7
namespace Go.Proofs.Ytohenjmkhncoiaa
set_option linter.unusedSimpArgs false
set_option linter.unusedVariables false
open Go.RowKit

/-- Which content a crash leaves: the bit of a number. -/
def crB (q : List Int) (at_ : Nat) : Bool := decide (0 < q.length) && decide (bits .and .i64 (q.getD (at_ % q.length) 0) 1 = 1)
/-- One sector of a crash. -/
def stc (q : List Int) (new : List ByteArray) (x : List ByteArray × List Bool × Nat) (k : Nat) : List ByteArray × List Bool × Nat :=
  if x.2.1.getD k false = true then (if crB q x.2.2 = true then x.1.set k (new.getD k ByteArray.empty) else x.1, x.2.1.set k false, x.2.2 + 1) else x
def crN (q : List Int) (new : List ByteArray) (x : List ByteArray × List Bool × Nat) : Nat → List ByteArray × List Bool × Nat
  | 0 => x
  | k + 1 => stc q new (crN q new x k) k
theorem crN_len (q : List Int) (new : List ByteArray) (x : List ByteArray × List Bool × Nat) : ∀ k, (crN q new x k).1.length = x.1.length ∧ (crN q new x k).2.1.length = x.2.1.length ∧ (crN q new x k).2.2 ≤ x.2.2 + k
  | 0 => ⟨rfl, rfl, Nat.le_refl _⟩
  | k + 1 => by
    obtain ⟨h1, h2, h3⟩ := crN_len q new x k
    show (stc q new (crN q new x k) k).1.length = _ ∧ (stc q new (crN q new x k) k).2.1.length = _ ∧ (stc q new (crN q new x k) k).2.2 ≤ _
    unfold stc
    split
    · refine ⟨?_, by rw [List.length_set]; exact h2, by dsimp only; omega⟩
      dsimp only
      split
      · rw [List.length_set]; exact h1
      · exact h1
    · exact ⟨h1, h2, by omega⟩

set_option maxHeartbeats 1000000 in
set_option maxRecDepth 100000 in
theorem rcrash_e (r : Nat) (vo vn vh : SV) (off : Bool) (left : Int) (old new : List ByteArray) (has : List Bool) (vq : SV) (ql : List Int) (h1 : new.length = old.length) (h2 : has.length = old.length) (hlen : old.length ≤ 65536) (hq : ¬ 0 < ql.length) :
    Spec Try.prog 26 [.pointer (some ⟨r, 0, none⟩), sv vq] [row r 44 (rC vo vn vh off left), own 9 1 eS (sv vo) old, own 4 1 eB (sv vh) has] [own 9 1 eS (sv vn) new, sl 1 eI (sv vq) ql] (X := Unit) (fun _ => True) (fun _ => .tuple #[]) (fun _ => [row r 44 (rC vo vn vh false (-1)), own 9 1 eS (sv vo) (crN ql new (old, has, 0) old.length).1, own 4 1 eB (sv vh) (crN ql new (old, has, 0) old.length).2.1]) (fun _ => []) := by
  refine r_enter Try.func26 rfl Try.ntmps26 rfl fun w0 M H => ?_
  refine r_more 0 0 rfl (fun w G h _ => ⟨G, own_to_sl w G h, fun _ hb => hb⟩) ?_
  refine r_seq ?_
  refine r_region ?_
  refine r_p (p_assign rfl) rfl ?_
  refine r_nil ?_
  refine r_seq ?_
  refine r_seq ?_
  refine r_region ?_
  refine r_p (p_assign rfl) rfl ?_
  refine r_nil ?_
  refine r_block ?_
  refine r_loop (X := Nat) (fun k => k ≤ old.length) (fun k => [(0, .pointer (some ⟨r, 0, none⟩)), (1, sv vq), (4, .int .i64 ((crN ql new (old, has, 0) k).2.2 : Int)), (5, .int .i64 (k : Int))]) (fun k => [(0, row r 44 (rC vo vn vh off left)), (1, own 9 1 eS (sv vo) (crN ql new (old, has, 0) k).1), (2, own 4 1 eB (sv vh) (crN ql new (old, has, 0) k).2.1)]) (fun k => [(0, sl 1 eS (sv vn) new), (1, sl 1 eI (sv vq) ql)]) (fun k => old.length - k) 0 (Nat.zero_le _) rfl rfl rfl (fun k hk0 => ?_)
  obtain ⟨hy1, hy2, hy3⟩ := crN_len ql new (old, has, 0) k
  dsimp only at hy1 hy2 hy3
  refine r_seq ?_
  refine r_seq ?_
  refine r_region ?_
  refine r_p (p_move rfl) rfl ?_
  refine r_p (p_move rfl) rfl ?_
  refine r_p (p_nilCheck rfl) rfl ?_
  refine r_p (p_field0 fo44_0 rfl) rfl ?_
  refine r_p (p_load1 t41 rfl rfl (g_row1 (k := 0) rfl rfl)) rfl ?_
  refine r_p (p_len_sl Try.underlying41 rfl (hs_own (k := 1) rfl)) rfl ?_
  refine r_p (p_bin rfl rfl b_lt) rfl ?_
  refine r_nil ?_
  refine r_cond rfl (fun h1 => ?_) (fun h1 => ?_)
  · (try simp only [decide_eq_true_eq, decide_eq_false_iff_not, Bool.and_eq_true, Bool.or_eq_true, Bool.and_eq_false_iff, Bool.or_eq_false_iff, Bool.not_eq_true, Bool.not_eq_false, Bool.not_eq_true', Bool.not_eq_false', Bool.not_not, bne_iff_ne, beq_iff_eq] at h1)
    have hk : k < old.length := by omega
    refine r_skip ?_
    refine r_seq ?_
    refine r_block ?_
    refine r_seq ?_
    refine r_seq ?_
    refine r_region ?_
    refine r_p (p_move rfl) rfl ?_
    refine r_p (p_nilCheck rfl) rfl ?_
    refine r_p (p_field0 fo44_2 rfl) rfl ?_
    refine r_p (p_load1 t42 rfl rfl (g_row1 (k := 0) rfl rfl)) rfl ?_
    refine r_p (p_move rfl) rfl ?_
    refine r_p (p_idx_sl (j := k) Try.underlying42 t4 rfl rfl (hs_own (k := 2) rfl) (by first | rfl | omega) (by first | omega | (simp; done) | (simp; omega))) rfl ?_
    refine r_p (p_load1 t4 rfl rfl (g_el' (hs_own (k := 2) rfl) (by intro _; rfl) (getD_get false (by omega)) (by rfl))) rfl ?_
    refine r_p (p_not rfl) rfl ?_
    refine r_nil ?_
    refine r_cond rfl (fun h2 => ?_) (fun h2 => ?_)
    · have hp2 : ¬ (crN ql new (old, has, 0) k).2.1.getD k false = true := by simpa using h2
      refine r_exit ?_
      refine r_region ?_
      refine r_p (p_move rfl) rfl ?_
      refine r_p (p_bin rfl rfl (b_add (by first | exact w_i64 (by omega) (by omega) | rfl))) rfl ?_
      refine r_p (p_assign rfl) rfl ?_
      refine r_nil ?_
      have hs : (crN ql new (old, has, 0) (k + 1)) = (crN ql new (old, has, 0) k) := by
        show stc ql new _ k = _
        unfold stc
        rw [if_neg hp2]
      refine r_here (k + 1) ⟨by omega, by omega⟩ (by rw [hs]; rfl) (by rw [hs]; rfl) rfl
    · have hp2 : (crN ql new (old, has, 0) k).2.1.getD k false = true := by simpa using h2
      refine r_skip ?_
      refine r_seq ?_
      refine r_seq ?_
      refine r_region ?_
      refine r_p (p_move rfl) rfl ?_
      refine r_p (p_len_sl Try.underlying28 rfl (hs_sl (k := 1) rfl)) rfl ?_
      refine r_p (p_bin rfl rfl b_gt) rfl ?_
      refine r_p (p_move rfl) rfl ?_
      refine r_split (t := 26) rfl (fun h3 => False.elim (by have := of_decide_eq_true h3; omega)) (fun h3 => ?_)
      refine r_gno rfl rfl rfl rfl ?_
      refine r_gno rfl rfl rfl rfl ?_
      refine r_gno rfl rfl rfl rfl ?_
      refine r_gno rfl rfl rfl rfl ?_
      refine r_gno rfl rfl rfl rfl ?_
      refine r_gno rfl rfl rfl rfl ?_
      refine r_gno rfl rfl rfl rfl ?_
      refine r_gno rfl rfl rfl rfl ?_
      refine r_gno rfl rfl rfl rfl ?_
      refine r_p (p_pick rfl rfl rfl (by first | exact pick_and | exact pick_or |  rfl)) rfl ?_
      refine r_nil ?_
      refine r_cond rfl (fun h4 => ?_) (fun h4 => ?_)
      · have hp3 : crB ql (crN ql new (old, has, 0) k).2.2 = true := by unfold crB; simp at h4
        refine r_draw [37, 38, 39, 40, 41, 42, 43, 44, 45, 46, 47, 48, 49] _ rfl (stg_mem0 (V := [(0, 37, _), (1, 38, _), (2, 39, _), (3, 40, _), (4, 41, _), (5, 42, _), (6, 43, _), (7, 44, _), (8, 45, _), (9, 46, _), (10, 47, _), (11, 48, _), (12, 49, _)]) [0, 1, 2, 3, 4, 5, 6, 7, 8, 9, 10, 11, 12] 13 [13, 12, 11, 10, 9, 8, 7, 6, 5, 4, 3, 2, 1, 0] [] (fun _ => []) rfl rfl (prs_cons (pri rfl (p_move rfl)) (prs_cons (pri rfl (p_nilCheck rfl)) (prs_cons (pri rfl (p_field0 fo44_0 rfl)) (prs_cons (pri rfl (p_load1 t41 rfl rfl (g_row1 (k := 0) rfl rfl))) (prs_cons (pri rfl (p_move rfl)) (prs_cons (pri rfl (p_move rfl)) (prs_cons (pri rfl (p_nilCheck rfl)) (prs_cons (pri rfl (p_field0 fo44_1 rfl)) (prs_cons (pri rfl (p_load1 t41 rfl rfl (g_row1 (k := 0) rfl rfl))) (prs_cons (pri rfl (p_move rfl)) (prs_cons (pri rfl (p_idx_sl (j := k) Try.underlying41 t9 rfl rfl (hs_sl (k := 0) rfl) (by first | rfl | omega) (by first | omega | (simp; done) | (simp; omega)))) (prs_cons (pri rfl (p_load1 t9 rfl rfl (g_el' (hs_sl (k := 0) rfl) (by intro _; rfl) (getD_get ByteArray.empty (by omega)) (by rfl)))) (prs_cons (pri rfl (p_idx_sl (j := k) Try.underlying41 t9 rfl rfl (hs_own (k := 1) rfl) (by first | rfl | omega) (by first | omega | (simp; done) | (simp; omega)))) prs_nil))))))))))))) rfl rfl rfl rfl rfl rfl rfl rfl rfl (fun _ _ => rfl) rfl (ms_store_el (k := 1) (e' := (new.getD k ByteArray.empty)) t9 rfl rfl rfl (by intro _; rfl) (getD_get ByteArray.empty (by omega)) rfl rfl) (fun _ _ => stg_end [] rfl rfl prs_nil rfl rfl rfl ?_))
        refine r_seq ?_
        refine r_region ?_
        refine r_p (p_move rfl) rfl ?_
        refine r_p (p_nilCheck rfl) rfl ?_
        refine r_p (p_field0 fo44_2 rfl) rfl ?_
        refine r_p (p_load1 t42 rfl rfl (g_row1 (k := 0) rfl rfl)) rfl ?_
        refine r_p (p_move rfl) rfl ?_
        refine r_p (p_idx_sl (j := k) Try.underlying42 t4 rfl rfl (hs_own (k := 2) rfl) (by first | rfl | omega) (by first | omega | (simp; done) | (simp; omega))) rfl ?_
        refine r_store_el (k := 2) (e' := false) t4 rfl rfl rfl (by intro _; rfl) (getD_get false (by omega)) rfl rfl ?_
        refine r_nil ?_
        refine r_region ?_
        refine r_p (p_move rfl) rfl ?_
        refine r_p (p_bin rfl rfl (b_add (by first | exact w_i64 (by omega) (by omega) | rfl))) rfl ?_
        refine r_p (p_assign rfl) rfl ?_
        refine r_nil ?_
        refine r_region ?_
        refine r_p (p_move rfl) rfl ?_
        refine r_p (p_bin rfl rfl (b_add (by first | exact w_i64 (by omega) (by omega) | rfl))) rfl ?_
        refine r_p (p_assign rfl) rfl ?_
        refine r_nil ?_
        have hs : (crN ql new (old, has, 0) (k + 1)) = ((crN ql new (old, has, 0) k).1.set k (new.getD k ByteArray.empty), (crN ql new (old, has, 0) k).2.1.set k false, (crN ql new (old, has, 0) k).2.2 + 1) := by
          show stc ql new _ k = _
          unfold stc
          rw [if_pos hp2, if_pos hp3]
        refine r_here (k + 1) ⟨by omega, by omega⟩ (by rw [hs]; rfl) (by rw [hs]; rfl) rfl
      · have hp3 : ¬ crB ql (crN ql new (old, has, 0) k).2.2 = true := by unfold crB; rw [decide_eq_false hq]; simp
        refine r_skip ?_
        refine r_seq ?_
        refine r_region ?_
        refine r_p (p_move rfl) rfl ?_
        refine r_p (p_nilCheck rfl) rfl ?_
        refine r_p (p_field0 fo44_2 rfl) rfl ?_
        refine r_p (p_load1 t42 rfl rfl (g_row1 (k := 0) rfl rfl)) rfl ?_
        refine r_p (p_move rfl) rfl ?_
        refine r_p (p_idx_sl (j := k) Try.underlying42 t4 rfl rfl (hs_own (k := 2) rfl) (by first | rfl | omega) (by first | omega | (simp; done) | (simp; omega))) rfl ?_
        refine r_store_el (k := 2) (e' := false) t4 rfl rfl rfl (by intro _; rfl) (getD_get false (by omega)) rfl rfl ?_
        refine r_nil ?_
        refine r_region ?_
        refine r_p (p_move rfl) rfl ?_
        refine r_p (p_bin rfl rfl (b_add (by first | exact w_i64 (by omega) (by omega) | rfl))) rfl ?_
        refine r_p (p_assign rfl) rfl ?_
        refine r_nil ?_
        refine r_region ?_
        refine r_p (p_move rfl) rfl ?_
        refine r_p (p_bin rfl rfl (b_add (by first | exact w_i64 (by omega) (by omega) | rfl))) rfl ?_
        refine r_p (p_assign rfl) rfl ?_
        refine r_nil ?_
        have hs : (crN ql new (old, has, 0) (k + 1)) = ((crN ql new (old, has, 0) k).1, (crN ql new (old, has, 0) k).2.1.set k false, (crN ql new (old, has, 0) k).2.2 + 1) := by
          show stc ql new _ k = _
          unfold stc
          rw [if_pos hp2, if_neg hp3]
        refine r_here (k + 1) ⟨by omega, by omega⟩ (by rw [hs]; rfl) (by rw [hs]; rfl) rfl
  · (try simp only [decide_eq_true_eq, decide_eq_false_iff_not, Bool.and_eq_true, Bool.or_eq_true, Bool.and_eq_false_iff, Bool.or_eq_false_iff, Bool.not_eq_true, Bool.not_eq_false, Bool.not_eq_true', Bool.not_eq_false', Bool.not_not, bne_iff_ne, beq_iff_eq] at h1)
    have hk : k = old.length := by omega
    subst hk
    refine r_exit ?_
    refine r_seq ?_
    refine r_region ?_
    refine r_p (p_move rfl) rfl ?_
    refine r_p (p_nilCheck rfl) rfl ?_
    refine r_p (p_field0 fo44_3 rfl) rfl ?_
    refine r_store_row (k := 0) t4 rfl rfl rfl rfl rfl rfl rfl rfl ?_
    refine r_nil ?_
    refine r_region ?_
    refine r_p (p_move rfl) rfl ?_
    refine r_p (p_nilCheck rfl) rfl ?_
    refine r_p (p_field0 fo44_4 rfl) rfl ?_
    refine r_store_row (k := 0) t3 rfl rfl rfl rfl rfl rfl rfl rfl ?_
    refine r_nil ?_
    refine r_end () trivial rfl rs0 rfl [0, 1, 2] [] rfl rfl rfl
set_option maxHeartbeats 1000000 in
set_option maxRecDepth 100000 in
theorem rcrash_n (r : Nat) (vo vn vh : SV) (off : Bool) (left : Int) (old new : List ByteArray) (has : List Bool) (vq : SV) (ql : List Int) (h1 : new.length = old.length) (h2 : has.length = old.length) (hlen : old.length ≤ 65536) (hq : 0 < ql.length) :
    Spec Try.prog 26 [.pointer (some ⟨r, 0, none⟩), sv vq] [row r 44 (rC vo vn vh off left), own 9 1 eS (sv vo) old, own 4 1 eB (sv vh) has] [own 9 1 eS (sv vn) new, sl 1 eI (sv vq) ql] (X := Unit) (fun _ => True) (fun _ => .tuple #[]) (fun _ => [row r 44 (rC vo vn vh false (-1)), own 9 1 eS (sv vo) (crN ql new (old, has, 0) old.length).1, own 4 1 eB (sv vh) (crN ql new (old, has, 0) old.length).2.1]) (fun _ => []) := by
  refine r_enter Try.func26 rfl Try.ntmps26 rfl fun w0 M H => ?_
  refine r_more 0 0 rfl (fun w G h _ => ⟨G, own_to_sl w G h, fun _ hb => hb⟩) ?_
  refine r_seq ?_
  refine r_region ?_
  refine r_p (p_assign rfl) rfl ?_
  refine r_nil ?_
  refine r_seq ?_
  refine r_seq ?_
  refine r_region ?_
  refine r_p (p_assign rfl) rfl ?_
  refine r_nil ?_
  refine r_block ?_
  refine r_loop (X := Nat) (fun k => k ≤ old.length) (fun k => [(0, .pointer (some ⟨r, 0, none⟩)), (1, sv vq), (4, .int .i64 ((crN ql new (old, has, 0) k).2.2 : Int)), (5, .int .i64 (k : Int))]) (fun k => [(0, row r 44 (rC vo vn vh off left)), (1, own 9 1 eS (sv vo) (crN ql new (old, has, 0) k).1), (2, own 4 1 eB (sv vh) (crN ql new (old, has, 0) k).2.1)]) (fun k => [(0, sl 1 eS (sv vn) new), (1, sl 1 eI (sv vq) ql)]) (fun k => old.length - k) 0 (Nat.zero_le _) rfl rfl rfl (fun k hk0 => ?_)
  obtain ⟨hy1, hy2, hy3⟩ := crN_len ql new (old, has, 0) k
  dsimp only at hy1 hy2 hy3
  refine r_seq ?_
  refine r_seq ?_
  refine r_region ?_
  refine r_p (p_move rfl) rfl ?_
  refine r_p (p_move rfl) rfl ?_
  refine r_p (p_nilCheck rfl) rfl ?_
  refine r_p (p_field0 fo44_0 rfl) rfl ?_
  refine r_p (p_load1 t41 rfl rfl (g_row1 (k := 0) rfl rfl)) rfl ?_
  refine r_p (p_len_sl Try.underlying41 rfl (hs_own (k := 1) rfl)) rfl ?_
  refine r_p (p_bin rfl rfl b_lt) rfl ?_
  refine r_nil ?_
  refine r_cond rfl (fun h1 => ?_) (fun h1 => ?_)
  · (try simp only [decide_eq_true_eq, decide_eq_false_iff_not, Bool.and_eq_true, Bool.or_eq_true, Bool.and_eq_false_iff, Bool.or_eq_false_iff, Bool.not_eq_true, Bool.not_eq_false, Bool.not_eq_true', Bool.not_eq_false', Bool.not_not, bne_iff_ne, beq_iff_eq] at h1)
    have hk : k < old.length := by omega
    refine r_skip ?_
    refine r_seq ?_
    refine r_block ?_
    refine r_seq ?_
    refine r_seq ?_
    refine r_region ?_
    refine r_p (p_move rfl) rfl ?_
    refine r_p (p_nilCheck rfl) rfl ?_
    refine r_p (p_field0 fo44_2 rfl) rfl ?_
    refine r_p (p_load1 t42 rfl rfl (g_row1 (k := 0) rfl rfl)) rfl ?_
    refine r_p (p_move rfl) rfl ?_
    refine r_p (p_idx_sl (j := k) Try.underlying42 t4 rfl rfl (hs_own (k := 2) rfl) (by first | rfl | omega) (by first | omega | (simp; done) | (simp; omega))) rfl ?_
    refine r_p (p_load1 t4 rfl rfl (g_el' (hs_own (k := 2) rfl) (by intro _; rfl) (getD_get false (by omega)) (by rfl))) rfl ?_
    refine r_p (p_not rfl) rfl ?_
    refine r_nil ?_
    refine r_cond rfl (fun h2 => ?_) (fun h2 => ?_)
    · have hp2 : ¬ (crN ql new (old, has, 0) k).2.1.getD k false = true := by simpa using h2
      refine r_exit ?_
      refine r_region ?_
      refine r_p (p_move rfl) rfl ?_
      refine r_p (p_bin rfl rfl (b_add (by first | exact w_i64 (by omega) (by omega) | rfl))) rfl ?_
      refine r_p (p_assign rfl) rfl ?_
      refine r_nil ?_
      have hs : (crN ql new (old, has, 0) (k + 1)) = (crN ql new (old, has, 0) k) := by
        show stc ql new _ k = _
        unfold stc
        rw [if_neg hp2]
      refine r_here (k + 1) ⟨by omega, by omega⟩ (by rw [hs]; rfl) (by rw [hs]; rfl) rfl
    · have hp2 : (crN ql new (old, has, 0) k).2.1.getD k false = true := by simpa using h2
      refine r_skip ?_
      refine r_seq ?_
      refine r_seq ?_
      refine r_region ?_
      refine r_p (p_move rfl) rfl ?_
      refine r_p (p_len_sl Try.underlying28 rfl (hs_sl (k := 1) rfl)) rfl ?_
      refine r_p (p_bin rfl rfl b_gt) rfl ?_
      refine r_p (p_move rfl) rfl ?_
      refine r_split (t := 26) rfl (fun h3 => ?_) (fun h3 => False.elim (by have := of_decide_eq_false h3; omega))
      refine r_gyes rfl rfl ?_
      refine r_p (p_move rfl) rfl ?_
      refine r_gyes rfl rfl ?_
      refine r_p (p_move rfl) rfl ?_
      refine r_gyes rfl rfl ?_
      refine r_p (p_move rfl) rfl ?_
      refine r_gyes rfl rfl ?_
      refine r_p (p_len_sl Try.underlying28 rfl (hs_sl (k := 1) rfl)) rfl ?_
      refine r_gyes rfl rfl ?_
      refine r_p (p_bin rfl rfl (b_rem (by omega) (by first | exact tmod_pos (by omega) | rfl))) rfl ?_
      refine r_gyes rfl rfl ?_
      refine r_p (p_idx_sl (j := ((crN ql new (old, has, 0) k).2.2 % ql.length)) Try.underlying28 t3 rfl rfl (hs_sl (k := 1) rfl) (by rw [Int.natCast_emod]) (Nat.mod_lt _ hq)) rfl ?_
      refine r_gyes rfl rfl ?_
      refine r_p (p_load1 t3 rfl rfl (g_el' (hs_sl (k := 1) rfl) (by intro _; rfl) (getD_get 0 (Nat.mod_lt _ hq)) (by rfl))) rfl ?_
      refine r_gyes rfl rfl ?_
      refine r_p (p_bin rfl rfl (b_and rfl)) rfl ?_
      refine r_gyes rfl rfl ?_
      refine r_p (p_bin rfl rfl b_eq) rfl ?_
      refine r_p (p_pick rfl rfl rfl (by first | exact pick_and | exact pick_or |  rfl)) rfl ?_
      refine r_nil ?_
      refine r_cond rfl (fun h4 => ?_) (fun h4 => ?_)
      · have hp3 : crB ql (crN ql new (old, has, 0) k).2.2 = true := by unfold crB; rw [decide_eq_true hq]; simpa using h4
        refine r_draw [37, 38, 39, 40, 41, 42, 43, 44, 45, 46, 47, 48, 49] _ rfl (stg_mem0 (V := [(0, 37, _), (1, 38, _), (2, 39, _), (3, 40, _), (4, 41, _), (5, 42, _), (6, 43, _), (7, 44, _), (8, 45, _), (9, 46, _), (10, 47, _), (11, 48, _), (12, 49, _)]) [0, 1, 2, 3, 4, 5, 6, 7, 8, 9, 10, 11, 12] 13 [13, 12, 11, 10, 9, 8, 7, 6, 5, 4, 3, 2, 1, 0] [] (fun _ => []) rfl rfl (prs_cons (pri rfl (p_move rfl)) (prs_cons (pri rfl (p_nilCheck rfl)) (prs_cons (pri rfl (p_field0 fo44_0 rfl)) (prs_cons (pri rfl (p_load1 t41 rfl rfl (g_row1 (k := 0) rfl rfl))) (prs_cons (pri rfl (p_move rfl)) (prs_cons (pri rfl (p_move rfl)) (prs_cons (pri rfl (p_nilCheck rfl)) (prs_cons (pri rfl (p_field0 fo44_1 rfl)) (prs_cons (pri rfl (p_load1 t41 rfl rfl (g_row1 (k := 0) rfl rfl))) (prs_cons (pri rfl (p_move rfl)) (prs_cons (pri rfl (p_idx_sl (j := k) Try.underlying41 t9 rfl rfl (hs_sl (k := 0) rfl) (by first | rfl | omega) (by first | omega | (simp; done) | (simp; omega)))) (prs_cons (pri rfl (p_load1 t9 rfl rfl (g_el' (hs_sl (k := 0) rfl) (by intro _; rfl) (getD_get ByteArray.empty (by omega)) (by rfl)))) (prs_cons (pri rfl (p_idx_sl (j := k) Try.underlying41 t9 rfl rfl (hs_own (k := 1) rfl) (by first | rfl | omega) (by first | omega | (simp; done) | (simp; omega)))) prs_nil))))))))))))) rfl rfl rfl rfl rfl rfl rfl rfl rfl (fun _ _ => rfl) rfl (ms_store_el (k := 1) (e' := (new.getD k ByteArray.empty)) t9 rfl rfl rfl (by intro _; rfl) (getD_get ByteArray.empty (by omega)) rfl rfl) (fun _ _ => stg_end [] rfl rfl prs_nil rfl rfl rfl ?_))
        refine r_seq ?_
        refine r_region ?_
        refine r_p (p_move rfl) rfl ?_
        refine r_p (p_nilCheck rfl) rfl ?_
        refine r_p (p_field0 fo44_2 rfl) rfl ?_
        refine r_p (p_load1 t42 rfl rfl (g_row1 (k := 0) rfl rfl)) rfl ?_
        refine r_p (p_move rfl) rfl ?_
        refine r_p (p_idx_sl (j := k) Try.underlying42 t4 rfl rfl (hs_own (k := 2) rfl) (by first | rfl | omega) (by first | omega | (simp; done) | (simp; omega))) rfl ?_
        refine r_store_el (k := 2) (e' := false) t4 rfl rfl rfl (by intro _; rfl) (getD_get false (by omega)) rfl rfl ?_
        refine r_nil ?_
        refine r_region ?_
        refine r_p (p_move rfl) rfl ?_
        refine r_p (p_bin rfl rfl (b_add (by first | exact w_i64 (by omega) (by omega) | rfl))) rfl ?_
        refine r_p (p_assign rfl) rfl ?_
        refine r_nil ?_
        refine r_region ?_
        refine r_p (p_move rfl) rfl ?_
        refine r_p (p_bin rfl rfl (b_add (by first | exact w_i64 (by omega) (by omega) | rfl))) rfl ?_
        refine r_p (p_assign rfl) rfl ?_
        refine r_nil ?_
        have hs : (crN ql new (old, has, 0) (k + 1)) = ((crN ql new (old, has, 0) k).1.set k (new.getD k ByteArray.empty), (crN ql new (old, has, 0) k).2.1.set k false, (crN ql new (old, has, 0) k).2.2 + 1) := by
          show stc ql new _ k = _
          unfold stc
          rw [if_pos hp2, if_pos hp3]
        refine r_here (k + 1) ⟨by omega, by omega⟩ (by rw [hs]; rfl) (by rw [hs]; rfl) rfl
      · have hp3 : ¬ crB ql (crN ql new (old, has, 0) k).2.2 = true := by unfold crB; rw [decide_eq_true hq]; simpa using h4
        refine r_skip ?_
        refine r_seq ?_
        refine r_region ?_
        refine r_p (p_move rfl) rfl ?_
        refine r_p (p_nilCheck rfl) rfl ?_
        refine r_p (p_field0 fo44_2 rfl) rfl ?_
        refine r_p (p_load1 t42 rfl rfl (g_row1 (k := 0) rfl rfl)) rfl ?_
        refine r_p (p_move rfl) rfl ?_
        refine r_p (p_idx_sl (j := k) Try.underlying42 t4 rfl rfl (hs_own (k := 2) rfl) (by first | rfl | omega) (by first | omega | (simp; done) | (simp; omega))) rfl ?_
        refine r_store_el (k := 2) (e' := false) t4 rfl rfl rfl (by intro _; rfl) (getD_get false (by omega)) rfl rfl ?_
        refine r_nil ?_
        refine r_region ?_
        refine r_p (p_move rfl) rfl ?_
        refine r_p (p_bin rfl rfl (b_add (by first | exact w_i64 (by omega) (by omega) | rfl))) rfl ?_
        refine r_p (p_assign rfl) rfl ?_
        refine r_nil ?_
        refine r_region ?_
        refine r_p (p_move rfl) rfl ?_
        refine r_p (p_bin rfl rfl (b_add (by first | exact w_i64 (by omega) (by omega) | rfl))) rfl ?_
        refine r_p (p_assign rfl) rfl ?_
        refine r_nil ?_
        have hs : (crN ql new (old, has, 0) (k + 1)) = ((crN ql new (old, has, 0) k).1, (crN ql new (old, has, 0) k).2.1.set k false, (crN ql new (old, has, 0) k).2.2 + 1) := by
          show stc ql new _ k = _
          unfold stc
          rw [if_pos hp2, if_neg hp3]
        refine r_here (k + 1) ⟨by omega, by omega⟩ (by rw [hs]; rfl) (by rw [hs]; rfl) rfl
  · (try simp only [decide_eq_true_eq, decide_eq_false_iff_not, Bool.and_eq_true, Bool.or_eq_true, Bool.and_eq_false_iff, Bool.or_eq_false_iff, Bool.not_eq_true, Bool.not_eq_false, Bool.not_eq_true', Bool.not_eq_false', Bool.not_not, bne_iff_ne, beq_iff_eq] at h1)
    have hk : k = old.length := by omega
    subst hk
    refine r_exit ?_
    refine r_seq ?_
    refine r_region ?_
    refine r_p (p_move rfl) rfl ?_
    refine r_p (p_nilCheck rfl) rfl ?_
    refine r_p (p_field0 fo44_3 rfl) rfl ?_
    refine r_store_row (k := 0) t4 rfl rfl rfl rfl rfl rfl rfl rfl ?_
    refine r_nil ?_
    refine r_region ?_
    refine r_p (p_move rfl) rfl ?_
    refine r_p (p_nilCheck rfl) rfl ?_
    refine r_p (p_field0 fo44_4 rfl) rfl ?_
    refine r_store_row (k := 0) t3 rfl rfl rfl rfl rfl rfl rfl rfl ?_
    refine r_nil ?_
    refine r_end () trivial rfl rs0 rfl [0, 1, 2] [] rfl rfl rfl

end Go.Proofs.Ytohenjmkhncoiaa
