/-
  The disk: a crash. No condition.
-/
import Derived.Test.YtohenjmkhncoiaaY8
namespace Go.Proofs.Ytohenjmkhncoiaa
set_option linter.unusedSimpArgs false
set_option linter.unusedVariables false
open Go.RowKit

theorem fmf {α : Type} {p : α → Bool} (ms : List (α × Nat)) : (ms.filter fun m => p m.1).map (·.1) = (ms.map (·.1)).filter p := by
  rw [List.filter_map]
  rfl
/-- One sector of a crash, of the disk. -/
def std (q : List Int) (x : List ByteArray × List (Int × ByteArray) × Nat) (k : Nat) : List ByteArray × List (Int × ByteArray) × Nat :=
  match x.2.1.find? (fun p => decide (p.1 = (k : Int))) with
  | none => x
  | some p => (if crB q x.2.2 = true then x.1.set k p.2 else x.1, x.2.1.filter (fun p => decide (p.1 ≠ (k : Int))), x.2.2 + 1)
def sdN (q : List Int) (x : List ByteArray × List (Int × ByteArray) × Nat) : Nat → List ByteArray × List (Int × ByteArray) × Nat
  | 0 => x
  | k + 1 => std q (sdN q x k) k
theorem sdN_len (q : List Int) (x : List ByteArray × List (Int × ByteArray) × Nat) : ∀ k, (sdN q x k).1.length = x.1.length ∧ (sdN q x k).2.2 ≤ x.2.2 + k
  | 0 => ⟨rfl, Nat.le_refl _⟩
  | k + 1 => by
    obtain ⟨h1, h3⟩ := sdN_len q x k
    show (std q (sdN q x k) k).1.length = _ ∧ (std q (sdN q x k) k).2.2 ≤ _
    unfold std
    split
    · exact ⟨h1, by omega⟩
    · refine ⟨?_, by dsimp only; omega⟩
      dsimp only
      split
      · rw [List.length_set]; exact h1
      · exact h1

set_option maxHeartbeats 1000000 in
set_option maxRecDepth 100000 in
theorem crash_e (D : Nat) (v : SV) (m : Nat) (off armed : Bool) (left : Int) (dur : List ByteArray) (fr : List (Int × ByteArray)) (vq : SV) (ql : List Int) (hlen : dur.length ≤ 65536) (hq : ¬ 0 < ql.length) :
    Spec Try.prog 25 [.pointer (some ⟨D, 0, none⟩), sv vq] [row D 94 (dC v (some m) off armed left), mp mkI Prod.fst vS (some m) fr, own 9 1 eS (sv v) dur] [sl 1 eI (sv vq) ql] (X := Unit) (fun _ => True) (fun _ => .tuple #[]) (fun _ => [row D 94 (dC v (some m) false false left), mp mkI Prod.fst vS (some m) (sdN ql (dur, fr, 0) dur.length).2.1, own 9 1 eS (sv v) (sdN ql (dur, fr, 0) dur.length).1]) (fun _ => []) := by
  refine r_enter Try.func25 rfl Try.ntmps25 rfl fun w0 M H => ?_
  refine r_seq ?_
  refine r_seq ?_
  refine r_region ?_
  refine r_p (p_move rfl) rfl ?_
  refine r_p (p_bin rfl rfl (b_eqPn Try.underlying24)) rfl ?_
  refine r_nil ?_
  refine r_cond rfl (fun h1 => ?_) (fun h1 => ?_)
  · exact absurd h1 (by simp)
  · (try simp only [decide_eq_true_eq, decide_eq_false_iff_not, Bool.and_eq_true, Bool.or_eq_true, Bool.and_eq_false_iff, Bool.or_eq_false_iff, Bool.not_eq_true, Bool.not_eq_false, Bool.not_eq_true', Bool.not_eq_false', Bool.not_not, bne_iff_ne, beq_iff_eq] at h1)
    refine r_skip ?_
    refine r_seq ?_
    refine r_region ?_
    refine r_p (p_assign rfl) rfl ?_
    refine r_nil ?_
    refine r_seq ?_
    refine r_seq ?_
    refine r_region ?_
    refine r_p (p_move rfl) rfl ?_
    refine r_p (p_nilCheck rfl) rfl ?_
    refine r_p (p_field0 fo94_0 rfl) rfl ?_
    refine r_p (p_load1 t41 rfl rfl (g_row1 (k := 0) rfl rfl)) rfl ?_
    refine r_p (p_len_sl Try.underlying41 rfl (hs_own (k := 2) rfl)) rfl ?_
    refine r_p (p_move rfl) rfl ?_
    refine r_nil ?_
    refine r_block ?_
    refine r_loop (X := Nat) (fun k => k ≤ dur.length) (fun k => [(0, .pointer (some ⟨D, 0, none⟩)), (1, sv vq), (4, .int .i64 ((sdN ql (dur, fr, 0) k).2.2 : Int)), (14, .int .i64 (dur.length : Int)), (15, .int .i64 (k : Int))]) (fun k => [(0, row D 94 (dC v (some m) off armed left)), (1, mp mkI Prod.fst vS (some m) (sdN ql (dur, fr, 0) k).2.1), (2, own 9 1 eS (sv v) (sdN ql (dur, fr, 0) k).1)]) (fun k => [(0, sl 1 eI (sv vq) ql)]) (fun k => dur.length - k) 0 (Nat.zero_le _) rfl rfl rfl (fun k hk0 => ?_)
    obtain ⟨hy1, hy3⟩ := sdN_len ql (dur, fr, 0) k
    dsimp only at hy1 hy3
    obtain ⟨r, hr⟩ : ∃ r, (sdN ql (dur, fr, 0) k).2.1.find? (fun p => decide (p.1 = (k : Int))) = r := ⟨_, rfl⟩
    refine r_seq ?_
    refine r_region ?_
    refine r_p (p_bin rfl rfl b_lt) rfl ?_
    refine r_nil ?_
    refine r_seq ?_
    refine r_cond rfl (fun h2 => ?_) (fun h2 => ?_)
    · (try simp only [decide_eq_true_eq, decide_eq_false_iff_not, Bool.and_eq_true, Bool.or_eq_true, Bool.and_eq_false_iff, Bool.or_eq_false_iff, Bool.not_eq_true, Bool.not_eq_false, Bool.not_eq_true', Bool.not_eq_false', Bool.not_not, bne_iff_ne, beq_iff_eq] at h2)
      have hk : k < dur.length := by omega
      refine r_skip ?_
      refine r_seq ?_
      refine r_block ?_
      refine r_seq ?_
      refine r_region ?_
      refine r_p (p_move rfl) rfl ?_
      refine r_p (p_assign rfl) rfl ?_
      refine r_nil ?_
      refine r_seq ?_
      refine r_region ?_
      refine r_p (p_move rfl) rfl ?_
      refine r_p (p_nilCheck rfl) rfl ?_
      refine r_p (p_field0 fo94_1 rfl) rfl ?_
      refine r_p (p_load1 t92 rfl rfl (g_row1 (k := 0) rfl rfl)) rfl ?_
      refine r_p (p_move rfl) rfl ?_
      refine r_p (p_lookup Try.underlying92 keyI t9 rfl rfl (hm_own (k := 1) rfl) hr) rfl ?_
      refine r_p (p_move rfl) rfl ?_
      refine r_p (p_extract rfl rfl) rfl ?_
      refine r_p (p_extract rfl rfl) rfl ?_
      refine r_p (p_assign rfl) rfl ?_
      refine r_p (p_assign rfl) rfl ?_
      refine r_nil ?_
      refine r_seq ?_
      refine r_seq ?_
      refine r_region ?_
      refine r_p (p_move rfl) rfl ?_
      refine r_p (p_not rfl) rfl ?_
      refine r_nil ?_
      refine r_cond rfl (fun h3 => ?_) (fun h3 => ?_)
      · have hrn : r = none := by simpa using h3
        subst hrn
        refine r_exit ?_
        refine r_region ?_
        refine r_p (p_bin rfl rfl (b_add (by first | exact w_i64 (by omega) (by omega) | rfl))) rfl ?_
        refine r_p (p_move rfl) rfl ?_
        refine r_nil ?_
        have hs : (sdN ql (dur, fr, 0) (k + 1)) = (sdN ql (dur, fr, 0) k) := by
          show std ql _ k = _
          unfold std
          rw [hr]
        refine r_here (k + 1) ⟨by omega, by omega⟩ (by rw [hs]; rfl) (by rw [hs]; rfl) rfl
      · obtain ⟨p, hrp⟩ : ∃ p, r = some p := Option.isSome_iff_exists.1 (by simpa using h3)
        subst hrp
        refine r_skip ?_
        refine r_seq ?_
        refine r_seq ?_
        refine r_region ?_
        refine r_p (p_move rfl) rfl ?_
        refine r_p (p_len_sl Try.underlying28 rfl (hs_sl (k := 0) rfl)) rfl ?_
        refine r_p (p_bin rfl rfl b_gt) rfl ?_
        refine r_p (p_move rfl) rfl ?_
        refine r_split (t := 32) rfl (fun h4 => False.elim (by have := of_decide_eq_true h4; omega)) (fun h4 => ?_)
        refine r_gno rfl rfl rfl rfl ?_
        refine r_gno rfl rfl rfl rfl ?_
        refine r_gno rfl rfl rfl rfl ?_
        refine r_gno rfl rfl rfl rfl ?_
        refine r_gno rfl rfl rfl rfl ?_
        refine r_gno rfl rfl rfl rfl ?_
        refine r_gno rfl rfl rfl rfl ?_
        refine r_gno rfl rfl rfl rfl ?_
        refine r_gno rfl rfl rfl rfl ?_
        refine r_p (p_pick rfl rfl rfl (by first | exact pick_and | exact pick_or |  rfl)) rfl ?_
        refine r_nil ?_
        refine r_cond rfl (fun h5 => ?_) (fun h5 => ?_)
        · have hp3 : crB ql (sdN ql (dur, fr, 0) k).2.2 = true := by unfold crB; simp at h5
          refine r_region ?_
          refine r_p (p_move rfl) rfl ?_
          refine r_p (p_nilCheck rfl) rfl ?_
          refine r_p (p_field0 fo94_0 rfl) rfl ?_
          refine r_p (p_load1 t41 rfl rfl (g_row1 (k := 0) rfl rfl)) rfl ?_
          refine r_p (p_move rfl) rfl ?_
          refine r_p (p_move rfl) rfl ?_
          refine r_p (p_idx_sl (j := k) Try.underlying41 t9 rfl rfl (hs_own (k := 2) rfl) (by first | rfl | omega) (by first | omega | (simp; done) | (simp; omega))) rfl ?_
          refine r_store_el (k := 2) (e' := p.2) t9 rfl rfl rfl (by intro _; rfl) (getD_get ByteArray.empty (by omega)) rfl rfl ?_
          refine r_nil ?_
          refine r_seq ?_
          refine r_region ?_
          refine r_p (p_move rfl) rfl ?_
          refine r_p (p_nilCheck rfl) rfl ?_
          refine r_p (p_field0 fo94_1 rfl) rfl ?_
          refine r_p (p_load1 t92 rfl rfl (g_row1 (k := 0) rfl rfl)) rfl ?_
          refine r_p (p_move rfl) rfl ?_
          refine r_mpo 1 rfl (fun ms clk hpm hW => ?_)
          refine r_ms0 (ms_deleteS (kn := 1) Try.underlying92 keyI (k := (k : Int)) rfl rfl rfl) fun _ _ => ?_
          refine r_conva (k := 1) rfl (mps_mp (L := (sdN ql (dur, fr, 0) k).2.1.filter fun p => decide (p.1 ≠ (k : Int))) (by rw [fmf (p := fun p : Int × ByteArray => decide (p.1 ≠ (k : Int)))]; exact hpm.filter _)) ?_
          refine r_nil ?_
          refine r_region ?_
          refine r_p (p_move rfl) rfl ?_
          refine r_p (p_bin rfl rfl (b_add (by first | exact w_i64 (by omega) (by omega) | rfl))) rfl ?_
          refine r_p (p_assign rfl) rfl ?_
          refine r_nil ?_
          refine r_region ?_
          refine r_p (p_bin rfl rfl (b_add (by first | exact w_i64 (by omega) (by omega) | rfl))) rfl ?_
          refine r_p (p_move rfl) rfl ?_
          refine r_nil ?_
          have hs : (sdN ql (dur, fr, 0) (k + 1)) = ((sdN ql (dur, fr, 0) k).1.set k p.2, (sdN ql (dur, fr, 0) k).2.1.filter (fun p => decide (p.1 ≠ (k : Int))), (sdN ql (dur, fr, 0) k).2.2 + 1) := by
            show std ql _ k = _
            unfold std
            rw [hr]
            dsimp only
            rw [if_pos hp3]
          refine r_here (k + 1) ⟨by omega, by omega⟩ (by rw [hs]; rfl) (by rw [hs]; rfl) rfl
        · have hp3 : ¬ crB ql (sdN ql (dur, fr, 0) k).2.2 = true := by unfold crB; rw [decide_eq_false hq]; simp
          refine r_skip ?_
          refine r_seq ?_
          refine r_region ?_
          refine r_p (p_move rfl) rfl ?_
          refine r_p (p_nilCheck rfl) rfl ?_
          refine r_p (p_field0 fo94_1 rfl) rfl ?_
          refine r_p (p_load1 t92 rfl rfl (g_row1 (k := 0) rfl rfl)) rfl ?_
          refine r_p (p_move rfl) rfl ?_
          refine r_mpo 1 rfl (fun ms clk hpm hW => ?_)
          refine r_ms0 (ms_deleteS (kn := 1) Try.underlying92 keyI (k := (k : Int)) rfl rfl rfl) fun _ _ => ?_
          refine r_conva (k := 1) rfl (mps_mp (L := (sdN ql (dur, fr, 0) k).2.1.filter fun p => decide (p.1 ≠ (k : Int))) (by rw [fmf (p := fun p : Int × ByteArray => decide (p.1 ≠ (k : Int)))]; exact hpm.filter _)) ?_
          refine r_nil ?_
          refine r_region ?_
          refine r_p (p_move rfl) rfl ?_
          refine r_p (p_bin rfl rfl (b_add (by first | exact w_i64 (by omega) (by omega) | rfl))) rfl ?_
          refine r_p (p_assign rfl) rfl ?_
          refine r_nil ?_
          refine r_region ?_
          refine r_p (p_bin rfl rfl (b_add (by first | exact w_i64 (by omega) (by omega) | rfl))) rfl ?_
          refine r_p (p_move rfl) rfl ?_
          refine r_nil ?_
          have hs : (sdN ql (dur, fr, 0) (k + 1)) = ((sdN ql (dur, fr, 0) k).1, (sdN ql (dur, fr, 0) k).2.1.filter (fun p => decide (p.1 ≠ (k : Int))), (sdN ql (dur, fr, 0) k).2.2 + 1) := by
            show std ql _ k = _
            unfold std
            rw [hr]
            dsimp only
            rw [if_neg hp3]
          refine r_here (k + 1) ⟨by omega, by omega⟩ (by rw [hs]; rfl) (by rw [hs]; rfl) rfl
    · (try simp only [decide_eq_true_eq, decide_eq_false_iff_not, Bool.and_eq_true, Bool.or_eq_true, Bool.and_eq_false_iff, Bool.or_eq_false_iff, Bool.not_eq_true, Bool.not_eq_false, Bool.not_eq_true', Bool.not_eq_false', Bool.not_not, bne_iff_ne, beq_iff_eq] at h2)
      have hk : k = dur.length := by omega
      subst hk
      refine r_exit ?_
      refine r_region ?_
      refine r_p (p_move rfl) rfl ?_
      refine r_p (p_move rfl) rfl ?_
      refine r_p (p_nilCheck rfl) rfl ?_
      refine r_p (p_field0 fo94_2 rfl) rfl ?_
      refine r_store_row (k := 0) t4 rfl rfl rfl rfl rfl rfl rfl rfl ?_
      refine r_p (p_nilCheck rfl) rfl ?_
      refine r_p (p_field0 fo94_3 rfl) rfl ?_
      refine r_store_row (k := 0) t4 rfl rfl rfl rfl rfl rfl rfl rfl ?_
      refine r_nil ?_
      refine r_end () trivial rfl rs0 rfl [0, 1, 2] [] rfl rfl rfl
set_option maxHeartbeats 1000000 in
set_option maxRecDepth 100000 in
theorem crash_n (D : Nat) (v : SV) (m : Nat) (off armed : Bool) (left : Int) (dur : List ByteArray) (fr : List (Int × ByteArray)) (vq : SV) (ql : List Int) (hlen : dur.length ≤ 65536) (hq : 0 < ql.length) :
    Spec Try.prog 25 [.pointer (some ⟨D, 0, none⟩), sv vq] [row D 94 (dC v (some m) off armed left), mp mkI Prod.fst vS (some m) fr, own 9 1 eS (sv v) dur] [sl 1 eI (sv vq) ql] (X := Unit) (fun _ => True) (fun _ => .tuple #[]) (fun _ => [row D 94 (dC v (some m) false false left), mp mkI Prod.fst vS (some m) (sdN ql (dur, fr, 0) dur.length).2.1, own 9 1 eS (sv v) (sdN ql (dur, fr, 0) dur.length).1]) (fun _ => []) := by
  refine r_enter Try.func25 rfl Try.ntmps25 rfl fun w0 M H => ?_
  refine r_seq ?_
  refine r_seq ?_
  refine r_region ?_
  refine r_p (p_move rfl) rfl ?_
  refine r_p (p_bin rfl rfl (b_eqPn Try.underlying24)) rfl ?_
  refine r_nil ?_
  refine r_cond rfl (fun h1 => ?_) (fun h1 => ?_)
  · exact absurd h1 (by simp)
  · (try simp only [decide_eq_true_eq, decide_eq_false_iff_not, Bool.and_eq_true, Bool.or_eq_true, Bool.and_eq_false_iff, Bool.or_eq_false_iff, Bool.not_eq_true, Bool.not_eq_false, Bool.not_eq_true', Bool.not_eq_false', Bool.not_not, bne_iff_ne, beq_iff_eq] at h1)
    refine r_skip ?_
    refine r_seq ?_
    refine r_region ?_
    refine r_p (p_assign rfl) rfl ?_
    refine r_nil ?_
    refine r_seq ?_
    refine r_seq ?_
    refine r_region ?_
    refine r_p (p_move rfl) rfl ?_
    refine r_p (p_nilCheck rfl) rfl ?_
    refine r_p (p_field0 fo94_0 rfl) rfl ?_
    refine r_p (p_load1 t41 rfl rfl (g_row1 (k := 0) rfl rfl)) rfl ?_
    refine r_p (p_len_sl Try.underlying41 rfl (hs_own (k := 2) rfl)) rfl ?_
    refine r_p (p_move rfl) rfl ?_
    refine r_nil ?_
    refine r_block ?_
    refine r_loop (X := Nat) (fun k => k ≤ dur.length) (fun k => [(0, .pointer (some ⟨D, 0, none⟩)), (1, sv vq), (4, .int .i64 ((sdN ql (dur, fr, 0) k).2.2 : Int)), (14, .int .i64 (dur.length : Int)), (15, .int .i64 (k : Int))]) (fun k => [(0, row D 94 (dC v (some m) off armed left)), (1, mp mkI Prod.fst vS (some m) (sdN ql (dur, fr, 0) k).2.1), (2, own 9 1 eS (sv v) (sdN ql (dur, fr, 0) k).1)]) (fun k => [(0, sl 1 eI (sv vq) ql)]) (fun k => dur.length - k) 0 (Nat.zero_le _) rfl rfl rfl (fun k hk0 => ?_)
    obtain ⟨hy1, hy3⟩ := sdN_len ql (dur, fr, 0) k
    dsimp only at hy1 hy3
    obtain ⟨r, hr⟩ : ∃ r, (sdN ql (dur, fr, 0) k).2.1.find? (fun p => decide (p.1 = (k : Int))) = r := ⟨_, rfl⟩
    refine r_seq ?_
    refine r_region ?_
    refine r_p (p_bin rfl rfl b_lt) rfl ?_
    refine r_nil ?_
    refine r_seq ?_
    refine r_cond rfl (fun h2 => ?_) (fun h2 => ?_)
    · (try simp only [decide_eq_true_eq, decide_eq_false_iff_not, Bool.and_eq_true, Bool.or_eq_true, Bool.and_eq_false_iff, Bool.or_eq_false_iff, Bool.not_eq_true, Bool.not_eq_false, Bool.not_eq_true', Bool.not_eq_false', Bool.not_not, bne_iff_ne, beq_iff_eq] at h2)
      have hk : k < dur.length := by omega
      refine r_skip ?_
      refine r_seq ?_
      refine r_block ?_
      refine r_seq ?_
      refine r_region ?_
      refine r_p (p_move rfl) rfl ?_
      refine r_p (p_assign rfl) rfl ?_
      refine r_nil ?_
      refine r_seq ?_
      refine r_region ?_
      refine r_p (p_move rfl) rfl ?_
      refine r_p (p_nilCheck rfl) rfl ?_
      refine r_p (p_field0 fo94_1 rfl) rfl ?_
      refine r_p (p_load1 t92 rfl rfl (g_row1 (k := 0) rfl rfl)) rfl ?_
      refine r_p (p_move rfl) rfl ?_
      refine r_p (p_lookup Try.underlying92 keyI t9 rfl rfl (hm_own (k := 1) rfl) hr) rfl ?_
      refine r_p (p_move rfl) rfl ?_
      refine r_p (p_extract rfl rfl) rfl ?_
      refine r_p (p_extract rfl rfl) rfl ?_
      refine r_p (p_assign rfl) rfl ?_
      refine r_p (p_assign rfl) rfl ?_
      refine r_nil ?_
      refine r_seq ?_
      refine r_seq ?_
      refine r_region ?_
      refine r_p (p_move rfl) rfl ?_
      refine r_p (p_not rfl) rfl ?_
      refine r_nil ?_
      refine r_cond rfl (fun h3 => ?_) (fun h3 => ?_)
      · have hrn : r = none := by simpa using h3
        subst hrn
        refine r_exit ?_
        refine r_region ?_
        refine r_p (p_bin rfl rfl (b_add (by first | exact w_i64 (by omega) (by omega) | rfl))) rfl ?_
        refine r_p (p_move rfl) rfl ?_
        refine r_nil ?_
        have hs : (sdN ql (dur, fr, 0) (k + 1)) = (sdN ql (dur, fr, 0) k) := by
          show std ql _ k = _
          unfold std
          rw [hr]
        refine r_here (k + 1) ⟨by omega, by omega⟩ (by rw [hs]; rfl) (by rw [hs]; rfl) rfl
      · obtain ⟨p, hrp⟩ : ∃ p, r = some p := Option.isSome_iff_exists.1 (by simpa using h3)
        subst hrp
        refine r_skip ?_
        refine r_seq ?_
        refine r_seq ?_
        refine r_region ?_
        refine r_p (p_move rfl) rfl ?_
        refine r_p (p_len_sl Try.underlying28 rfl (hs_sl (k := 0) rfl)) rfl ?_
        refine r_p (p_bin rfl rfl b_gt) rfl ?_
        refine r_p (p_move rfl) rfl ?_
        refine r_split (t := 32) rfl (fun h4 => ?_) (fun h4 => False.elim (by have := of_decide_eq_false h4; omega))
        refine r_gyes rfl rfl ?_
        refine r_p (p_move rfl) rfl ?_
        refine r_gyes rfl rfl ?_
        refine r_p (p_move rfl) rfl ?_
        refine r_gyes rfl rfl ?_
        refine r_p (p_move rfl) rfl ?_
        refine r_gyes rfl rfl ?_
        refine r_p (p_len_sl Try.underlying28 rfl (hs_sl (k := 0) rfl)) rfl ?_
        refine r_gyes rfl rfl ?_
        refine r_p (p_bin rfl rfl (b_rem (by omega) (by first | exact tmod_pos (by omega) | rfl))) rfl ?_
        refine r_gyes rfl rfl ?_
        refine r_p (p_idx_sl (j := ((sdN ql (dur, fr, 0) k).2.2 % ql.length)) Try.underlying28 t3 rfl rfl (hs_sl (k := 0) rfl) (by rw [Int.natCast_emod]) (Nat.mod_lt _ hq)) rfl ?_
        refine r_gyes rfl rfl ?_
        refine r_p (p_load1 t3 rfl rfl (g_el' (hs_sl (k := 0) rfl) (by intro _; rfl) (getD_get 0 (Nat.mod_lt _ hq)) (by rfl))) rfl ?_
        refine r_gyes rfl rfl ?_
        refine r_p (p_bin rfl rfl (b_and rfl)) rfl ?_
        refine r_gyes rfl rfl ?_
        refine r_p (p_bin rfl rfl b_eq) rfl ?_
        refine r_p (p_pick rfl rfl rfl (by first | exact pick_and | exact pick_or |  rfl)) rfl ?_
        refine r_nil ?_
        refine r_cond rfl (fun h5 => ?_) (fun h5 => ?_)
        · have hp3 : crB ql (sdN ql (dur, fr, 0) k).2.2 = true := by unfold crB; rw [decide_eq_true hq]; simpa using h5
          refine r_region ?_
          refine r_p (p_move rfl) rfl ?_
          refine r_p (p_nilCheck rfl) rfl ?_
          refine r_p (p_field0 fo94_0 rfl) rfl ?_
          refine r_p (p_load1 t41 rfl rfl (g_row1 (k := 0) rfl rfl)) rfl ?_
          refine r_p (p_move rfl) rfl ?_
          refine r_p (p_move rfl) rfl ?_
          refine r_p (p_idx_sl (j := k) Try.underlying41 t9 rfl rfl (hs_own (k := 2) rfl) (by first | rfl | omega) (by first | omega | (simp; done) | (simp; omega))) rfl ?_
          refine r_store_el (k := 2) (e' := p.2) t9 rfl rfl rfl (by intro _; rfl) (getD_get ByteArray.empty (by omega)) rfl rfl ?_
          refine r_nil ?_
          refine r_seq ?_
          refine r_region ?_
          refine r_p (p_move rfl) rfl ?_
          refine r_p (p_nilCheck rfl) rfl ?_
          refine r_p (p_field0 fo94_1 rfl) rfl ?_
          refine r_p (p_load1 t92 rfl rfl (g_row1 (k := 0) rfl rfl)) rfl ?_
          refine r_p (p_move rfl) rfl ?_
          refine r_mpo 1 rfl (fun ms clk hpm hW => ?_)
          refine r_ms0 (ms_deleteS (kn := 1) Try.underlying92 keyI (k := (k : Int)) rfl rfl rfl) fun _ _ => ?_
          refine r_conva (k := 1) rfl (mps_mp (L := (sdN ql (dur, fr, 0) k).2.1.filter fun p => decide (p.1 ≠ (k : Int))) (by rw [fmf (p := fun p : Int × ByteArray => decide (p.1 ≠ (k : Int)))]; exact hpm.filter _)) ?_
          refine r_nil ?_
          refine r_region ?_
          refine r_p (p_move rfl) rfl ?_
          refine r_p (p_bin rfl rfl (b_add (by first | exact w_i64 (by omega) (by omega) | rfl))) rfl ?_
          refine r_p (p_assign rfl) rfl ?_
          refine r_nil ?_
          refine r_region ?_
          refine r_p (p_bin rfl rfl (b_add (by first | exact w_i64 (by omega) (by omega) | rfl))) rfl ?_
          refine r_p (p_move rfl) rfl ?_
          refine r_nil ?_
          have hs : (sdN ql (dur, fr, 0) (k + 1)) = ((sdN ql (dur, fr, 0) k).1.set k p.2, (sdN ql (dur, fr, 0) k).2.1.filter (fun p => decide (p.1 ≠ (k : Int))), (sdN ql (dur, fr, 0) k).2.2 + 1) := by
            show std ql _ k = _
            unfold std
            rw [hr]
            dsimp only
            rw [if_pos hp3]
          refine r_here (k + 1) ⟨by omega, by omega⟩ (by rw [hs]; rfl) (by rw [hs]; rfl) rfl
        · have hp3 : ¬ crB ql (sdN ql (dur, fr, 0) k).2.2 = true := by unfold crB; rw [decide_eq_true hq]; simpa using h5
          refine r_skip ?_
          refine r_seq ?_
          refine r_region ?_
          refine r_p (p_move rfl) rfl ?_
          refine r_p (p_nilCheck rfl) rfl ?_
          refine r_p (p_field0 fo94_1 rfl) rfl ?_
          refine r_p (p_load1 t92 rfl rfl (g_row1 (k := 0) rfl rfl)) rfl ?_
          refine r_p (p_move rfl) rfl ?_
          refine r_mpo 1 rfl (fun ms clk hpm hW => ?_)
          refine r_ms0 (ms_deleteS (kn := 1) Try.underlying92 keyI (k := (k : Int)) rfl rfl rfl) fun _ _ => ?_
          refine r_conva (k := 1) rfl (mps_mp (L := (sdN ql (dur, fr, 0) k).2.1.filter fun p => decide (p.1 ≠ (k : Int))) (by rw [fmf (p := fun p : Int × ByteArray => decide (p.1 ≠ (k : Int)))]; exact hpm.filter _)) ?_
          refine r_nil ?_
          refine r_region ?_
          refine r_p (p_move rfl) rfl ?_
          refine r_p (p_bin rfl rfl (b_add (by first | exact w_i64 (by omega) (by omega) | rfl))) rfl ?_
          refine r_p (p_assign rfl) rfl ?_
          refine r_nil ?_
          refine r_region ?_
          refine r_p (p_bin rfl rfl (b_add (by first | exact w_i64 (by omega) (by omega) | rfl))) rfl ?_
          refine r_p (p_move rfl) rfl ?_
          refine r_nil ?_
          have hs : (sdN ql (dur, fr, 0) (k + 1)) = ((sdN ql (dur, fr, 0) k).1, (sdN ql (dur, fr, 0) k).2.1.filter (fun p => decide (p.1 ≠ (k : Int))), (sdN ql (dur, fr, 0) k).2.2 + 1) := by
            show std ql _ k = _
            unfold std
            rw [hr]
            dsimp only
            rw [if_neg hp3]
          refine r_here (k + 1) ⟨by omega, by omega⟩ (by rw [hs]; rfl) (by rw [hs]; rfl) rfl
    · (try simp only [decide_eq_true_eq, decide_eq_false_iff_not, Bool.and_eq_true, Bool.or_eq_true, Bool.and_eq_false_iff, Bool.or_eq_false_iff, Bool.not_eq_true, Bool.not_eq_false, Bool.not_eq_true', Bool.not_eq_false', Bool.not_not, bne_iff_ne, beq_iff_eq] at h2)
      have hk : k = dur.length := by omega
      subst hk
      refine r_exit ?_
      refine r_region ?_
      refine r_p (p_move rfl) rfl ?_
      refine r_p (p_move rfl) rfl ?_
      refine r_p (p_nilCheck rfl) rfl ?_
      refine r_p (p_field0 fo94_2 rfl) rfl ?_
      refine r_store_row (k := 0) t4 rfl rfl rfl rfl rfl rfl rfl rfl ?_
      refine r_p (p_nilCheck rfl) rfl ?_
      refine r_p (p_field0 fo94_3 rfl) rfl ?_
      refine r_store_row (k := 0) t4 rfl rfl rfl rfl rfl rfl rfl rfl ?_
      refine r_nil ?_
      refine r_end () trivial rfl rs0 rfl [0, 1, 2] [] rfl rfl rfl
set_option maxRecDepth 100000 in
theorem crash_nil (vq : SV) :
    Spec Try.prog 25 [.pointer none, sv vq] [] [] (X := Unit) (fun _ => True) (fun _ => .tuple #[]) (fun _ => []) (fun _ => []) := by
  refine r_enter Try.func25 rfl Try.ntmps25 rfl fun w0 M H => ?_
  refine r_seq ?_
  refine r_seq ?_
  refine r_region ?_
  refine r_p (p_move rfl) rfl ?_
  refine r_p (p_bin rfl rfl (b_eqPn Try.underlying24)) rfl ?_
  refine r_nil ?_
  refine r_cond rfl (fun h1 => ?_) (fun h1 => ?_)
  · (try simp only [decide_eq_true_eq, decide_eq_false_iff_not, Bool.and_eq_true, Bool.or_eq_true, Bool.and_eq_false_iff, Bool.or_eq_false_iff, Bool.not_eq_true, Bool.not_eq_false, Bool.not_eq_true', Bool.not_eq_false', Bool.not_not, bne_iff_ne, beq_iff_eq] at h1)
    refine r_cret ?_
    refine r_ret () trivial rfl rs0 rfl [] [] rfl rfl rfl
  · exact absurd h1 (by simp)

end Go.Proofs.Ytohenjmkhncoiaa
