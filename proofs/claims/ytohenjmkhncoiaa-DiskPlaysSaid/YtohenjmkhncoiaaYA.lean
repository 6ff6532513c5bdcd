/-
  The disk: making durable. Condition: the sectors exist.
-/
import Derived.Test.YtohenjmkhncoiaaY9
import Derived.Test.YtohenjmkhncoiaaY0
namespace Go.Proofs.Ytohenjmkhncoiaa
set_option linter.unusedSimpArgs false
set_option linter.unusedVariables false
open Go.RowKit

/-- Sectors become durable, one after the other. -/
def putL (l : List (Int × ByteArray)) (dur : List ByteArray) : List ByteArray := l.foldl (fun d p => d.set p.1.toNat p.2) dur
theorem putL_len (l : List (Int × ByteArray)) : ∀ dur, (putL l dur).length = dur.length := by
  induction l with
  | nil => exact fun _ => rfl
  | cons a l ih => exact fun dur => (ih _).trans (List.length_set ..)
theorem putL_snoc (l : List (Int × ByteArray)) (p : Int × ByteArray) (dur : List ByteArray) : putL (l ++ [p]) dur = (putL l dur).set p.1.toNat p.2 := by
  unfold putL
  rw [List.foldl_append]
  rfl

set_option maxRecDepth 100000 in
theorem sync_nil  :
    Spec Try.prog 21 [.pointer none] [] [] (X := Unit) (fun _ => True) (fun _ => .int .i64 50) (fun _ => []) (fun _ => []) := by
  refine r_enter Try.func21 rfl Try.ntmps21 rfl fun w0 M H => ?_
  refine r_seq ?_
  refine r_region ?_
  refine r_p (p_assign rfl) rfl ?_
  refine r_nil ?_
  refine r_seq ?_
  refine r_seq ?_
  refine r_region ?_
  refine r_p (p_move rfl) rfl ?_
  refine r_p (p_bin rfl rfl (b_eqPn Try.underlying24)) rfl ?_
  refine r_p (p_move rfl) rfl ?_
  refine r_split (t := 7) rfl (fun h1 => ?_) (fun h1 => False.elim (by simp at h1))
  refine r_gno rfl rfl rfl rfl ?_
  refine r_gno rfl rfl rfl rfl ?_
  refine r_gno rfl rfl rfl rfl ?_
  refine r_gno rfl rfl rfl rfl ?_
  refine r_p (p_pick rfl rfl rfl (by first | exact pick_and | exact pick_or |  rfl)) rfl ?_
  refine r_p (p_move rfl) rfl ?_
  refine r_split (t := 13) rfl (fun h2 => ?_) (fun h2 => False.elim (by simp at h2))
  refine r_gno rfl rfl rfl rfl ?_
  refine r_gno rfl rfl rfl rfl ?_
  refine r_gno rfl rfl rfl rfl ?_
  refine r_p (p_pick rfl rfl rfl (by first | exact pick_and | exact pick_or |  rfl)) rfl ?_
  refine r_nil ?_
  refine r_cond rfl (fun h3 => ?_) (fun h3 => ?_)
  · (try simp only [decide_eq_true_eq, decide_eq_false_iff_not, Bool.and_eq_true, Bool.or_eq_true, Bool.and_eq_false_iff, Bool.or_eq_false_iff, Bool.not_eq_true, Bool.not_eq_false, Bool.not_eq_true', Bool.not_eq_false', Bool.not_not, bne_iff_ne, beq_iff_eq] at h3)
    refine r_seq ?_
    refine r_region ?_
    refine r_p (p_assign rfl) rfl ?_
    refine r_nil ?_
    refine r_cret ?_
    refine r_ret () trivial rfl (rs1 (rv_tmp rfl)) rfl [] [] rfl rfl rfl
  · exact absurd h3 (by simp)
set_option maxRecDepth 100000 in
theorem sync_off (D : Nat) (v : SV) (mb : Nat) (armed : Bool) (left : Int) :
    Spec Try.prog 21 [.pointer (some ⟨D, 0, none⟩)] [] [row D 94 (dC v (some mb) true armed left)] (X := Unit) (fun _ => True) (fun _ => .int .i64 50) (fun _ => []) (fun _ => []) := by
  refine r_enter Try.func21 rfl Try.ntmps21 rfl fun w0 M H => ?_
  refine r_seq ?_
  refine r_region ?_
  refine r_p (p_assign rfl) rfl ?_
  refine r_nil ?_
  refine r_seq ?_
  refine r_seq ?_
  refine r_region ?_
  refine r_p (p_move rfl) rfl ?_
  refine r_p (p_bin rfl rfl (b_eqPn Try.underlying24)) rfl ?_
  refine r_p (p_move rfl) rfl ?_
  refine r_split (t := 7) rfl (fun h1 => False.elim (by simp at h1)) (fun h1 => ?_)
  refine r_gyes rfl rfl ?_
  refine r_p (p_move rfl) rfl ?_
  refine r_gyes rfl rfl ?_
  refine r_p (p_nilCheck rfl) rfl ?_
  refine r_gyes rfl rfl ?_
  refine r_p (p_field0 fo94_2 rfl) rfl ?_
  refine r_gyes rfl rfl ?_
  refine r_p (p_load1 t4 rfl rfl (g_row1R (k := 0) rfl rfl)) rfl ?_
  refine r_p (p_pick rfl rfl rfl (by first | exact pick_and | exact pick_or |  rfl)) rfl ?_
  refine r_p (p_move rfl) rfl ?_
  refine r_split (t := 13) rfl (fun h2 => ?_) (fun h2 => False.elim (by simp at h2))
  refine r_gno rfl rfl rfl rfl ?_
  refine r_gno rfl rfl rfl rfl ?_
  refine r_gno rfl rfl rfl rfl ?_
  refine r_p (p_pick rfl rfl rfl (by first | exact pick_and | exact pick_or |  rfl)) rfl ?_
  refine r_nil ?_
  refine r_cond rfl (fun h3 => ?_) (fun h3 => ?_)
  · (try simp only [decide_eq_true_eq, decide_eq_false_iff_not, Bool.and_eq_true, Bool.or_eq_true, Bool.and_eq_false_iff, Bool.or_eq_false_iff, Bool.not_eq_true, Bool.not_eq_false, Bool.not_eq_true', Bool.not_eq_false', Bool.not_not, bne_iff_ne, beq_iff_eq] at h3)
    refine r_seq ?_
    refine r_region ?_
    refine r_p (p_assign rfl) rfl ?_
    refine r_nil ?_
    refine r_cret ?_
    refine r_ret () trivial rfl (rs1 (rv_tmp rfl)) rfl [] [] rfl rfl rfl
  · exact absurd h3 (by simp)
set_option maxHeartbeats 1000000 in
set_option maxRecDepth 100000 in
theorem sync_on (D : Nat) (v : SV) (mb : Nat) (armed : Bool) (left : Int) (dur : List ByteArray) (fr : List (Int × ByteArray)) (hb : ∀ p ∈ fr, 0 ≤ p.1 ∧ p.1 < dur.length) :
    Spec Try.prog 21 [.pointer (some ⟨D, 0, none⟩)] [row D 94 (dC v (some mb) false armed left), mp mkI Prod.fst vS (some mb) fr, own 9 1 eS (sv v) dur] [] (X := List (Int × ByteArray)) (fun l => l.Perm fr) (fun _ => .int .i64 (if pwO false armed left = true then 50 else 0)) (fun l => [row D 94 (dC v (some mb) (pwO false armed left) armed (IntKind.i64.wrap (left - 1))), mp mkI Prod.fst vS (some mb) (if pwO false armed left = true then fr else []), own 9 1 eS (sv v) (if pwO false armed left = true then dur else putL l dur)]) (fun _ => []) := by
  refine r_enter Try.func21 rfl Try.ntmps21 rfl fun w0 M H => ?_
  refine r_mpo 1 rfl (fun ms clk hpm hW => ?_)
  refine r_seq ?_
  refine r_region ?_
  refine r_p (p_assign rfl) rfl ?_
  refine r_nil ?_
  refine r_seq ?_
  refine r_seq ?_
  refine r_region ?_
  refine r_p (p_move rfl) rfl ?_
  refine r_p (p_bin rfl rfl (b_eqPn Try.underlying24)) rfl ?_
  refine r_p (p_move rfl) rfl ?_
  refine r_split (t := 7) rfl (fun h1 => False.elim (by simp at h1)) (fun h1 => ?_)
  refine r_gyes rfl rfl ?_
  refine r_p (p_move rfl) rfl ?_
  refine r_gyes rfl rfl ?_
  refine r_p (p_nilCheck rfl) rfl ?_
  refine r_gyes rfl rfl ?_
  refine r_p (p_field0 fo94_2 rfl) rfl ?_
  refine r_gyes rfl rfl ?_
  refine r_p (p_load1 t4 rfl rfl (g_row1 (k := 0) rfl rfl)) rfl ?_
  refine r_p (p_pick rfl rfl rfl (by first | exact pick_and | exact pick_or |  rfl)) rfl ?_
  refine r_p (p_move rfl) rfl ?_
  refine r_split (t := 13) rfl (fun h2 => False.elim (by simp at h2)) (fun h2 => ?_)
  refine r_gyes rfl rfl ?_
  refine r_p (p_move rfl) rfl ?_
  refine r_gyes rfl rfl ?_
  refine r_call (xs := [.tmp 14]) (power_spec D v (some mb) false armed left) cb45 [0] [] [0] [] rfl rfl rfl rfl rfl rfl rfl rfl (fun _ _ => rfl) (fun _ _ _ => rfl) rfl (fun _ _ => ?_)
  refine r_gyes rfl rfl ?_
  refine r_p (p_not rfl) rfl ?_
  refine r_p (p_pick rfl rfl rfl (by first | exact pick_and | exact pick_or |  rfl)) rfl ?_
  refine r_nil ?_
  refine r_cond rfl (fun h3 => ?_) (fun h3 => ?_)
  · have hp : pwO false armed left = true := by simpa using h3
    refine r_seq ?_
    refine r_region ?_
    refine r_p (p_assign rfl) rfl ?_
    refine r_nil ?_
    refine r_cret ?_
    refine r_conva (k := 1) rfl (mps_mp (L := fr) hpm) ?_
    refine r_ret fr (List.Perm.refl _) rfl (rs1 (rv_tmp rfl)) (by rw [if_pos hp] <;> rfl) [0, 1, 2] [] rfl (by rw [if_pos hp, if_pos hp] <;> rfl) rfl
  · have hp : ¬ pwO false armed left = true := by simpa using h3
    refine r_skip ?_
    refine r_seq ?_
    refine r_seq ?_
    refine r_region ?_
    refine r_p (p_move rfl) rfl ?_
    refine r_p (p_nilCheck rfl) rfl ?_
    refine r_p (p_field0 fo94_1 rfl) rfl ?_
    refine r_p (p_load1 t92 rfl rfl (g_row1 (k := 0) rfl rfl)) rfl ?_
    refine r_range Try.underlying92 rfl (hms_own (k := 1) rfl) rfl fun i22 => ?_
    refine r_nil ?_
    refine r_block ?_
    refine r_loop (X := List ((Int × ByteArray) × Nat)) (fun x => Vis ms x) (fun x => [(0, .pointer (some ⟨D, 0, none⟩)), (22, .pointer (some ⟨i22, 0, none⟩))]) (fun x => [(0, row D 94 (dC v (some mb) (pwO false armed left) armed (IntKind.i64.wrap (left - 1)))), (1, mps mkI Prod.fst vS (some mb) (curK (fun _ => true) ms x) clk), (22, itr i22 (some mb) clk x), (2, own 9 1 eS (sv v) (putL (x.map (·.1)) dur))]) (fun x => []) (fun x => lft ms x) [] (Vis.zero ms) rfl (by rw [curK_nil]; rfl) rfl (fun done hv => ?_)
    have hpl := putL_len (done.map (·.1)) dur
    refine r_seq ?_
    refine r_region ?_
    refine r_next (ki := 22) rfl rfl (hms_own (k := 1) rfl) rfl (fun hover => ?_) (fun m hm hno => ?_)
    · refine r_p (p_extract rfl rfl) rfl ?_
      refine r_nil ?_
      refine r_seq ?_
      refine r_cond rfl (fun h4 => ?_) (fun h4 => ?_)
      · exact absurd h4 (by simp)
      · (try simp only [decide_eq_true_eq, decide_eq_false_iff_not, Bool.and_eq_true, Bool.or_eq_true, Bool.and_eq_false_iff, Bool.or_eq_false_iff, Bool.not_eq_true, Bool.not_eq_false, Bool.not_eq_true', Bool.not_eq_false', Bool.not_not, bne_iff_ne, beq_iff_eq] at h4)
        have hov := curK_over (κ := Int) (kf := fun p : Int × ByteArray => p.1) (q := (fun _ => true)) hover
        have hall : ∀ x ∈ ms, x.2 ∈ done.map (·.2) := fun x hx => by
          by_cases hd : x.2 ∈ done.map (·.2)
          · exact hd
          · exact hover x (List.mem_filter.2 ⟨hx, by simp [hd]⟩)
        have hdp := (done_perm hW.born hv.sub hv.nd hall).map (·.1)
        refine r_conva (k := 1) rfl (mps_mp (L := []) (by rw [hov]; simp)) ?_
        refine r_exit ?_
        refine r_seq ?_
        refine r_region ?_
        refine r_p (p_assign rfl) rfl ?_
        refine r_nil ?_
        refine r_cret ?_
        refine r_ret (done.map (·.1)) (hdp.trans hpm) rfl (rs1 (rv_tmp rfl)) (by rw [if_neg hp] <;> rfl) [0, 1, 2] [] rfl (by rw [if_neg hp, if_neg hp] <;> rfl) rfl
    · have hm0 : m ∈ ms := (List.mem_filter.1 hm).1
      have hbm := hb m.1 (hpm.mem_iff.1 (List.mem_map.2 ⟨m, hm0, rfl⟩))
      refine r_p (p_extract rfl rfl) rfl ?_
      refine r_nil ?_
      refine r_seq ?_
      refine r_cond rfl (fun h5 => ?_) (fun h5 => ?_)
      · (try simp only [decide_eq_true_eq, decide_eq_false_iff_not, Bool.and_eq_true, Bool.or_eq_true, Bool.and_eq_false_iff, Bool.or_eq_false_iff, Bool.not_eq_true, Bool.not_eq_false, Bool.not_eq_true', Bool.not_eq_false', Bool.not_not, bne_iff_ne, beq_iff_eq] at h5)
        refine r_skip ?_
        refine r_block ?_
        refine r_seq ?_
        refine r_region ?_
        refine r_p (p_entry (ki := 22) rfl rfl (hms_own (k := 1) rfl) hm) rfl ?_
        refine r_p (p_extract rfl rfl) rfl ?_
        refine r_p (p_extract rfl rfl) rfl ?_
        refine r_p (p_assign rfl) rfl ?_
        refine r_p (p_assign rfl) rfl ?_
        refine r_nil ?_
        refine r_seq ?_
        refine r_region ?_
        refine r_p (p_move rfl) rfl ?_
        refine r_p (p_nilCheck rfl) rfl ?_
        refine r_p (p_field0 fo94_0 rfl) rfl ?_
        refine r_p (p_load1 t41 rfl rfl (g_row1 (k := 0) rfl rfl)) rfl ?_
        refine r_p (p_move rfl) rfl ?_
        refine r_p (p_move rfl) rfl ?_
        refine r_p (p_idx_sl (j := m.1.1.toNat) Try.underlying41 t9 rfl rfl (hs_own (k := 2) rfl) (by show m.1.1 = _; omega) (by first | omega | (simp; done) | (simp; omega))) rfl ?_
        refine r_store_el (k := 2) (e' := m.1.2) t9 rfl rfl rfl (by intro _; rfl) (getD_get ByteArray.empty (by omega)) rfl rfl ?_
        refine r_nil ?_
        refine r_region ?_
        refine r_p (p_move rfl) rfl ?_
        refine r_p (p_nilCheck rfl) rfl ?_
        refine r_p (p_field0 fo94_1 rfl) rfl ?_
        refine r_p (p_load1 t92 rfl rfl (g_row1 (k := 0) rfl rfl)) rfl ?_
        refine r_p (p_move rfl) rfl ?_
        refine r_ms0 (ms_deleteS (kn := 1) Try.underlying92 keyI (k := m.1.1) rfl rfl rfl) fun _ _ => ?_
        refine r_nil ?_
        refine r_here (done ++ [m]) ⟨hv.step hm0 hno, lft_lt hm0 hno⟩ rfl (by rw [← curK_del hW hm0 rfl, List.map_append, List.map_cons, List.map_nil, putL_snoc]; rfl) rfl
      · exact absurd h5 (by simp)

end Go.Proofs.Ytohenjmkhncoiaa
