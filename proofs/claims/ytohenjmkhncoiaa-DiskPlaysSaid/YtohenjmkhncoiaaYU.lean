/-
  The journal: a step of a checkpoint. Conditions: few.
-/
import Derived.Test.YtohenjmkhncoiaaYT
namespace Go.Proofs.Ytohenjmkhncoiaa
set_option linter.unusedSimpArgs false
set_option linter.unusedVariables false
open Go.RowKit

/-- What an action of a checkpoint gives. -/
structure DR where
  e : Int
  off : Bool
  left : Int
  dur : List ByteArray
  fr : List (Int × ByteArray)
def dstep (off armed : Bool) (left : Int) (dur : List ByteArray) (fr : List (Int × ByteArray)) (a : Option (Int × ByteArray)) (l : List (Int × ByteArray)) : DR :=
  match a with
  | none => if off = true then ⟨50, off, left, dur, fr⟩ else if pwO false armed left = true then ⟨50, true, IntKind.i64.wrap (left - 1), dur, fr⟩ else ⟨0, false, IntKind.i64.wrap (left - 1), putL l dur, []⟩
  | some (n, s) => ⟨(wrF off armed left dur.length fr n s).e, (wrF off armed left dur.length fr n s).off, (wrF off armed left dur.length fr n s).left, dur, (wrF off armed left dur.length fr n s).fr⟩
/-- What a step gives. -/
structure So where
  done : Bool
  e : Int
  lst : Sp
  nxt : Sp
  n : Int
  vt : SV
  todo : List Ac
def stepO (lst : Sp) (n : Int) (nxt : Sp) (vt : SV) (a : Ac) (rest : List Ac) (e : Int) : So :=
  if e ≠ 0 then ⟨false, e, lst, nxt, n, vt, a :: rest⟩ else if 0 < rest.length then ⟨false, 0, lst, nxt, n, loS vt 1 1, rest⟩ else ⟨true, 0, nxt, nxt, n + 1, loS vt 1 1, rest⟩

set_option maxRecDepth 100000 in
theorem step_nil  :
    Spec Try.prog 43 [.pointer none] [] [] (X := Unit) (fun _ => True) (fun _ => .tuple #[.bool false, .int .i64 51]) (fun _ => []) (fun _ => []) := by
  refine r_enter Try.func43 rfl Try.ntmps43 rfl fun w0 M H => ?_
  refine r_seq ?_
  refine r_region ?_
  refine r_p (p_assign rfl) rfl ?_
  refine r_p (p_assign rfl) rfl ?_
  refine r_nil ?_
  refine r_seq ?_
  refine r_seq ?_
  refine r_region ?_
  refine r_p (p_move rfl) rfl ?_
  refine r_call (xs := [.tmp 5]) busy_nil cb36 [] [] [] [] rfl rfl rfl rfl rfl rfl rfl rfl (fun _ _ => rfl) (fun _ _ _ => rfl) rfl (fun _ _ => ?_)
  refine r_p (p_not rfl) rfl ?_
  refine r_nil ?_
  refine r_cond rfl (fun h1 => ?_) (fun h1 => ?_)
  · (try simp only [decide_eq_true_eq, decide_eq_false_iff_not, Bool.and_eq_true, Bool.or_eq_true, Bool.and_eq_false_iff, Bool.or_eq_false_iff, Bool.not_eq_true, Bool.not_eq_false, Bool.not_eq_true', Bool.not_eq_false', Bool.not_not, bne_iff_ne, beq_iff_eq] at h1)
    refine r_seq ?_
    refine r_region ?_
    refine r_p (p_assign rfl) rfl ?_
    refine r_p (p_assign rfl) rfl ?_
    refine r_nil ?_
    refine r_cret ?_
    refine r_ret () trivial rfl (rs2 (rv_tmp rfl) (rv_tmp rfl)) rfl [] [] rfl rfl rfl
  · exact absurd h1 (by simp)
set_option maxRecDepth 100000 in
theorem step_none (J D : Nat) (lst : Sp) (n : Int) (nxt : Sp) (vt : SV) :
    Spec Try.prog 43 [.pointer (some ⟨J, 0, none⟩)] [] [row J 100 (jC D lst n nxt vt), ownX 35 (acV D) vt []] (X := Unit) (fun _ => True) (fun _ => .tuple #[.bool false, .int .i64 51]) (fun _ => []) (fun _ => []) := by
  refine r_enter Try.func43 rfl Try.ntmps43 rfl fun w0 M H => ?_
  refine r_seq ?_
  refine r_region ?_
  refine r_p (p_assign rfl) rfl ?_
  refine r_p (p_assign rfl) rfl ?_
  refine r_nil ?_
  refine r_seq ?_
  refine r_seq ?_
  refine r_region ?_
  refine r_p (p_move rfl) rfl ?_
  refine r_call (xs := [.tmp 5]) (busy_spec J D lst n nxt vt []) cb36 [] [(false, 0), (false, 1)] [] [] rfl rfl rfl rfl rfl rfl rfl rfl (fun _ _ => rfl) (fun _ _ _ => rfl) rfl (fun _ _ => ?_)
  refine r_p (p_not rfl) rfl ?_
  refine r_nil ?_
  refine r_cond rfl (fun h1 => ?_) (fun h1 => ?_)
  · (try simp only [decide_eq_true_eq, decide_eq_false_iff_not, Bool.and_eq_true, Bool.or_eq_true, Bool.and_eq_false_iff, Bool.or_eq_false_iff, Bool.not_eq_true, Bool.not_eq_false, Bool.not_eq_true', Bool.not_eq_false', Bool.not_not, bne_iff_ne, beq_iff_eq] at h1)
    refine r_seq ?_
    refine r_region ?_
    refine r_p (p_assign rfl) rfl ?_
    refine r_p (p_assign rfl) rfl ?_
    refine r_nil ?_
    refine r_cret ?_
    refine r_ret () trivial rfl (rs2 (rv_tmp rfl) (rv_tmp rfl)) rfl [] [] rfl rfl rfl
  · (simp at h1)
set_option maxRecDepth 100000 in
theorem step_sync_off (J D : Nat) (lst : Sp) (n : Int) (nxt : Sp) (vt : SV) (v : SV) (m : Nat) (armed : Bool) (left : Int) (dur : List ByteArray) (fr : List (Int × ByteArray)) (rest : List Ac) (hn : 0 ≤ n ∧ n ≤ 1000000000) (hb : ∀ p ∈ fr, 0 ≤ p.1 ∧ p.1 < dur.length) :
    Spec Try.prog 43 [.pointer (some ⟨J, 0, none⟩)] [row J 100 (jC D lst n nxt vt), ownX 35 (acV D) vt (.sync :: rest), row D 94 (dC v (some m) true armed left), mp mkI Prod.fst vS (some m) fr, own 9 1 eS (sv v) dur] [actsA J (.sync :: rest)] (X := List (Int × ByteArray)) (fun l => l.Perm fr) (fun l => .tuple #[.bool (stepO lst n nxt vt .sync rest (dstep true armed left dur fr none l).e).done, .int .i64 (stepO lst n nxt vt .sync rest (dstep true armed left dur fr none l).e).e]) (fun l => [row J 100 (jC D (stepO lst n nxt vt .sync rest (dstep true armed left dur fr none l).e).lst (stepO lst n nxt vt .sync rest (dstep true armed left dur fr none l).e).n (stepO lst n nxt vt .sync rest (dstep true armed left dur fr none l).e).nxt (stepO lst n nxt vt .sync rest (dstep true armed left dur fr none l).e).vt), ownX 35 (acV D) (stepO lst n nxt vt .sync rest (dstep true armed left dur fr none l).e).vt (stepO lst n nxt vt .sync rest (dstep true armed left dur fr none l).e).todo, row D 94 (dC v (some m) (dstep true armed left dur fr none l).off armed (dstep true armed left dur fr none l).left), mp mkI Prod.fst vS (some m) (dstep true armed left dur fr none l).fr, own 9 1 eS (sv v) (dstep true armed left dur fr none l).dur]) (fun _ => []) := by
  refine r_enter Try.func43 rfl Try.ntmps43 rfl fun w0 M H => ?_
  refine r_seq ?_
  refine r_region ?_
  refine r_p (p_assign rfl) rfl ?_
  refine r_p (p_assign rfl) rfl ?_
  refine r_nil ?_
  refine r_seq ?_
  refine r_seq ?_
  refine r_region ?_
  refine r_p (p_move rfl) rfl ?_
  refine r_call (xs := [.tmp 5]) (busy_spec J D lst n nxt vt (.sync :: rest)) cb36 [] [(true, 0), (true, 1)] [] [] rfl rfl rfl rfl rfl rfl rfl rfl (fun _ _ => rfl) (fun _ _ _ => rfl) rfl (fun _ _ => ?_)
  refine r_p (p_not rfl) rfl ?_
  refine r_nil ?_
  refine r_cond rfl (fun h1 => ?_) (fun h1 => ?_)
  · (simp at h1)
  · (try simp only [decide_eq_true_eq, decide_eq_false_iff_not, Bool.and_eq_true, Bool.or_eq_true, Bool.and_eq_false_iff, Bool.or_eq_false_iff, Bool.not_eq_true, Bool.not_eq_false, Bool.not_eq_true', Bool.not_eq_false', Bool.not_not, bne_iff_ne, beq_iff_eq] at h1)
    refine r_skip ?_
    refine r_seq ?_
    refine r_seq ?_
    refine r_region ?_
    refine r_p (p_move rfl) rfl ?_
    refine r_p (p_nilCheck rfl) rfl ?_
    refine r_p (p_field0 fo100_4 rfl) rfl ?_
    refine r_p (p_load1 t98 rfl rfl (g_row1 (k := 0) rfl rfl)) rfl ?_
    refine r_p (p_idx_slS (j := 0) Try.underlying98 t35 rfl rfl (SlS.ofX (k := 1) rfl) (by rfl) (by simp)) rfl ?_
    refine r_p (p_load1 t35 rfl rfl (g_elS' (SlS.ofX (k := 1) rfl) (by intro _; rfl) rfl (by rfl))) rfl ?_
    refine r_callF (xs := []) (sync_off D v m armed left) cb21 [] [(true, 2)] [] [] rfl rfl rfl rfl rfl rfl rfl rfl (fun _ _ => rfl) (fun _ _ _ => rfl) rfl (fun _ _ => ?_)
    refine r_p (p_assign rfl) rfl ?_
    refine r_nil ?_
    refine r_seq ?_
    refine r_region ?_
    refine r_p (p_move rfl) rfl ?_
    refine r_p (p_bin rfl rfl b_ne) rfl ?_
    refine r_nil ?_
    refine r_cond rfl (fun h2 => ?_) (fun h2 => ?_)
    · (try simp only [decide_eq_true_eq, decide_eq_false_iff_not, Bool.and_eq_true, Bool.or_eq_true, Bool.and_eq_false_iff, Bool.or_eq_false_iff, Bool.not_eq_true, Bool.not_eq_false, Bool.not_eq_true', Bool.not_eq_false', Bool.not_not, bne_iff_ne, beq_iff_eq] at h2)
      have he : (50 : Int) ≠ 0 := by decide
      refine r_seq ?_
      refine r_region ?_
      refine r_p (p_move rfl) rfl ?_
      refine r_p (p_assign rfl) rfl ?_
      refine r_p (p_assign rfl) rfl ?_
      refine r_nil ?_
      refine r_cret ?_
      have hds : dstep true armed left dur fr none fr = ⟨50, true, left, dur, fr⟩ := rfl
      refine r_ret fr (List.Perm.refl _) rfl (rs2 (rv_tmp rfl) (rv_tmp rfl)) (by simp only [hds, stepO]; rw [if_pos he] <;> rfl) [0, 1, 2, 3, 4] [] rfl (by simp only [hds, stepO]; rw [if_pos he] <;> rfl) rfl
    · exact absurd h2 (by simp)
set_option maxRecDepth 100000 in
theorem step_sync_on (J D : Nat) (lst : Sp) (n : Int) (nxt : Sp) (vt : SV) (v : SV) (m : Nat) (armed : Bool) (left : Int) (dur : List ByteArray) (fr : List (Int × ByteArray)) (rest : List Ac) (hn : 0 ≤ n ∧ n ≤ 1000000000) (hb : ∀ p ∈ fr, 0 ≤ p.1 ∧ p.1 < dur.length) :
    Spec Try.prog 43 [.pointer (some ⟨J, 0, none⟩)] [row J 100 (jC D lst n nxt vt), ownX 35 (acV D) vt (.sync :: rest), row D 94 (dC v (some m) false armed left), mp mkI Prod.fst vS (some m) fr, own 9 1 eS (sv v) dur] [actsA J (.sync :: rest)] (X := List (Int × ByteArray)) (fun l => l.Perm fr) (fun l => .tuple #[.bool (stepO lst n nxt vt .sync rest (dstep false armed left dur fr none l).e).done, .int .i64 (stepO lst n nxt vt .sync rest (dstep false armed left dur fr none l).e).e]) (fun l => [row J 100 (jC D (stepO lst n nxt vt .sync rest (dstep false armed left dur fr none l).e).lst (stepO lst n nxt vt .sync rest (dstep false armed left dur fr none l).e).n (stepO lst n nxt vt .sync rest (dstep false armed left dur fr none l).e).nxt (stepO lst n nxt vt .sync rest (dstep false armed left dur fr none l).e).vt), ownX 35 (acV D) (stepO lst n nxt vt .sync rest (dstep false armed left dur fr none l).e).vt (stepO lst n nxt vt .sync rest (dstep false armed left dur fr none l).e).todo, row D 94 (dC v (some m) (dstep false armed left dur fr none l).off armed (dstep false armed left dur fr none l).left), mp mkI Prod.fst vS (some m) (dstep false armed left dur fr none l).fr, own 9 1 eS (sv v) (dstep false armed left dur fr none l).dur]) (fun _ => []) := by
  refine r_enter Try.func43 rfl Try.ntmps43 rfl fun w0 M H => ?_
  refine r_seq ?_
  refine r_region ?_
  refine r_p (p_assign rfl) rfl ?_
  refine r_p (p_assign rfl) rfl ?_
  refine r_nil ?_
  refine r_seq ?_
  refine r_seq ?_
  refine r_region ?_
  refine r_p (p_move rfl) rfl ?_
  refine r_call (xs := [.tmp 5]) (busy_spec J D lst n nxt vt (.sync :: rest)) cb36 [] [(true, 0), (true, 1)] [] [] rfl rfl rfl rfl rfl rfl rfl rfl (fun _ _ => rfl) (fun _ _ _ => rfl) rfl (fun _ _ => ?_)
  refine r_p (p_not rfl) rfl ?_
  refine r_nil ?_
  refine r_cond rfl (fun h1 => ?_) (fun h1 => ?_)
  · (simp at h1)
  · (try simp only [decide_eq_true_eq, decide_eq_false_iff_not, Bool.and_eq_true, Bool.or_eq_true, Bool.and_eq_false_iff, Bool.or_eq_false_iff, Bool.not_eq_true, Bool.not_eq_false, Bool.not_eq_true', Bool.not_eq_false', Bool.not_not, bne_iff_ne, beq_iff_eq] at h1)
    refine r_skip ?_
    refine r_seq ?_
    refine r_seq ?_
    refine r_region ?_
    refine r_p (p_move rfl) rfl ?_
    refine r_p (p_nilCheck rfl) rfl ?_
    refine r_p (p_field0 fo100_4 rfl) rfl ?_
    refine r_p (p_load1 t98 rfl rfl (g_row1 (k := 0) rfl rfl)) rfl ?_
    refine r_p (p_idx_slS (j := 0) Try.underlying98 t35 rfl rfl (SlS.ofX (k := 1) rfl) (by rfl) (by simp)) rfl ?_
    refine r_p (p_load1 t35 rfl rfl (g_elS' (SlS.ofX (k := 1) rfl) (by intro _; rfl) rfl (by rfl))) rfl ?_
    refine r_callF (xs := []) (sync_on D v m armed left dur fr hb) cb21 [2, 3, 4] [] [2, 3, 4] [] rfl rfl rfl rfl rfl rfl rfl rfl (fun _ _ => rfl) (fun _ _ _ => rfl) rfl (fun l hl => ?_)
    refine r_p (p_assign rfl) rfl ?_
    refine r_nil ?_
    refine r_seq ?_
    refine r_region ?_
    refine r_p (p_move rfl) rfl ?_
    refine r_p (p_bin rfl rfl b_ne) rfl ?_
    refine r_nil ?_
    refine r_cond rfl (fun h2 => ?_) (fun h2 => ?_)
    · have he : (if pwO false armed left = true then (50 : Int) else 0) ≠ 0 := by simpa using h2
      refine r_seq ?_
      refine r_region ?_
      refine r_p (p_move rfl) rfl ?_
      refine r_p (p_assign rfl) rfl ?_
      refine r_p (p_assign rfl) rfl ?_
      refine r_nil ?_
      refine r_cret ?_
      have hds : dstep false armed left dur fr none l = ⟨if pwO false armed left = true then 50 else 0, pwO false armed left, IntKind.i64.wrap (left - 1), if pwO false armed left = true then dur else putL l dur, if pwO false armed left = true then fr else []⟩ := by
        show (if false = true then (⟨50, false, left, dur, fr⟩ : DR) else if pwO false armed left = true then ⟨50, true, IntKind.i64.wrap (left - 1), dur, fr⟩ else ⟨0, false, IntKind.i64.wrap (left - 1), putL l dur, []⟩) = _
        cases pwO false armed left <;> rfl
      refine r_ret l hl rfl (rs2 (rv_tmp rfl) (rv_tmp rfl)) (by simp only [hds, stepO]; rw [if_pos he] <;> rfl) [0, 1, 2, 3, 4] [] rfl (by simp only [hds, stepO]; rw [if_pos he] <;> rfl) rfl
    · have he : ¬ (if pwO false armed left = true then (50 : Int) else 0) ≠ 0 := by simpa using h2
      refine r_skip ?_
      refine r_seq ?_
      refine r_region ?_
      refine r_p (p_move rfl) rfl ?_
      refine r_p (p_move rfl) rfl ?_
      refine r_p (p_nilCheck rfl) rfl ?_
      refine r_p (p_field0 fo100_4 rfl) rfl ?_
      refine r_p (p_load1 t98 rfl rfl (g_row1 (k := 0) rfl rfl)) rfl ?_
      refine r_p (p_slice_loS (j := 1) Try.underlying98 t35 rfl rfl (SlS.ofX (k := 1) rfl) rfl (by simp)) rfl ?_
      refine r_p (p_nilCheck rfl) rfl ?_
      refine r_p (p_field0 fo100_4 rfl) rfl ?_
      refine r_store_row (k := 0) t98 rfl rfl rfl rfl rfl rfl rfl rfl ?_
      refine r_conva (k := 1) (A' := ownX 35 (acV D) (loS vt 1 1) rest) rfl (ownX_lo (l := .sync :: rest) (j := 1) (by simp) (by simp)) ?_
      refine r_nil ?_
      refine r_seq ?_
      refine r_seq ?_
      refine r_region ?_
      refine r_p (p_move rfl) rfl ?_
      refine r_p (p_nilCheck rfl) rfl ?_
      refine r_p (p_field0 fo100_4 rfl) rfl ?_
      refine r_p (p_load1 t98 rfl rfl (g_row1 (k := 0) rfl rfl)) rfl ?_
      refine r_p (p_len_slS Try.underlying98 rfl (SlS.ofX (k := 1) rfl)) rfl ?_
      refine r_p (p_bin rfl rfl b_gt) rfl ?_
      refine r_nil ?_
      refine r_cond rfl (fun h3 => ?_) (fun h3 => ?_)
      · (try simp only [decide_eq_true_eq, decide_eq_false_iff_not, Bool.and_eq_true, Bool.or_eq_true, Bool.and_eq_false_iff, Bool.or_eq_false_iff, Bool.not_eq_true, Bool.not_eq_false, Bool.not_eq_true', Bool.not_eq_false', Bool.not_not, bne_iff_ne, beq_iff_eq] at h3)
        have hr : 0 < rest.length := by omega
        refine r_seq ?_
        refine r_region ?_
        refine r_p (p_assign rfl) rfl ?_
        refine r_p (p_assign rfl) rfl ?_
        refine r_nil ?_
        refine r_cret ?_
        have hds : dstep false armed left dur fr none l = ⟨if pwO false armed left = true then 50 else 0, pwO false armed left, IntKind.i64.wrap (left - 1), if pwO false armed left = true then dur else putL l dur, if pwO false armed left = true then fr else []⟩ := by
          show (if false = true then (⟨50, false, left, dur, fr⟩ : DR) else if pwO false armed left = true then ⟨50, true, IntKind.i64.wrap (left - 1), dur, fr⟩ else ⟨0, false, IntKind.i64.wrap (left - 1), putL l dur, []⟩) = _
          cases pwO false armed left <;> rfl
        refine r_ret l hl rfl (rs2 (rv_tmp rfl) (rv_tmp rfl)) (by simp only [hds, stepO]; rw [if_neg he, if_pos hr] <;> rfl) [0, 1, 2, 3, 4] [] rfl (by simp only [hds, stepO]; rw [if_neg he, if_pos hr] <;> rfl) rfl
      · (try simp only [decide_eq_true_eq, decide_eq_false_iff_not, Bool.and_eq_true, Bool.or_eq_true, Bool.and_eq_false_iff, Bool.or_eq_false_iff, Bool.not_eq_true, Bool.not_eq_false, Bool.not_eq_true', Bool.not_eq_false', Bool.not_not, bne_iff_ne, beq_iff_eq] at h3)
        have hr : ¬ 0 < rest.length := by omega
        refine r_skip ?_
        refine r_seq ?_
        refine r_drawM [0, 1, 2, 3, 4, 5, 6, 7, 8, 9, 10, 11, 12, 13, 14, 15, 16] [0, 13, 1, 2, 3, 4, 5, 6, 7, 8, 9, 10, 11, 12, 14, 15, 16] [32, 33, 34, 35, 36, 37, 38, 39, 40, 41, 42, 43, 44, 45, 46] _ rfl rfl rfl (stg_mem0 (V := [(0, 32, _), (1, 33, _), (2, 34, _), (3, 35, _), (4, 36, _), (5, 37, _), (6, 38, _), (7, 39, _), (8, 40, _), (9, 41, _), (10, 42, _), (11, 43, _), (12, 44, _)]) [0, 1, 2, 3, 4, 5, 6, 7, 8, 9, 10, 11, 12] 13 [13, 12, 11, 9, 8, 7, 6, 5, 4, 3, 2, 0] [14, 15] (fun _ => [(14, 45, _), (15, 46, _)]) rfl rfl (prs_cons (pri rfl (p_move rfl)) (prs_cons (pri rfl (p_move rfl)) (prs_cons (pri rfl (p_move rfl)) (prs_cons (pri rfl (p_nilCheck rfl)) (prs_cons (pri rfl (p_field0 fo100_3 rfl)) (prs_cons (pri rfl (p_loadA t59 rfl rfl rfl (g_row (us := (snC nxt)) (k := 0) rfl rfl))) (prs_cons (pri rfl (p_move rfl)) (prs_cons (pri rfl (p_nilCheck rfl)) (prs_cons (pri rfl (p_field0 fo100_2 rfl)) (prs_cons (pri rfl (p_load1 t3 rfl rfl (g_row1 (k := 0) rfl rfl))) (prs_cons (pri rfl (p_bin rfl rfl (b_add (by first | exact w_i64 (by omega) (by omega) | rfl)))) (prs_cons (pri rfl (p_nilCheck rfl)) (prs_cons (pri rfl (p_field0 fo100_1 rfl)) prs_nil))))))))))))) rfl rfl rfl rfl rfl rfl rfl rfl rfl (fun _ _ => rfl) rfl (ms_store_row (k := 0) t59 rfl rfl rfl rfl rfl rfl rfl rfl) (fun _ _ => stg_mem0 [14, 15, 1, 10] 16 [16, 15, 14, 13, 12, 11, 10, 9, 8, 7, 6, 5, 4, 3, 2, 1, 0] [] (fun _ => []) rfl rfl (prs_cons (pri rfl (p_nilCheck rfl)) (prs_cons (pri rfl (p_field0 fo100_2 rfl)) (prs_cons (pri rfl (p_move rfl)) (prs_cons (pri rfl (p_bin rfl rfl (b_add (by first | exact w_i64 (by omega) (by omega) | rfl)))) prs_nil)))) rfl rfl rfl rfl rfl rfl rfl rfl rfl (fun _ _ => rfl) rfl (ms_store_row (k := 0) t3 rfl rfl rfl rfl rfl rfl rfl rfl) (fun _ _ => stg_end [] rfl rfl prs_nil rfl rfl rfl ?_)))
        refine r_seq ?_
        refine r_region ?_
        refine r_p (p_assign rfl) rfl ?_
        refine r_p (p_assign rfl) rfl ?_
        refine r_nil ?_
        refine r_cret ?_
        have hds : dstep false armed left dur fr none l = ⟨if pwO false armed left = true then 50 else 0, pwO false armed left, IntKind.i64.wrap (left - 1), if pwO false armed left = true then dur else putL l dur, if pwO false armed left = true then fr else []⟩ := by
          show (if false = true then (⟨50, false, left, dur, fr⟩ : DR) else if pwO false armed left = true then ⟨50, true, IntKind.i64.wrap (left - 1), dur, fr⟩ else ⟨0, false, IntKind.i64.wrap (left - 1), putL l dur, []⟩) = _
          cases pwO false armed left <;> rfl
        refine r_ret l hl rfl (rs2 (rv_tmp rfl) (rv_tmp rfl)) (by simp only [hds, stepO]; rw [if_neg he, if_neg hr] <;> rfl) [0, 1, 2, 3, 4] [] rfl (by simp only [hds, stepO]; rw [if_neg he, if_neg hr] <;> rfl) rfl
set_option maxRecDepth 100000 in
theorem step_wr (J D : Nat) (lst : Sp) (n : Int) (nxt : Sp) (vt : SV) (v : SV) (m : Nat) (off armed : Bool) (left : Int) (dur : List ByteArray) (fr : List (Int × ByteArray)) (rest : List Ac) (bj bn bs : Nat) (k : Int) (s : ByteArray) (hn : 0 ≤ n ∧ n ≤ 1000000000) (hb : ∀ p ∈ fr, 0 ≤ p.1 ∧ p.1 < dur.length) :
    Spec Try.prog 43 [.pointer (some ⟨J, 0, none⟩)] [row J 100 (jC D lst n nxt vt), ownX 35 (acV D) vt ((.wr bj bn bs k s) :: rest), row D 94 (dC v (some m) off armed left), mp mkI Prod.fst vS (some m) fr, own 9 1 eS (sv v) dur] [actsA J ((.wr bj bn bs k s) :: rest)] (X := List (Int × ByteArray)) (fun l => l.Perm fr) (fun l => .tuple #[.bool (stepO lst n nxt vt (.wr bj bn bs k s) rest (dstep off armed left dur fr (some (k, s)) l).e).done, .int .i64 (stepO lst n nxt vt (.wr bj bn bs k s) rest (dstep off armed left dur fr (some (k, s)) l).e).e]) (fun l => [row J 100 (jC D (stepO lst n nxt vt (.wr bj bn bs k s) rest (dstep off armed left dur fr (some (k, s)) l).e).lst (stepO lst n nxt vt (.wr bj bn bs k s) rest (dstep off armed left dur fr (some (k, s)) l).e).n (stepO lst n nxt vt (.wr bj bn bs k s) rest (dstep off armed left dur fr (some (k, s)) l).e).nxt (stepO lst n nxt vt (.wr bj bn bs k s) rest (dstep off armed left dur fr (some (k, s)) l).e).vt), ownX 35 (acV D) (stepO lst n nxt vt (.wr bj bn bs k s) rest (dstep off armed left dur fr (some (k, s)) l).e).vt (stepO lst n nxt vt (.wr bj bn bs k s) rest (dstep off armed left dur fr (some (k, s)) l).e).todo, row D 94 (dC v (some m) (dstep off armed left dur fr (some (k, s)) l).off armed (dstep off armed left dur fr (some (k, s)) l).left), mp mkI Prod.fst vS (some m) (dstep off armed left dur fr (some (k, s)) l).fr, own 9 1 eS (sv v) (dstep off armed left dur fr (some (k, s)) l).dur]) (fun _ => []) := by
  refine r_enter Try.func43 rfl Try.ntmps43 rfl fun w0 M H => ?_
  refine r_more 0 10 rfl acts_j ?_
  refine r_more 0 11 rfl acts_n ?_
  refine r_more 0 12 rfl acts_s ?_
  refine r_seq ?_
  refine r_region ?_
  refine r_p (p_assign rfl) rfl ?_
  refine r_p (p_assign rfl) rfl ?_
  refine r_nil ?_
  refine r_seq ?_
  refine r_seq ?_
  refine r_region ?_
  refine r_p (p_move rfl) rfl ?_
  refine r_call (xs := [.tmp 5]) (busy_spec J D lst n nxt vt ((.wr bj bn bs k s) :: rest)) cb36 [] [(true, 0), (true, 1)] [] [] rfl rfl rfl rfl rfl rfl rfl rfl (fun _ _ => rfl) (fun _ _ _ => rfl) rfl (fun _ _ => ?_)
  refine r_p (p_not rfl) rfl ?_
  refine r_nil ?_
  refine r_cond rfl (fun h1 => ?_) (fun h1 => ?_)
  · (simp at h1)
  · (try simp only [decide_eq_true_eq, decide_eq_false_iff_not, Bool.and_eq_true, Bool.or_eq_true, Bool.and_eq_false_iff, Bool.or_eq_false_iff, Bool.not_eq_true, Bool.not_eq_false, Bool.not_eq_true', Bool.not_eq_false', Bool.not_not, bne_iff_ne, beq_iff_eq] at h1)
    refine r_skip ?_
    refine r_seq ?_
    refine r_seq ?_
    refine r_region ?_
    refine r_p (p_move rfl) rfl ?_
    refine r_p (p_nilCheck rfl) rfl ?_
    refine r_p (p_field0 fo100_4 rfl) rfl ?_
    refine r_p (p_load1 t98 rfl rfl (g_row1 (k := 0) rfl rfl)) rfl ?_
    refine r_p (p_idx_slS (j := 0) Try.underlying98 t35 rfl rfl (SlS.ofX (k := 1) rfl) (by rfl) (by simp)) rfl ?_
    refine r_p (p_load1 t35 rfl rfl (g_elS' (SlS.ofX (k := 1) rfl) (by intro _; rfl) rfl (by rfl))) rfl ?_
    refine r_call (xs := []) (dowrite_spec D v m off armed left dur fr J bj bn bs lst nxt n vt k s) cb64 [2, 3, 4] [(true, 0), (false, 10), (false, 11), (false, 12)] [2, 3, 4] [] rfl rfl rfl rfl rfl rfl rfl rfl (fun _ _ => rfl) (fun _ _ _ => rfl) rfl (fun _ _ => ?_)
    refine r_p (p_assign rfl) rfl ?_
    refine r_nil ?_
    refine r_seq ?_
    refine r_region ?_
    refine r_p (p_move rfl) rfl ?_
    refine r_p (p_bin rfl rfl b_ne) rfl ?_
    refine r_nil ?_
    refine r_cond rfl (fun h2 => ?_) (fun h2 => ?_)
    · have he : (wrF off armed left dur.length fr k s).e ≠ 0 := by simpa using h2
      refine r_seq ?_
      refine r_region ?_
      refine r_p (p_move rfl) rfl ?_
      refine r_p (p_assign rfl) rfl ?_
      refine r_p (p_assign rfl) rfl ?_
      refine r_nil ?_
      refine r_cret ?_
      have hds : dstep off armed left dur fr (some (k, s)) fr = ⟨(wrF off armed left dur.length fr k s).e, (wrF off armed left dur.length fr k s).off, (wrF off armed left dur.length fr k s).left, dur, (wrF off armed left dur.length fr k s).fr⟩ := rfl
      refine r_ret fr (List.Perm.refl _) rfl (rs2 (rv_tmp rfl) (rv_tmp rfl)) (by simp only [hds, stepO]; rw [if_pos he] <;> rfl) [0, 1, 2, 3, 4] [] rfl (by simp only [hds, stepO]; rw [if_pos he] <;> rfl) rfl
    · have he : ¬ (wrF off armed left dur.length fr k s).e ≠ 0 := by simpa using h2
      refine r_skip ?_
      refine r_seq ?_
      refine r_region ?_
      refine r_p (p_move rfl) rfl ?_
      refine r_p (p_move rfl) rfl ?_
      refine r_p (p_nilCheck rfl) rfl ?_
      refine r_p (p_field0 fo100_4 rfl) rfl ?_
      refine r_p (p_load1 t98 rfl rfl (g_row1 (k := 0) rfl rfl)) rfl ?_
      refine r_p (p_slice_loS (j := 1) Try.underlying98 t35 rfl rfl (SlS.ofX (k := 1) rfl) rfl (by simp)) rfl ?_
      refine r_p (p_nilCheck rfl) rfl ?_
      refine r_p (p_field0 fo100_4 rfl) rfl ?_
      refine r_store_row (k := 0) t98 rfl rfl rfl rfl rfl rfl rfl rfl ?_
      refine r_conva (k := 1) (A' := ownX 35 (acV D) (loS vt 1 1) rest) rfl (ownX_lo (l := (.wr bj bn bs k s) :: rest) (j := 1) (by simp) (by simp)) ?_
      refine r_nil ?_
      refine r_seq ?_
      refine r_seq ?_
      refine r_region ?_
      refine r_p (p_move rfl) rfl ?_
      refine r_p (p_nilCheck rfl) rfl ?_
      refine r_p (p_field0 fo100_4 rfl) rfl ?_
      refine r_p (p_load1 t98 rfl rfl (g_row1 (k := 0) rfl rfl)) rfl ?_
      refine r_p (p_len_slS Try.underlying98 rfl (SlS.ofX (k := 1) rfl)) rfl ?_
      refine r_p (p_bin rfl rfl b_gt) rfl ?_
      refine r_nil ?_
      refine r_cond rfl (fun h3 => ?_) (fun h3 => ?_)
      · (try simp only [decide_eq_true_eq, decide_eq_false_iff_not, Bool.and_eq_true, Bool.or_eq_true, Bool.and_eq_false_iff, Bool.or_eq_false_iff, Bool.not_eq_true, Bool.not_eq_false, Bool.not_eq_true', Bool.not_eq_false', Bool.not_not, bne_iff_ne, beq_iff_eq] at h3)
        have hr : 0 < rest.length := by omega
        refine r_seq ?_
        refine r_region ?_
        refine r_p (p_assign rfl) rfl ?_
        refine r_p (p_assign rfl) rfl ?_
        refine r_nil ?_
        refine r_cret ?_
        have hds : dstep off armed left dur fr (some (k, s)) fr = ⟨(wrF off armed left dur.length fr k s).e, (wrF off armed left dur.length fr k s).off, (wrF off armed left dur.length fr k s).left, dur, (wrF off armed left dur.length fr k s).fr⟩ := rfl
        refine r_ret fr (List.Perm.refl _) rfl (rs2 (rv_tmp rfl) (rv_tmp rfl)) (by simp only [hds, stepO]; rw [if_neg he, if_pos hr] <;> rfl) [0, 1, 2, 3, 4] [] rfl (by simp only [hds, stepO]; rw [if_neg he, if_pos hr] <;> rfl) rfl
      · (try simp only [decide_eq_true_eq, decide_eq_false_iff_not, Bool.and_eq_true, Bool.or_eq_true, Bool.and_eq_false_iff, Bool.or_eq_false_iff, Bool.not_eq_true, Bool.not_eq_false, Bool.not_eq_true', Bool.not_eq_false', Bool.not_not, bne_iff_ne, beq_iff_eq] at h3)
        have hr : ¬ 0 < rest.length := by omega
        refine r_skip ?_
        refine r_seq ?_
        refine r_drawM [0, 1, 2, 3, 4, 5, 6, 7, 8, 9, 10, 11, 12, 13, 14, 15, 16] [0, 13, 1, 2, 3, 4, 5, 6, 7, 8, 9, 10, 11, 12, 14, 15, 16] [32, 33, 34, 35, 36, 37, 38, 39, 40, 41, 42, 43, 44, 45, 46] _ rfl rfl rfl (stg_mem0 (V := [(0, 32, _), (1, 33, _), (2, 34, _), (3, 35, _), (4, 36, _), (5, 37, _), (6, 38, _), (7, 39, _), (8, 40, _), (9, 41, _), (10, 42, _), (11, 43, _), (12, 44, _)]) [0, 1, 2, 3, 4, 5, 6, 7, 8, 9, 10, 11, 12] 13 [13, 12, 11, 9, 8, 7, 6, 5, 4, 3, 2, 0] [14, 15] (fun _ => [(14, 45, _), (15, 46, _)]) rfl rfl (prs_cons (pri rfl (p_move rfl)) (prs_cons (pri rfl (p_move rfl)) (prs_cons (pri rfl (p_move rfl)) (prs_cons (pri rfl (p_nilCheck rfl)) (prs_cons (pri rfl (p_field0 fo100_3 rfl)) (prs_cons (pri rfl (p_loadA t59 rfl rfl rfl (g_row (us := (snC nxt)) (k := 0) rfl rfl))) (prs_cons (pri rfl (p_move rfl)) (prs_cons (pri rfl (p_nilCheck rfl)) (prs_cons (pri rfl (p_field0 fo100_2 rfl)) (prs_cons (pri rfl (p_load1 t3 rfl rfl (g_row1 (k := 0) rfl rfl))) (prs_cons (pri rfl (p_bin rfl rfl (b_add (by first | exact w_i64 (by omega) (by omega) | rfl)))) (prs_cons (pri rfl (p_nilCheck rfl)) (prs_cons (pri rfl (p_field0 fo100_1 rfl)) prs_nil))))))))))))) rfl rfl rfl rfl rfl rfl rfl rfl rfl (fun _ _ => rfl) rfl (ms_store_row (k := 0) t59 rfl rfl rfl rfl rfl rfl rfl rfl) (fun _ _ => stg_mem0 [14, 15, 1, 10] 16 [16, 15, 14, 13, 12, 11, 10, 9, 8, 7, 6, 5, 4, 3, 2, 1, 0] [] (fun _ => []) rfl rfl (prs_cons (pri rfl (p_nilCheck rfl)) (prs_cons (pri rfl (p_field0 fo100_2 rfl)) (prs_cons (pri rfl (p_move rfl)) (prs_cons (pri rfl (p_bin rfl rfl (b_add (by first | exact w_i64 (by omega) (by omega) | rfl)))) prs_nil)))) rfl rfl rfl rfl rfl rfl rfl rfl rfl (fun _ _ => rfl) rfl (ms_store_row (k := 0) t3 rfl rfl rfl rfl rfl rfl rfl rfl) (fun _ _ => stg_end [] rfl rfl prs_nil rfl rfl rfl ?_)))
        refine r_seq ?_
        refine r_region ?_
        refine r_p (p_assign rfl) rfl ?_
        refine r_p (p_assign rfl) rfl ?_
        refine r_nil ?_
        refine r_cret ?_
        have hds : dstep off armed left dur fr (some (k, s)) fr = ⟨(wrF off armed left dur.length fr k s).e, (wrF off armed left dur.length fr k s).off, (wrF off armed left dur.length fr k s).left, dur, (wrF off armed left dur.length fr k s).fr⟩ := rfl
        refine r_ret fr (List.Perm.refl _) rfl (rs2 (rv_tmp rfl) (rv_tmp rfl)) (by simp only [hds, stepO]; rw [if_neg he, if_neg hr] <;> rfl) [0, 1, 2, 3, 4] [] rfl (by simp only [hds, stepO]; rw [if_neg he, if_neg hr] <;> rfl) rfl
set_option maxRecDepth 100000 in
theorem step_spec (J D : Nat) (lst : Sp) (n : Int) (nxt : Sp) (vt : SV) (v : SV) (m : Nat) (off armed : Bool) (left : Int) (dur : List ByteArray) (fr : List (Int × ByteArray)) (rest : List Ac) (hn : 0 ≤ n ∧ n ≤ 1000000000) (hb : ∀ p ∈ fr, 0 ≤ p.1 ∧ p.1 < dur.length) (a : Ac) :
    Spec Try.prog 43 [.pointer (some ⟨J, 0, none⟩)] [row J 100 (jC D lst n nxt vt), ownX 35 (acV D) vt (a :: rest), row D 94 (dC v (some m) off armed left), mp mkI Prod.fst vS (some m) fr, own 9 1 eS (sv v) dur] [actsA J (a :: rest)] (X := List (Int × ByteArray)) (fun l => l.Perm fr) (fun l => .tuple #[.bool (stepO lst n nxt vt a rest (dstep off armed left dur fr a.plain l).e).done, .int .i64 (stepO lst n nxt vt a rest (dstep off armed left dur fr a.plain l).e).e]) (fun l => [row J 100 (jC D (stepO lst n nxt vt a rest (dstep off armed left dur fr a.plain l).e).lst (stepO lst n nxt vt a rest (dstep off armed left dur fr a.plain l).e).n (stepO lst n nxt vt a rest (dstep off armed left dur fr a.plain l).e).nxt (stepO lst n nxt vt a rest (dstep off armed left dur fr a.plain l).e).vt), ownX 35 (acV D) (stepO lst n nxt vt a rest (dstep off armed left dur fr a.plain l).e).vt (stepO lst n nxt vt a rest (dstep off armed left dur fr a.plain l).e).todo, row D 94 (dC v (some m) (dstep off armed left dur fr a.plain l).off armed (dstep off armed left dur fr a.plain l).left), mp mkI Prod.fst vS (some m) (dstep off armed left dur fr a.plain l).fr, own 9 1 eS (sv v) (dstep off armed left dur fr a.plain l).dur]) (fun _ => []) := by
  cases a with
  | sync =>
    cases off with
    | true => exact step_sync_off J D lst n nxt vt v m armed left dur fr rest hn hb
    | false => exact step_sync_on J D lst n nxt vt v m armed left dur fr rest hn hb
  | wr bj bn bs k s => exact step_wr J D lst n nxt vt v m off armed left dur fr rest bj bn bs k s hn hb


end Go.Proofs.Ytohenjmkhncoiaa
