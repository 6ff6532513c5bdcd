/-
  What Writes, Reads and twice compute. No condition.
-/
import Derived.Test.YtfdbkclbcajkiaaB1
import Derived.Test.YtfdbkclbcajkiaaA1
namespace Go.Proofs.Ytfdbkclbcajkiaa
set_option linter.unusedSimpArgs false
set_option linter.unusedVariables false
open Go.RowKit

structure OpR where
  c : Int
  d : Int
  a : Int
  b : Int
  n : Int
def eOp : OpR → List Value := fun o => [.int .i64 o.c, .int .i64 o.d, .int .i64 o.a, .int .i64 o.b, .int .u32 o.n]
def vOp (o : OpR) : Value := .agg (eOp o).toArray
def wrR (o : OpR) : Int := if (shR o.c).d then o.d else -1
def rdR (o : OpR) : List Int := (if (shR o.c).a then [o.a] else []) ++ (if (shR o.c).b && o.b != o.a then [o.b] else [])
def twR (o : OpR) : Bool := decide (o.a = o.b) && (((decide (o.c ≥ 3) && decide (o.c ≤ 15)) || decide (o.c = 18)) || decide (o.c = 19))
theorem sh_ba (c : Int) : (shR c).b = true → (shR c).a = true := by
  unfold shR
  repeat' split
  all_goals simp

theorem shape_spec (c : Int) : Spec Try.prog 40 [.int .i64 c] [] [] (X := Unit) (fun _ => True) (fun _ => .tuple #[.agg #[.bool (shR c).d, .bool (shR c).a, .bool (shR c).b, .bool (shR c).n, .bool (shR c).leaves, .bool (shR c).stores], .bool (okR c)]) (fun _ => []) (fun _ => []) :=
  Spec.of_calls fun w => shape_any c w
theorem shapeRef_spec (c : Int) : Spec Try.prog 21 [.int .i64 c] [] [] (X := Unit) (fun _ => True) (fun _ => .agg #[.bool (okR c), .bool (shR c).d, .bool (shR c).a, .bool (shR c).b, .bool (shR c).n, .bool (shR c).leaves]) (fun _ => []) (fun _ => []) :=
  Spec.of_calls fun w => shapeRef_any c w

set_option maxRecDepth 100000 in
theorem writes_spec (o : OpR) :
    Spec Try.prog 28 [vOp o] [] [] (X := Unit) (fun _ => True) (fun _ => .int .i64 (wrR o)) (fun _ => []) (fun _ => []) := by
  refine r_enter Try.func28 rfl Try.ntmps28 rfl fun w0 M H => ?_
  refine r_seq ?_
  refine r_region ?_
  refine r_boxA rfl rfl fun b1 => ?_
  refine r_p (p_assign rfl) rfl ?_
  refine r_nil ?_
  refine r_seq ?_
  refine r_region ?_
  refine r_p (p_field0 fo47_0 rfl) rfl ?_
  refine r_p (p_load1 t3 rfl rfl (g_row1 (k := 1) rfl rfl)) rfl ?_
  refine r_call (xs := [.tmp 7]) (shape_spec o.c) cb40 [] [] [] [] rfl rfl rfl rfl rfl rfl rfl rfl (fun _ _ => rfl) (fun _ _ _ => rfl) rfl (fun _ _ => ?_)
  refine r_p (p_move rfl) rfl ?_
  refine r_p (p_extract rfl rfl) rfl ?_
  refine r_p (p_extract rfl rfl) rfl ?_
  refine r_alloc t71 rfl rfl fun b3 => ?_
  refine r_store_all (k := 3) t71 rfl rfl rfl rfl rfl rfl ?_
  refine r_p (p_assign rfl) rfl ?_
  refine r_nil ?_
  refine r_seq ?_
  refine r_seq ?_
  refine r_region ?_
  refine r_p (p_field0 fo71_0 rfl) rfl ?_
  refine r_p (p_load1 t4 rfl rfl (g_row1 (k := 3) rfl rfl)) rfl ?_
  refine r_nil ?_
  refine r_cond rfl (fun h1 => ?_) (fun h1 => ?_)
  · (try simp only [decide_eq_true_eq, decide_eq_false_iff_not, Bool.and_eq_true, Bool.or_eq_true, Bool.and_eq_false_iff, Bool.or_eq_false_iff, Bool.not_eq_true, Bool.not_eq_false, Bool.not_eq_true', Bool.not_eq_false', Bool.not_not, bne_iff_ne, beq_iff_eq] at h1)
    refine r_seq ?_
    refine r_region ?_
    refine r_p (p_field0 fo47_1 rfl) rfl ?_
    refine r_p (p_load1 t3 rfl rfl (g_row1 (k := 1) rfl rfl)) rfl ?_
    refine r_p (p_assign rfl) rfl ?_
    refine r_nil ?_
    refine r_cret ?_
    refine r_ret () trivial rfl (rs1 (rv_tmp rfl)) (by unfold wrR; rw [h1]; rfl) [] [] rfl rfl rfl
  · (try simp only [decide_eq_true_eq, decide_eq_false_iff_not, Bool.and_eq_true, Bool.or_eq_true, Bool.and_eq_false_iff, Bool.or_eq_false_iff, Bool.not_eq_true, Bool.not_eq_false, Bool.not_eq_true', Bool.not_eq_false', Bool.not_not, bne_iff_ne, beq_iff_eq] at h1)
    refine r_skip ?_
    refine r_seq ?_
    refine r_region ?_
    refine r_p (p_assign rfl) rfl ?_
    refine r_nil ?_
    refine r_cret ?_
    refine r_ret () trivial rfl (rs1 (rv_tmp rfl)) (by unfold wrR; rw [h1]; rfl) [] [] rfl rfl rfl
set_option maxRecDepth 100000 in
theorem twice_spec (o : OpR) :
    Spec Try.prog 30 [vOp o] [] [] (X := Unit) (fun _ => True) (fun _ => .bool (twR o)) (fun _ => []) (fun _ => []) := by
  refine r_enter Try.func30 rfl Try.ntmps30 rfl fun w0 M H => ?_
  refine r_seq ?_
  refine r_region ?_
  refine r_boxA rfl rfl fun b1 => ?_
  refine r_p (p_assign rfl) rfl ?_
  refine r_nil ?_
  refine r_seq ?_
  refine r_region ?_
  refine r_p (p_field0 fo47_2 rfl) rfl ?_
  refine r_p (p_load1 t3 rfl rfl (g_row1 (k := 1) rfl rfl)) rfl ?_
  refine r_p (p_field0 fo47_3 rfl) rfl ?_
  refine r_p (p_load1 t3 rfl rfl (g_row1 (k := 1) rfl rfl)) rfl ?_
  refine r_p (p_bin rfl rfl b_eq) rfl ?_
  refine r_p (p_move rfl) rfl ?_
  refine r_gp [] rfl rfl trivial (fun hg1 => p_field0 fo47_0 rfl) rfl ?_
  refine r_gp [(9, _)] rfl rfl ⟨rfl, trivial⟩ (fun hg2 => p_load1 t3 rfl rfl (g_row1 (k := 1) rfl rfl)) rfl ?_
  refine r_gp [(9, _), (10, _)] rfl rfl ⟨rfl, rfl, trivial⟩ (fun hg3 => p_bin rfl rfl b_ge) rfl ?_
  refine r_gp [(9, _), (10, _), (11, _)] rfl rfl ⟨rfl, rfl, rfl, trivial⟩ (fun hg4 => p_move rfl) rfl ?_
  refine r_gp2 [] [(9, _), (10, _), (11, _), (12, _)] rfl rfl trivial ⟨rfl, rfl, rfl, rfl, trivial⟩ (fun hg5 hg5' => p_field0 fo47_0 rfl) rfl ?_
  refine r_gp2 [(13, _)] [(9, _), (10, _), (11, _), (12, _)] rfl rfl ⟨rfl, trivial⟩ ⟨rfl, rfl, rfl, rfl, trivial⟩ (fun hg6 hg6' => p_load1 t3 rfl rfl (g_row1 (k := 1) rfl rfl)) rfl ?_
  refine r_gp2 [(13, _), (14, _)] [(9, _), (10, _), (11, _), (12, _)] rfl rfl ⟨rfl, rfl, trivial⟩ ⟨rfl, rfl, rfl, rfl, trivial⟩ (fun hg7 hg7' => p_bin rfl rfl b_le) rfl ?_
  refine r_gp [(9, _), (10, _), (11, _), (12, _)] rfl rfl ⟨rfl, rfl, rfl, rfl, trivial⟩ (fun hg8 => p_pick rfl rfl rfl (by first | exact pick_and | exact pick_or | exact pick_and2 hg8 | exact pick_or2 hg8 | rfl)) rfl ?_
  refine r_gp [(9, _), (10, _), (11, _), (12, _), (16, _)] rfl rfl ⟨rfl, rfl, rfl, rfl, rfl, trivial⟩ (fun hg9 => p_move rfl) rfl ?_
  refine r_gp2 [] [(9, _), (10, _), (11, _), (12, _), (16, _), (17, _)] rfl rfl trivial ⟨rfl, rfl, rfl, rfl, rfl, rfl, trivial⟩ (fun hg10 hg10' => p_field0 fo47_0 rfl) rfl ?_
  refine r_gp2 [(18, _)] [(9, _), (10, _), (11, _), (12, _), (16, _), (17, _)] rfl rfl ⟨rfl, trivial⟩ ⟨rfl, rfl, rfl, rfl, rfl, rfl, trivial⟩ (fun hg11 hg11' => p_load1 t3 rfl rfl (g_row1 (k := 1) rfl rfl)) rfl ?_
  refine r_gp2 [(18, _), (19, _)] [(9, _), (10, _), (11, _), (12, _), (16, _), (17, _)] rfl rfl ⟨rfl, rfl, trivial⟩ ⟨rfl, rfl, rfl, rfl, rfl, rfl, trivial⟩ (fun hg12 hg12' => p_bin rfl rfl b_eq) rfl ?_
  refine r_gp [(9, _), (10, _), (11, _), (12, _), (16, _), (17, _)] rfl rfl ⟨rfl, rfl, rfl, rfl, rfl, rfl, trivial⟩ (fun hg13 => p_pick rfl rfl rfl (by first | exact pick_and | exact pick_or | exact pick_and2 hg13 | exact pick_or2 hg13 | rfl)) rfl ?_
  refine r_gp [(9, _), (10, _), (11, _), (12, _), (16, _), (17, _), (21, _)] rfl rfl ⟨rfl, rfl, rfl, rfl, rfl, rfl, rfl, trivial⟩ (fun hg14 => p_move rfl) rfl ?_
  refine r_gp2 [] [(9, _), (10, _), (11, _), (12, _), (16, _), (17, _), (21, _), (22, _)] rfl rfl trivial ⟨rfl, rfl, rfl, rfl, rfl, rfl, rfl, rfl, trivial⟩ (fun hg15 hg15' => p_field0 fo47_0 rfl) rfl ?_
  refine r_gp2 [(23, _)] [(9, _), (10, _), (11, _), (12, _), (16, _), (17, _), (21, _), (22, _)] rfl rfl ⟨rfl, trivial⟩ ⟨rfl, rfl, rfl, rfl, rfl, rfl, rfl, rfl, trivial⟩ (fun hg16 hg16' => p_load1 t3 rfl rfl (g_row1 (k := 1) rfl rfl)) rfl ?_
  refine r_gp2 [(23, _), (24, _)] [(9, _), (10, _), (11, _), (12, _), (16, _), (17, _), (21, _), (22, _)] rfl rfl ⟨rfl, rfl, trivial⟩ ⟨rfl, rfl, rfl, rfl, rfl, rfl, rfl, rfl, trivial⟩ (fun hg17 hg17' => p_bin rfl rfl b_eq) rfl ?_
  refine r_gp [(9, _), (10, _), (11, _), (12, _), (16, _), (17, _), (21, _), (22, _)] rfl rfl ⟨rfl, rfl, rfl, rfl, rfl, rfl, rfl, rfl, trivial⟩ (fun hg18 => p_pick rfl rfl rfl (by first | exact pick_and | exact pick_or | exact pick_and2 hg18 | exact pick_or2 hg18 | rfl)) rfl ?_
  refine r_p (p_pick rfl rfl rfl (by first | exact pick_and | exact pick_or |  rfl)) rfl ?_
  refine r_p (p_assign rfl) rfl ?_
  refine r_nil ?_
  refine r_cret ?_
  refine r_ret () trivial rfl (rs1 (rv_tmp rfl)) rfl [] [] rfl rfl rfl
set_option maxRecDepth 100000 in
theorem reads_spec (o : OpR) :
    Spec Try.prog 29 [vOp o] [] [] (X := SV) (fun _ => True) (fun v => sv v) (fun v => [own 3 1 eI (sv v) (rdR o)]) (fun _ => []) := by
  refine r_enter Try.func29 rfl Try.ntmps29 rfl fun w0 M H => ?_
  refine r_nilown 5 (S := 3) (s := 1) (enc := eI) ?_
  refine r_seq ?_
  refine r_region ?_
  refine r_boxA rfl rfl fun b1 => ?_
  refine r_p (p_assign rfl) rfl ?_
  refine r_nil ?_
  refine r_seq ?_
  refine r_region ?_
  refine r_p (p_field0 fo47_0 rfl) rfl ?_
  refine r_p (p_load1 t3 rfl rfl (g_row1 (k := 1) rfl rfl)) rfl ?_
  refine r_call (xs := [.tmp 8]) (shape_spec o.c) cb40 [] [] [] [] rfl rfl rfl rfl rfl rfl rfl rfl (fun _ _ => rfl) (fun _ _ _ => rfl) rfl (fun _ _ => ?_)
  refine r_p (p_move rfl) rfl ?_
  refine r_p (p_extract rfl rfl) rfl ?_
  refine r_p (p_extract rfl rfl) rfl ?_
  refine r_alloc t71 rfl rfl fun b3 => ?_
  refine r_store_all (k := 3) t71 rfl rfl rfl rfl rfl rfl ?_
  refine r_p (p_assign rfl) rfl ?_
  refine r_nil ?_
  refine r_seq ?_
  refine r_region ?_
  refine r_p (p_assign rfl) rfl ?_
  refine r_nil ?_
  refine r_seq ?_
  refine r_seq ?_
  refine r_region ?_
  refine r_p (p_field0 fo71_1 rfl) rfl ?_
  refine r_p (p_load1 t4 rfl rfl (g_row1 (k := 3) rfl rfl)) rfl ?_
  refine r_nil ?_
  refine r_cond rfl (fun h1 => ?_) (fun h1 => ?_)
  · (try simp only [decide_eq_true_eq, decide_eq_false_iff_not, Bool.and_eq_true, Bool.or_eq_true, Bool.and_eq_false_iff, Bool.or_eq_false_iff, Bool.not_eq_true, Bool.not_eq_false, Bool.not_eq_true', Bool.not_eq_false', Bool.not_not, bne_iff_ne, beq_iff_eq] at h1)
    refine r_region ?_
    refine r_p (p_move rfl) rfl ?_
    refine r_p (p_field0 fo47_2 rfl) rfl ?_
    refine r_p (p_load1 t3 rfl rfl (g_row1 (k := 1) rfl rfl)) rfl ?_
    refine r_bslice1 eI _ Try.underlying22 t3 rfl (by decide) (by decide) rfl rfl rfl rfl fun v17 => ?_
    refine r_append 5 Try.underlying22 t3 rfl (by decide) (fun _ => rfl) (fun _ => rfl) rfl rfl rfl (hs_own (k := 17) rfl) (by first | omega | (simp; done) | (simp; omega)) (by unfold maxLen; first | omega | (simp; done) | (simp; omega)) rfl fun v18 => ?_
    refine r_p (p_assign rfl) rfl ?_
    refine r_nil ?_
    refine r_seq ?_
    refine r_seq ?_
    refine r_region ?_
    refine r_p (p_field0 fo71_2 rfl) rfl ?_
    refine r_p (p_load1 t4 rfl rfl (g_row1 (k := 3) rfl rfl)) rfl ?_
    refine r_p (p_move rfl) rfl ?_
    refine r_gp [] rfl rfl trivial (fun hg2 => p_field0 fo47_3 rfl) rfl ?_
    refine r_gp [(22, _)] rfl rfl ⟨rfl, trivial⟩ (fun hg3 => p_load1 t3 rfl rfl (g_row1 (k := 1) rfl rfl)) rfl ?_
    refine r_gp [(22, _), (23, _)] rfl rfl ⟨rfl, rfl, trivial⟩ (fun hg4 => p_field0 fo47_2 rfl) rfl ?_
    refine r_gp [(22, _), (23, _), (24, _)] rfl rfl ⟨rfl, rfl, rfl, trivial⟩ (fun hg5 => p_load1 t3 rfl rfl (g_row1 (k := 1) rfl rfl)) rfl ?_
    refine r_gp [(22, _), (23, _), (24, _), (25, _)] rfl rfl ⟨rfl, rfl, rfl, rfl, trivial⟩ (fun hg6 => p_bin rfl rfl b_ne) rfl ?_
    refine r_p (p_pick rfl rfl rfl (by first | exact pick_and | exact pick_or |  rfl)) rfl ?_
    refine r_nil ?_
    refine r_cond rfl (fun h7 => ?_) (fun h7 => ?_)
    · (try simp only [decide_eq_true_eq, decide_eq_false_iff_not, Bool.and_eq_true, Bool.or_eq_true, Bool.and_eq_false_iff, Bool.or_eq_false_iff, Bool.not_eq_true, Bool.not_eq_false, Bool.not_eq_true', Bool.not_eq_false', Bool.not_not, bne_iff_ne, beq_iff_eq] at h7)
      refine r_region ?_
      refine r_p (p_move rfl) rfl ?_
      refine r_p (p_field0 fo47_3 rfl) rfl ?_
      refine r_p (p_load1 t3 rfl rfl (g_row1 (k := 1) rfl rfl)) rfl ?_
      refine r_bslice1 eI _ Try.underlying22 t3 rfl (by decide) (by decide) rfl rfl rfl rfl fun v31 => ?_
      refine r_append 5 Try.underlying22 t3 rfl (by decide) (fun _ => rfl) (fun _ => rfl) rfl rfl rfl (hs_own (k := 31) rfl) (by first | omega | (simp; done) | (simp; omega)) (by unfold maxLen; first | omega | (simp; done) | (simp; omega)) rfl fun v32 => ?_
      refine r_p (p_assign rfl) rfl ?_
      refine r_nil ?_
      refine r_seq ?_
      refine r_region ?_
      refine r_p (p_move rfl) rfl ?_
      refine r_p (p_assign rfl) rfl ?_
      refine r_nil ?_
      refine r_cret ?_
      first
        | refine r_ret _ trivial rfl (rs1 (rv_tmp rfl)) rfl [5] [] rfl (one_eq (own_eq ?_)) rfl
        | refine r_ret nilS trivial rfl (rs1 (rv_tmp rfl)) rfl [5] [] rfl (one_eq (own_eq ?_)) rfl
      have hsh := sh_ba o.c
      unfold rdR
      simp_all
      all_goals (try (intro h; rcases ‹_ ∨ _› with h2 | h2 <;> simp_all))
    · (try simp only [decide_eq_true_eq, decide_eq_false_iff_not, Bool.and_eq_true, Bool.or_eq_true, Bool.and_eq_false_iff, Bool.or_eq_false_iff, Bool.not_eq_true, Bool.not_eq_false, Bool.not_eq_true', Bool.not_eq_false', Bool.not_not, bne_iff_ne, beq_iff_eq] at h7)
      refine r_skip ?_
      refine r_seq ?_
      refine r_region ?_
      refine r_p (p_move rfl) rfl ?_
      refine r_p (p_assign rfl) rfl ?_
      refine r_nil ?_
      refine r_cret ?_
      first
        | refine r_ret _ trivial rfl (rs1 (rv_tmp rfl)) rfl [5] [] rfl (one_eq (own_eq ?_)) rfl
        | refine r_ret nilS trivial rfl (rs1 (rv_tmp rfl)) rfl [5] [] rfl (one_eq (own_eq ?_)) rfl
      have hsh := sh_ba o.c
      unfold rdR
      simp_all
      all_goals (try (intro h; rcases ‹_ ∨ _› with h2 | h2 <;> simp_all))
  · (try simp only [decide_eq_true_eq, decide_eq_false_iff_not, Bool.and_eq_true, Bool.or_eq_true, Bool.and_eq_false_iff, Bool.or_eq_false_iff, Bool.not_eq_true, Bool.not_eq_false, Bool.not_eq_true', Bool.not_eq_false', Bool.not_not, bne_iff_ne, beq_iff_eq] at h1)
    refine r_skip ?_
    refine r_seq ?_
    refine r_seq ?_
    refine r_region ?_
    refine r_p (p_field0 fo71_2 rfl) rfl ?_
    refine r_p (p_load1 t4 rfl rfl (g_row1 (k := 3) rfl rfl)) rfl ?_
    refine r_p (p_move rfl) rfl ?_
    refine r_gp [] rfl rfl trivial (fun hg8 => p_field0 fo47_3 rfl) rfl ?_
    refine r_gp [(22, _)] rfl rfl ⟨rfl, trivial⟩ (fun hg9 => p_load1 t3 rfl rfl (g_row1 (k := 1) rfl rfl)) rfl ?_
    refine r_gp [(22, _), (23, _)] rfl rfl ⟨rfl, rfl, trivial⟩ (fun hg10 => p_field0 fo47_2 rfl) rfl ?_
    refine r_gp [(22, _), (23, _), (24, _)] rfl rfl ⟨rfl, rfl, rfl, trivial⟩ (fun hg11 => p_load1 t3 rfl rfl (g_row1 (k := 1) rfl rfl)) rfl ?_
    refine r_gp [(22, _), (23, _), (24, _), (25, _)] rfl rfl ⟨rfl, rfl, rfl, rfl, trivial⟩ (fun hg12 => p_bin rfl rfl b_ne) rfl ?_
    refine r_p (p_pick rfl rfl rfl (by first | exact pick_and | exact pick_or |  rfl)) rfl ?_
    refine r_nil ?_
    refine r_cond rfl (fun h13 => ?_) (fun h13 => ?_)
    · (try simp only [decide_eq_true_eq, decide_eq_false_iff_not, Bool.and_eq_true, Bool.or_eq_true, Bool.and_eq_false_iff, Bool.or_eq_false_iff, Bool.not_eq_true, Bool.not_eq_false, Bool.not_eq_true', Bool.not_eq_false', Bool.not_not, bne_iff_ne, beq_iff_eq] at h13)
      refine r_region ?_
      refine r_p (p_move rfl) rfl ?_
      refine r_p (p_field0 fo47_3 rfl) rfl ?_
      refine r_p (p_load1 t3 rfl rfl (g_row1 (k := 1) rfl rfl)) rfl ?_
      refine r_bslice1 eI _ Try.underlying22 t3 rfl (by decide) (by decide) rfl rfl rfl rfl fun v31 => ?_
      refine r_append 5 Try.underlying22 t3 rfl (by decide) (fun _ => rfl) (fun _ => rfl) rfl rfl rfl (hs_own (k := 31) rfl) (by first | omega | (simp; done) | (simp; omega)) (by unfold maxLen; first | omega | (simp; done) | (simp; omega)) rfl fun v32 => ?_
      refine r_p (p_assign rfl) rfl ?_
      refine r_nil ?_
      refine r_seq ?_
      refine r_region ?_
      refine r_p (p_move rfl) rfl ?_
      refine r_p (p_assign rfl) rfl ?_
      refine r_nil ?_
      refine r_cret ?_
      first
        | refine r_ret _ trivial rfl (rs1 (rv_tmp rfl)) rfl [5] [] rfl (one_eq (own_eq ?_)) rfl
        | refine r_ret nilS trivial rfl (rs1 (rv_tmp rfl)) rfl [5] [] rfl (one_eq (own_eq ?_)) rfl
      have hsh := sh_ba o.c
      unfold rdR
      simp_all
      all_goals (try (intro h; rcases ‹_ ∨ _› with h2 | h2 <;> simp_all))
    · (try simp only [decide_eq_true_eq, decide_eq_false_iff_not, Bool.and_eq_true, Bool.or_eq_true, Bool.and_eq_false_iff, Bool.or_eq_false_iff, Bool.not_eq_true, Bool.not_eq_false, Bool.not_eq_true', Bool.not_eq_false', Bool.not_not, bne_iff_ne, beq_iff_eq] at h13)
      refine r_skip ?_
      refine r_seq ?_
      refine r_region ?_
      refine r_p (p_move rfl) rfl ?_
      refine r_p (p_assign rfl) rfl ?_
      refine r_nil ?_
      refine r_cret ?_
      first
        | refine r_ret _ trivial rfl (rs1 (rv_tmp rfl)) rfl [5] [] rfl (one_eq (own_eq ?_)) rfl
        | refine r_ret nilS trivial rfl (rs1 (rv_tmp rfl)) rfl [5] [] rfl (one_eq (own_eq ?_)) rfl
      have hsh := sh_ba o.c
      unfold rdR
      simp_all
      all_goals (try (intro h; rcases ‹_ ∨ _› with h2 | h2 <;> simp_all))

end Go.Proofs.Ytfdbkclbcajkiaa
