/-
  Part of the proof: the texts R2, R3, R4, S2, S3, AE, AF, KD, AG, AH, AV, AW, KJ, AX. Conditions are with the theorems.
-/
import Derived.Orders
import Derived.Recover
import Derived.Test.YtdcbbkpdlcojfaaGreatP7a
import Derived.Test.YtdcbbkpdlcojfaaGreatP7b
import Derived.Test.YtdcbbkpdlcojfaaGreatP7c
namespace Go.Proofs.YtdcbbkpdlcojfaaGreat
set_option linter.unusedSimpArgs false
set_option linter.unusedVariables false
open Go.RowKit
/-- The contract of stmts. -/
def HRy (v : SV) (l : List Ty) : Prop := Spec Tryz.prog 52 [sv v] [] [tysA v l] (X := Unit) (fun _ => True) (fun _ => .bool (l.all rY)) (fun _ => []) (fun _ => [])
theorem all_take {α : Type} {p : α → Bool} {l : List α} {i : Nat} {u : α} (h : l[i]? = some u) : (l.take (i + 1)).all p = ((l.take i).all p && p u) := by
 rw [take_snoc h]
 simp
theorem all_no {α : Type} {p : α → Bool} {l : List α} {u : α} (hm : u ∈ l) (h : p u = false) : l.all p = false := by
 rw [Bool.eq_false_iff]
 intro h2
 rw [List.all_eq_true] at h2
 rw [h2 u hm] at h
 cases h
theorem rY_def (t : Ty) : rY t = (okY t.kind t.name t.es.length t.body.length t.els.length && t.es.all rX && t.body.all rY && t.els.all rY) := by
 cases t
 rw [rY, rXs_all, rYs_all, rYs_all]
 rfl
theorem rY_k {t : Ty} (h : t.kind < 1 ∨ t.kind > 8) : rY t = false := by
 rw [rY_def]
 unfold okY
 rcases h with h | h
 ·rw [decide_eq_false (show ¬ t.kind ≥ 1 by omega)]; rfl
 ·rw [decide_eq_false (show ¬ t.kind ≤ 8 by omega)]; simp
theorem rY_n {t : Ty} (h : (((decide (t.kind = 1) || decide (t.kind = 2)) && !identB t.name) || (!(decide (t.kind = 1) || decide (t.kind = 2)) && !(t.name == ⟨#[]⟩)) || !decide ((t.es.length : Int) = (if t.kind = 3 then 2 else 1))) = true) : rY t = false := by
 rw [rY_def]
 unfold okY
 by_cases hn : t.es.length = if t.kind = 3 then 2 else 1
 ·have hn2 : (t.es.length : Int) = if t.kind = 3 then 2 else 1 := by
   rw [hn]; split <;> rfl
  rw [decide_eq_true hn2] at h
  by_cases hk : t.kind = 1 ∨ t.kind = 2
  ·have hk2 : (decide (t.kind = 1) || decide (t.kind = 2)) = true := by simpa using hk
   rw [hk2] at h
   rw [if_pos hk]
   have h3 : identB t.name = false := by simpa using h
   rw [h3]
   simp
  ·have hk2 : (decide (t.kind = 1) || decide (t.kind = 2)) = false := by simpa using hk
   rw [hk2] at h
   rw [if_neg hk]
   have h3 : (t.name == ⟨#[]⟩) = false := by simpa using h
   rw [ba_eq] at h3
   rw [show decide (t.name = oNil) = false from h3]
   simp
 ·rw [decide_eq_false hn]
  simp
theorem rY_b {t : Ty} (h : (!decide (t.kind = 4) && (decide ((t.els.length : Int) > 0) || (!decide (t.kind = 5) && decide ((t.body.length : Int) > 0)))) = true) : rY t = false := by
 rw [rY_def]
 unfold okY
 have h4 : t.kind ≠ 4 := by
  intro h4
  rw [decide_eq_true h4] at h
  simp at h
 rw [decide_eq_false h4]
 by_cases h5 : t.els.length = 0
 ·rw [h5] at h
  by_cases h6 : t.kind = 5
  ·rw [decide_eq_true h6] at h; simp at h
  ·by_cases h7 : t.body.length = 0
   ·rw [h7] at h; simp at h
   ·rw [decide_eq_false h6, decide_eq_false h7]; simp
 ·rw [decide_eq_false h5]; simp
theorem rY_e {t : Ty} {u : Tx} (hm : u ∈ t.es) (h : rX u = false) : rY t = false := by
 rw [rY_def, all_no hm h]
 simp
theorem rY_s {t : Ty} (h : t.body.all rY = false ∨ t.els.all rY = false) : rY t = false := by
 rw [rY_def]
 rcases h with h | h <;> rw [h] <;> simp
theorem rY_ok {t : Ty} (h1 : ¬ t.kind < 1 ∧ ¬ t.kind > 8) (h2 : (((decide (t.kind = 1) || decide (t.kind = 2)) && !identB t.name) || (!(decide (t.kind = 1) || decide (t.kind = 2)) && !(t.name == ⟨#[]⟩)) || !decide ((t.es.length : Int) = (if t.kind = 3 then 2 else 1))) = false)
  (h3 : (!decide (t.kind = 4) && (decide ((t.els.length : Int) > 0) || (!decide (t.kind = 5) && decide ((t.body.length : Int) > 0)))) = false) (h4 : t.es.all rX = true) (h5 : t.body.all rY = true ∧ t.els.all rY = true) : rY t = true := by
 rw [rY_def, h4, h5.1, h5.2]
 unfold okY
 rw [decide_eq_true (show t.kind ≥ 1 by omega), decide_eq_true (show t.kind ≤ 8 by omega)]
 simp only [Bool.or_eq_false_iff] at h2
 have hn : t.es.length = if t.kind = 3 then 2 else 1 := by
  have h := h2.2
  simp only [Bool.not_eq_false', decide_eq_true_eq] at h
  split at h <;> rename_i h6
  ·rw [if_pos h6]; omega
  ·rw [if_neg h6]; omega
 rw [decide_eq_true hn]
 have hnm : (if t.kind = 1 ∨ t.kind = 2 then identB t.name else decide (t.name = oNil)) = true := by
  by_cases hk : t.kind = 1 ∨ t.kind = 2
  ·have hk2 : (decide (t.kind = 1) || decide (t.kind = 2)) = true := by simpa using hk
   have h := h2.1.1
   rw [hk2] at h
   rw [if_pos hk]
   simpa using h
  ·have hk2 : (decide (t.kind = 1) || decide (t.kind = 2)) = false := by simpa using hk
   have h := h2.1.2
   rw [hk2] at h
   rw [if_neg hk]
   have h7 : (t.name == ⟨#[]⟩) = true := by simpa using h
   rw [ba_eq] at h7
   exact h7
 rw [hnm]
 by_cases h8 : t.kind = 4
 ·rw [decide_eq_true h8]; rfl
 ·rw [decide_eq_false h8] at h3
  simp only [Bool.not_false, Bool.true_and, Bool.or_eq_false_iff] at h3
  have h9 : t.els.length = 0 := by
   have h := of_decide_eq_false h3.1
   omega
  rw [decide_eq_true h9]
  by_cases h10 : t.kind = 5
  ·rw [decide_eq_true h10]; simp
  ·have h := h3.2
   rw [decide_eq_false h10] at h
   have h11 : t.body.length = 0 := by
    have h := of_decide_eq_false (show decide ((t.body.length : Int) > 0) = false by simpa using h)
    omega
   rw [decide_eq_true h11]; simp
set_option maxHeartbeats 8000000 in
set_option maxRecDepth 100000 in
theorem ry8_step (v : SV) (l : List Ty) (hl : l.length ≤ 1000000) (hg : GYs l) (ih : ∀ u ∈ l, HRy u.vb u.body ∧ HRy u.vl u.els) :
  Spec Tryz.prog 52 [sv v] [] [tysA v l] (X := Unit) (fun _ => True) (fun _ => .bool (l.all rY)) (fun _ => []) (fun _ => []) := by
 refine r_enter Tryz.func52 rfl Tryz.ntmps52 rfl fun w0 M H => ?_
 refine r_more 0 1 rfl tys_sl ?_
 refine r_seq (r_region (r_p (p_assign rfl) rfl (r_nil (r_seq (r_seq (r_region (r_p (p_assign rfl) rfl (r_nil (r_block ?_)))))))))
 refine r_loop (X := Nat) (fun i => i ≤ l.length ∧ (l.take i).all rY = true) (fun i => [(0, sv v), (3, .int .i64 (i : Int))]) (fun i => []) (fun i => [(0, tysA v l), (1, sl 5 eTy (sv v) l)]) (fun i => l.length - i) 0 ⟨Nat.zero_le _, rfl⟩ rfl rfl rfl (fun i hx0 => ?_)
 obtain ⟨n1, n2⟩ := hx0
 refine r_seq (r_seq (r_region (r_p (p_move rfl) rfl (r_p (p_move rfl) rfl ?_))))
 refine r_p (p_len_sl Tryz.underlying51 rfl (hs_sl (k := 1) rfl)) rfl ?_
 refine r_p (p_bin rfl rfl b_lt) rfl ?_
 refine r_nil ?_
 refine r_cond rfl (fun h1 => ?_) (fun h1 => ?_)
 ·(try simp only [decide_eq_true_eq, decide_eq_false_iff_not, Bool.and_eq_true, Bool.or_eq_true, Bool.and_eq_false_iff, Bool.or_eq_false_iff, Bool.not_eq_true, Bool.not_eq_false, Bool.not_eq_true', Bool.not_eq_false', Bool.not_not, bne_iff_ne, beq_iff_eq] at h1)
  have hi : i < l.length := by omega
  obtain ⟨st, hst⟩ : ∃ k, l[i]? = some k := ⟨_, List.getElem?_eq_getElem hi⟩
  have hsm := List.mem_of_getElem? hst
  have hsg := GY_es (hg.mem st hsm)
  refine r_more 0 7 rfl (tys_es hsm) ?_
  refine r_more 0 8 rfl (tys_body hsm) ?_
  refine r_more 0 9 rfl (tys_els hsm) ?_
  refine r_more 7 10 rfl txs_sl ?_
  refine r_more 8 11 rfl tys_sl ?_
  refine r_more 9 12 rfl tys_sl ?_
  refine r_skip (r_seq (r_block (r_seq (r_region (r_p (p_move rfl) rfl (r_p (p_move rfl) rfl ?_))))))
  refine r_p (p_idx_sl (j := i) Tryz.underlying51 t53 rfl rfl (hs_sl (k := 1) rfl) (by first | rfl | omega) (by first | omega | (simp; done) | (simp; omega))) rfl ?_
  refine r_p (p_loadA t53 rfl rfl rfl (g_el' (hs_sl (k := 1) rfl) (by intro _; rfl) hst (by rfl))) rfl ?_
  refine r_alloc t53 rfl rfl fun b4 => ?_
  refine r_store_all (k := 4) t53 rfl rfl rfl rfl rfl rfl ?_
  refine r_nil (r_seq (r_seq (r_region ?_)))
  refine r_p (p_field0 fo53_0 rfl) rfl ?_
  refine r_p (p_load1 t3 rfl rfl (g_row1 (k := 4) rfl rfl)) rfl ?_
  refine r_p (p_bin rfl rfl b_lt) rfl ?_
  refine r_p (p_move rfl) rfl ?_
  refine r_gp [] rfl rfl trivial (fun hg2 => p_field0 fo53_0 rfl) rfl ?_
  refine r_gp [(26, _)] rfl rfl ⟨rfl, trivial⟩ (fun hg3 => p_load1 t3 rfl rfl (g_row1 (k := 4) rfl rfl)) rfl ?_
  refine r_gp [(26, _), (27, _)] rfl rfl ⟨rfl, rfl, trivial⟩ (fun hg4 => p_bin rfl rfl b_gt) rfl ?_
  refine r_p (p_pick rfl rfl rfl (by first | exact pick_and | exact pick_or |  rfl)) rfl ?_
  refine r_nil ?_
  refine r_cond rfl (fun h5 => ?_) (fun h5 => ?_)
  ·(try simp only [decide_eq_true_eq, decide_eq_false_iff_not, Bool.and_eq_true, Bool.or_eq_true, Bool.and_eq_false_iff, Bool.or_eq_false_iff, Bool.not_eq_true, Bool.not_eq_false, Bool.not_eq_true', Bool.not_eq_false', Bool.not_not, bne_iff_ne, beq_iff_eq] at h5)
   have q2 := h5
   refine r_seq (r_region (r_p (p_assign rfl) rfl (r_nil (r_cret ?_))))
   refine r_ret () trivial rfl (rs1 (rv_tmp rfl)) (congrArg Value.bool (all_no hsm (rY_k q2)).symm) [] [] rfl rfl rfl
  ·(try simp only [decide_eq_true_eq, decide_eq_false_iff_not, Bool.and_eq_true, Bool.or_eq_true, Bool.and_eq_false_iff, Bool.or_eq_false_iff, Bool.not_eq_true, Bool.not_eq_false, Bool.not_eq_true', Bool.not_eq_false', Bool.not_not, bne_iff_ne, beq_iff_eq] at h5)
   have q2 := h5
   refine r_skip (r_seq (r_region ?_))
   refine r_p (p_field0 fo53_0 rfl) rfl ?_
   refine r_p (p_load1 t3 rfl rfl (g_row1 (k := 4) rfl rfl)) rfl ?_
   refine r_p (p_bin rfl rfl b_eq) rfl ?_
   refine r_p (p_move rfl) rfl ?_
   refine r_gp [] rfl rfl trivial (fun hg6 => p_field0 fo53_0 rfl) rfl ?_
   refine r_gp [(34, _)] rfl rfl ⟨rfl, trivial⟩ (fun hg7 => p_load1 t3 rfl rfl (g_row1 (k := 4) rfl rfl)) rfl ?_
   refine r_gp [(34, _), (35, _)] rfl rfl ⟨rfl, rfl, trivial⟩ (fun hg8 => p_bin rfl rfl b_eq) rfl ?_
   refine r_p (p_pick rfl rfl rfl (by first | exact pick_and | exact pick_or |  rfl)) rfl ?_
   refine r_p (p_assign rfl) rfl (r_nil (r_seq (r_region ?_)))
   refine r_p (p_field0 fo53_1 rfl) rfl ?_
   refine r_p (p_load1 t9 rfl rfl (g_row1 (k := 4) rfl rfl)) rfl ?_
   refine r_callN (xs := [.tmp 39]) (isname_spec st.name) cb51 [] [] [] rfl rfl rfl rfl rfl rfl rfl rfl (fun _ _ => rfl) (fun _ _ _ => rfl) rfl (fun _ _ => ?_)
   refine r_p (p_assign rfl) rfl (r_nil (r_seq (r_region (r_p (p_assign rfl) rfl (r_nil ?_)))))
   refine r_seq_cut (X := Unit) (fun _ => True) (fun _ => [(0, sv v), (3, .int .i64 (i : Int)), (4, .pointer (some ⟨b4, 0, none⟩)), (5, .bool (decide (st.kind = 1) || decide (st.kind = 2))), (6, .bool (identB st.name)), (7, .int .i64 (if st.kind = 3 then 2 else 1))]) (fun _ => [(4, row b4 53 (eTy st))]) (fun _ => [(0, tysA v l), (1, sl 5 eTy (sv v) l), (7, txsA st.ve st.es), (8, tysA st.vb st.body), (9, tysA st.vl st.els), (10, sl 4 eTx (sv st.ve) st.es), (11, sl 5 eTy (sv st.vb) st.body), (12, sl 5 eTy (sv st.vl) st.els)]) ?_ (fun _ _ => ?_)
   ·refine r_seq (r_region ?_)
    refine r_p (p_field0 fo53_0 rfl) rfl ?_
    refine r_p (p_load1 t3 rfl rfl (g_row1 (k := 4) rfl rfl)) rfl ?_
    refine r_p (p_bin rfl rfl b_eq) rfl ?_
    refine r_nil ?_
    refine r_cond rfl (fun h9 => ?_) (fun h9 => ?_)
    ·have q3 : st.kind = 3 := of_decide_eq_true h9
     refine r_region (r_p (p_assign rfl) rfl (r_nil ?_))
     refine r_here () trivial (by rw [if_pos q3]; rfl) rfl rfl
    ·have q3 : ¬ st.kind = 3 := of_decide_eq_false h9
     refine r_skip ?_
     refine r_here () trivial (by rw [if_neg q3]; rfl) rfl rfl
   ·refine r_seq (r_seq (r_region (r_p (p_move rfl) rfl (r_p (p_move rfl) rfl ?_))))
    refine r_gp [] rfl rfl trivial (fun hg10 => p_move rfl) rfl ?_
    refine r_gp [(46, _)] rfl rfl ⟨rfl, trivial⟩ (fun hg11 => p_not rfl) rfl ?_
    refine r_p (p_pick rfl rfl rfl (by first | exact pick_and | exact pick_or |  rfl)) rfl ?_
    refine r_p (p_move rfl) rfl ?_
    refine r_gp [] rfl rfl trivial (fun hg12 => p_move rfl) rfl ?_
    refine r_gp [(50, _)] rfl rfl ⟨rfl, trivial⟩ (fun hg13 => p_not rfl) rfl ?_
    refine r_gp [(50, _), (51, _)] rfl rfl ⟨rfl, rfl, trivial⟩ (fun hg14 => p_move rfl) rfl ?_
    refine r_gp2 [] [(50, _), (51, _), (52, _)] rfl rfl trivial ⟨rfl, rfl, rfl, trivial⟩ (fun hg15 hg15' => p_field0 fo53_1 rfl) rfl ?_
    refine r_gp2 [(53, _)] [(50, _), (51, _), (52, _)] rfl rfl ⟨rfl, trivial⟩ ⟨rfl, rfl, rfl, trivial⟩ (fun hg16 hg16' => p_load1 t9 rfl rfl (g_row1 (k := 4) rfl rfl)) rfl ?_
    refine r_gp2 [(53, _), (54, _)] [(50, _), (51, _), (52, _)] rfl rfl ⟨rfl, rfl, trivial⟩ ⟨rfl, rfl, rfl, trivial⟩ (fun hg17 hg17' => p_bin rfl rfl b_sne) rfl ?_
    refine r_gp [(50, _), (51, _), (52, _)] rfl rfl ⟨rfl, rfl, rfl, trivial⟩ (fun hg18 => p_pick rfl rfl rfl (by first | exact pick_and | exact pick_or | exact pick_and2 hg18 | exact pick_or2 hg18 | rfl)) rfl ?_
    refine r_p (p_pick rfl rfl rfl (by first | exact pick_and | exact pick_or |  rfl)) rfl ?_
    refine r_p (p_move rfl) rfl ?_
    refine r_gp [] rfl rfl trivial (fun hg19 => p_field0 fo53_2 rfl) rfl ?_
    refine r_gp [(59, _)] rfl rfl ⟨rfl, trivial⟩ (fun hg20 => p_load1 t46 rfl rfl (g_row1 (k := 4) rfl rfl)) rfl ?_
    refine r_gp [(59, _), (60, _)] rfl rfl ⟨rfl, rfl, trivial⟩ (fun hg21 => p_len_sl Tryz.underlying46 rfl (hs_sl (k := 10) rfl)) rfl ?_
    refine r_gp [(59, _), (60, _), (61, _)] rfl rfl ⟨rfl, rfl, rfl, trivial⟩ (fun hg22 => p_move rfl) rfl ?_
    refine r_gp [(59, _), (60, _), (61, _), (62, _)] rfl rfl ⟨rfl, rfl, rfl, rfl, trivial⟩ (fun hg23 => p_bin rfl rfl b_ne) rfl ?_
    refine r_p (p_pick rfl rfl rfl (by first | exact pick_and | exact pick_or |  rfl)) rfl ?_
    refine r_nil ?_
    refine r_cond rfl (fun h24 => ?_) (fun h24 => ?_)
    ·have q4 := h24
     refine r_seq (r_region (r_p (p_assign rfl) rfl (r_nil (r_cret ?_))))
     refine r_ret () trivial rfl (rs1 (rv_tmp rfl)) (congrArg Value.bool (all_no hsm (rY_n q4)).symm) [] [] rfl rfl rfl
    ·have q4 := h24
     have hes : (st.es.length : Int) = if st.kind = 3 then 2 else 1 := by
      have h := (Bool.or_eq_false_iff.1 q4).2
      simpa using h
     rw [← hes]
     refine r_skip (r_seq (r_seq (r_region ?_)))
     refine r_p (p_field0 fo53_0 rfl) rfl ?_
     refine r_p (p_load1 t3 rfl rfl (g_row1 (k := 4) rfl rfl)) rfl ?_
     refine r_p (p_bin rfl rfl b_ne) rfl ?_
     refine r_p (p_move rfl) rfl ?_
     refine r_gp [] rfl rfl trivial (fun hg25 => p_field0 fo53_4 rfl) rfl ?_
     refine r_gp [(69, _)] rfl rfl ⟨rfl, trivial⟩ (fun hg26 => p_load1 t51 rfl rfl (g_row1 (k := 4) rfl rfl)) rfl ?_
     refine r_gp [(69, _), (70, _)] rfl rfl ⟨rfl, rfl, trivial⟩ (fun hg27 => p_len_sl Tryz.underlying51 rfl (hs_sl (k := 12) rfl)) rfl ?_
     refine r_gp [(69, _), (70, _), (71, _)] rfl rfl ⟨rfl, rfl, rfl, trivial⟩ (fun hg28 => p_bin rfl rfl b_gt) rfl ?_
     refine r_gp [(69, _), (70, _), (71, _), (72, _)] rfl rfl ⟨rfl, rfl, rfl, rfl, trivial⟩ (fun hg29 => p_move rfl) rfl ?_
     refine r_gp2 [] [(69, _), (70, _), (71, _), (72, _), (73, _)] rfl rfl trivial ⟨rfl, rfl, rfl, rfl, rfl, trivial⟩ (fun hg30 hg30' => p_field0 fo53_0 rfl) rfl ?_
     refine r_gp2 [(74, _)] [(69, _), (70, _), (71, _), (72, _), (73, _)] rfl rfl ⟨rfl, trivial⟩ ⟨rfl, rfl, rfl, rfl, rfl, trivial⟩ (fun hg31 hg31' => p_load1 t3 rfl rfl (g_row1 (k := 4) rfl rfl)) rfl ?_
     refine r_gp2 [(74, _), (75, _)] [(69, _), (70, _), (71, _), (72, _), (73, _)] rfl rfl ⟨rfl, rfl, trivial⟩ ⟨rfl, rfl, rfl, rfl, rfl, trivial⟩ (fun hg32 hg32' => p_bin rfl rfl b_ne) rfl ?_
     refine r_gp2 [(74, _), (75, _), (76, _)] [(69, _), (70, _), (71, _), (72, _), (73, _)] rfl rfl ⟨rfl, rfl, rfl, trivial⟩ ⟨rfl, rfl, rfl, rfl, rfl, trivial⟩ (fun hg33 hg33' => p_move rfl) rfl ?_
     refine r_gp2 [] [(74, _), (75, _), (76, _), (77, _)] rfl rfl trivial ⟨rfl, rfl, rfl, rfl, trivial⟩ (fun hg34 hg34' => p_field0 fo53_3 rfl) rfl ?_
     refine r_gp2 [(78, _)] [(74, _), (75, _), (76, _), (77, _)] rfl rfl ⟨rfl, trivial⟩ ⟨rfl, rfl, rfl, rfl, trivial⟩ (fun hg35 hg35' => p_load1 t51 rfl rfl (g_row1 (k := 4) rfl rfl)) rfl ?_
     refine r_gp2 [(78, _), (79, _)] [(74, _), (75, _), (76, _), (77, _)] rfl rfl ⟨rfl, rfl, trivial⟩ ⟨rfl, rfl, rfl, rfl, trivial⟩ (fun hg36 hg36' => p_len_sl Tryz.underlying51 rfl (hs_sl (k := 11) rfl)) rfl ?_
     refine r_gp2 [(78, _), (79, _), (80, _)] [(74, _), (75, _), (76, _), (77, _)] rfl rfl ⟨rfl, rfl, rfl, trivial⟩ ⟨rfl, rfl, rfl, rfl, trivial⟩ (fun hg37 hg37' => p_bin rfl rfl b_gt) rfl ?_
     refine r_gp2 [(74, _), (75, _), (76, _), (77, _)] [(69, _), (70, _), (71, _), (72, _), (73, _)] rfl rfl ⟨rfl, rfl, rfl, rfl, trivial⟩ ⟨rfl, rfl, rfl, rfl, rfl, trivial⟩ (fun hg38 hg38' => p_pick rfl rfl rfl (by first | exact pick_and | exact pick_or | exact pick_and2 hg38 | exact pick_or2 hg38 |exact pick_and2 (band2 hg38 hg38') | exact pick_or2 (band2 hg38 hg38') | rfl)) rfl ?_
     refine r_gp [(69, _), (70, _), (71, _), (72, _), (73, _)] rfl rfl ⟨rfl, rfl, rfl, rfl, rfl, trivial⟩ (fun hg39 => p_pick rfl rfl rfl (by first | exact pick_and | exact pick_or | exact pick_and2 hg39 | exact pick_or2 hg39 | rfl)) rfl ?_
     refine r_p (p_pick rfl rfl rfl (by first | exact pick_and | exact pick_or |  rfl)) rfl ?_
     refine r_nil ?_
     refine r_cond rfl (fun h40 => ?_) (fun h40 => ?_)
     ·have q5 := h40
      refine r_seq (r_region (r_p (p_assign rfl) rfl (r_nil (r_cret ?_))))
      refine r_ret () trivial rfl (rs1 (rv_tmp rfl)) (congrArg Value.bool (all_no hsm (rY_b q5)).symm) [] [] rfl rfl rfl
     ·have q5 := h40
      refine r_skip (r_seq (r_seq (r_region (r_p (p_assign rfl) rfl (r_nil (r_block ?_))))))
      refine r_loop (X := Nat) (fun j => j ≤ st.es.length ∧ (st.es.take j).all rX = true) (fun j => [(0, sv v), (3, .int .i64 (i : Int)), (4, .pointer (some ⟨b4, 0, none⟩)), (7, .int .i64 (st.es.length : Int)), (8, .int .i64 (j : Int))]) (fun j => [(4, row b4 53 (eTy st))]) (fun j => [(0, tysA v l), (1, sl 5 eTy (sv v) l), (7, txsA st.ve st.es), (8, tysA st.vb st.body), (9, tysA st.vl st.els), (10, sl 4 eTx (sv st.ve) st.es), (11, sl 5 eTy (sv st.vb) st.body), (12, sl 5 eTy (sv st.vl) st.els)]) (fun j => st.es.length - j) 0 ⟨Nat.zero_le _, rfl⟩ rfl rfl rfl (fun j hy0 => ?_)
      obtain ⟨n3, n4⟩ := hy0
      refine r_seq (r_seq (r_region (r_p (p_move rfl) rfl (r_p (p_move rfl) rfl ?_))))
      refine r_p (p_bin rfl rfl b_lt) rfl ?_
      refine r_nil ?_
      refine r_cond rfl (fun h41 => ?_) (fun h41 => ?_)
      ·(try simp only [decide_eq_true_eq, decide_eq_false_iff_not, Bool.and_eq_true, Bool.or_eq_true, Bool.and_eq_false_iff, Bool.or_eq_false_iff, Bool.not_eq_true, Bool.not_eq_false, Bool.not_eq_true', Bool.not_eq_false', Bool.not_not, bne_iff_ne, beq_iff_eq] at h41)
       have hj : j < st.es.length := by omega
       obtain ⟨u, hu⟩ : ∃ k, st.es[j]? = some k := ⟨_, List.getElem?_eq_getElem hj⟩
       have hum := List.mem_of_getElem? hu
       refine r_skip (r_seq (r_block (r_seq (r_region ?_))))
       refine r_p (p_field0 fo53_2 rfl) rfl ?_
       refine r_p (p_load1 t46 rfl rfl (g_row1 (k := 4) rfl rfl)) rfl ?_
       refine r_p (p_move rfl) rfl ?_
       refine r_p (p_idx_sl (j := j) Tryz.underlying46 t48 rfl rfl (hs_sl (k := 10) rfl) (by first | rfl | omega) hj) rfl ?_
       refine r_p (p_loadA t48 rfl rfl rfl (g_el' (hs_sl (k := 10) rfl) (by intro _; rfl) hu (by rfl))) rfl ?_
       refine r_more 7 13 rfl (txs_kid hum) ?_
       refine r_callN (xs := [.tmp 94]) (rx8_spec u (hsg.2.mem u hum)) cb90 [] [(false, 13)] [] rfl rfl rfl rfl rfl rfl rfl rfl (fun _ _ => rfl) (fun _ _ _ => rfl) rfl (fun _ _ => ?_)
       refine r_p (p_assign rfl) rfl (r_nil (r_seq (r_region (r_p (p_move rfl) rfl ?_))))
       refine r_p (p_not rfl) rfl ?_
       refine r_nil ?_
       refine r_cond rfl (fun h42 => ?_) (fun h42 => ?_)
       ·have q7 : rX u = false := by simpa using h42
        refine r_seq (r_region (r_p (p_assign rfl) rfl (r_nil (r_cret ?_))))
        refine r_ret () trivial rfl (rs1 (rv_tmp rfl)) (congrArg Value.bool (all_no hsm (rY_e hum q7)).symm) [] [] rfl rfl rfl
       ·have q7 : rX u = true := by simpa using h42
        refine r_skip (r_region (r_p (p_move rfl) rfl ?_))
        refine r_p (p_bin rfl rfl (b_add (by first | exact w_i64 (by omega) (by omega) | rfl))) rfl ?_
        refine r_p (p_assign rfl) rfl (r_nil ?_)
        refine r_here (j + 1) ⟨⟨by omega, by rw [all_take hu, n4, q7]; rfl⟩, by omega⟩ rfl rfl rfl
      ·(try simp only [decide_eq_true_eq, decide_eq_false_iff_not, Bool.and_eq_true, Bool.or_eq_true, Bool.and_eq_false_iff, Bool.or_eq_false_iff, Bool.not_eq_true, Bool.not_eq_false, Bool.not_eq_true', Bool.not_eq_false', Bool.not_not, bne_iff_ne, beq_iff_eq] at h41)
       have hj : j = st.es.length := by omega
       subst hj
       rw [List.take_length] at n4
       refine r_exit (r_seq (r_region ?_))
       refine r_p (p_field0 fo53_3 rfl) rfl ?_
       refine r_p (p_load1 t51 rfl rfl (g_row1 (k := 4) rfl rfl)) rfl ?_
       refine r_callN (xs := [.tmp 99]) (ih st hsm).1 cb52 [] [(false, 8)] [] rfl rfl rfl rfl rfl rfl rfl rfl (fun _ _ => rfl) (fun _ _ _ => rfl) rfl (fun _ _ => ?_)
       refine r_p (p_assign rfl) rfl (r_nil (r_seq (r_region ?_)))
       refine r_p (p_field0 fo53_4 rfl) rfl ?_
       refine r_p (p_load1 t51 rfl rfl (g_row1 (k := 4) rfl rfl)) rfl ?_
       refine r_callN (xs := [.tmp 102]) (ih st hsm).2 cb52 [] [(false, 9)] [] rfl rfl rfl rfl rfl rfl rfl rfl (fun _ _ => rfl) (fun _ _ _ => rfl) rfl (fun _ _ => ?_)
       refine r_p (p_assign rfl) rfl (r_nil (r_seq (r_region (r_p (p_move rfl) rfl ?_))))
       refine r_p (p_not rfl) rfl ?_
       refine r_p (p_move rfl) rfl ?_
       refine r_gp [] rfl rfl trivial (fun hg43 => p_move rfl) rfl ?_
       refine r_gp [(107, _)] rfl rfl ⟨rfl, trivial⟩ (fun hg44 => p_not rfl) rfl ?_
       refine r_p (p_pick rfl rfl rfl (by first | exact pick_and | exact pick_or |  rfl)) rfl ?_
       refine r_nil ?_
       refine r_cond rfl (fun h45 => ?_) (fun h45 => ?_)
       ·(try simp only [decide_eq_true_eq, decide_eq_false_iff_not, Bool.and_eq_true, Bool.or_eq_true, Bool.and_eq_false_iff, Bool.or_eq_false_iff, Bool.not_eq_true, Bool.not_eq_false, Bool.not_eq_true', Bool.not_eq_false', Bool.not_not, bne_iff_ne, beq_iff_eq] at h45)
        have q8 := h45
        refine r_seq (r_region (r_p (p_assign rfl) rfl (r_nil (r_cret ?_))))
        refine r_ret () trivial rfl (rs1 (rv_tmp rfl)) (congrArg Value.bool (all_no hsm (rY_s q8)).symm) [] [] rfl rfl rfl
       ·(try simp only [decide_eq_true_eq, decide_eq_false_iff_not, Bool.and_eq_true, Bool.or_eq_true, Bool.and_eq_false_iff, Bool.or_eq_false_iff, Bool.not_eq_true, Bool.not_eq_false, Bool.not_eq_true', Bool.not_eq_false', Bool.not_not, bne_iff_ne, beq_iff_eq] at h45)
        have q8 := h45
        refine r_skip (r_region (r_p (p_move rfl) rfl ?_))
        refine r_p (p_bin rfl rfl (b_add (by first | exact w_i64 (by omega) (by omega) | rfl))) rfl ?_
        refine r_p (p_assign rfl) rfl (r_nil ?_)
        refine r_here (i + 1) ⟨⟨by omega, by rw [all_take hst, n2, rY_ok q2 q4 q5 n4 q8]; rfl⟩, by omega⟩ rfl rfl rfl
 ·(try simp only [decide_eq_true_eq, decide_eq_false_iff_not, Bool.and_eq_true, Bool.or_eq_true, Bool.and_eq_false_iff, Bool.or_eq_false_iff, Bool.not_eq_true, Bool.not_eq_false, Bool.not_eq_true', Bool.not_eq_false', Bool.not_not, bne_iff_ne, beq_iff_eq] at h1)
  have hi : i = l.length := by omega
  subst hi
  rw [List.take_length] at n2
  refine r_exit (r_seq (r_region (r_p (p_assign rfl) rfl (r_nil (r_cret ?_)))))
  refine r_ret () trivial rfl (rs1 (rv_tmp rfl)) (congrArg Value.bool n2.symm) [] [] rfl rfl rfl
theorem ry8_all : ∀ (n : Nat) (v : SV) (l : List Ty), SizeOf.sizeOf l < n → l.length ≤ 1000000 → GYs l → HRy v l
 | 0, _, _, h, _, _ => absurd h (Nat.not_lt_zero _)
 | n + 1, v, l, h, hl, hg => ry8_step v l hl hg fun u hu => by
  have h1 := List.sizeOf_lt_of_mem hu
  have h2 : SizeOf.sizeOf u.body < SizeOf.sizeOf u ∧ SizeOf.sizeOf u.els < SizeOf.sizeOf u := by
   cases u
   simp only [Ty.mk.sizeOf_spec, Ty.body, Ty.els]
   omega
  have h3 := hg.mem u hu
  exact ⟨ry8_all n u.vb u.body (by omega) (GY_body h3).1 (GY_body h3).2, ry8_all n u.vl u.els (by omega) (GY_els h3).1 (GY_els h3).2⟩
theorem ry8_spec (v : SV) (l : List Ty) (hl : l.length ≤ 1000000) (hg : GYs l) : HRy v l := ry8_all _ v l (Nat.lt_succ_self _) hl hg
theorem rF_def (f : Tf) : rF f = (f.ps.all identB && identB f.name && f.body.all rY) := by unfold rF; rw [rYs_all]
theorem rF_no {f : Tf} (h : identB f.name = false ∨ f.body.all rY = false) : rF f = false := by
 rw [rF_def]
 rcases h with h | h <;> rw [h] <;> simp
theorem rF_p {f : Tf} {x : ByteArray} (hm : x ∈ f.ps) (h : identB x = false) : rF f = false := by
 rw [rF_def, all_no hm h]
 rfl
set_option maxHeartbeats 4000000 in
set_option maxRecDepth 100000 in
theorem right8_spec (vp : SV) (fs : List Tf) (hg : GP fs) :
  Spec Tryz.prog 36 [.agg #[sv vp]] [] [tfsA vp fs] (X := Unit) (fun _ => True) (fun _ => .bool (rP fs)) (fun _ => []) (fun _ => []) := by
 refine r_enter Tryz.func36 rfl Tryz.ntmps36 rfl fun w0 M H => ?_
 refine r_more 0 1 rfl tfs_sl ?_
 have hgl := hg.1
 refine r_seq (r_region ?_)
 refine r_boxA rfl rfl fun b1 => ?_
 refine r_p (p_assign rfl) rfl (r_nil (r_seq (r_seq (r_region (r_p (p_assign rfl) rfl (r_nil (r_block ?_)))))))
 refine r_loop (X := Nat) (fun i => i ≤ fs.length ∧ (fs.take i).all rF = true) (fun i => [(1, .pointer (some ⟨b1, 0, none⟩)), (3, .int .i64 (i : Int))]) (fun i => [(1, row b1 29 [sv vp])]) (fun i => [(0, tfsA vp fs), (1, sl 3 eTf (sv vp) fs)]) (fun i => fs.length - i) 0 ⟨Nat.zero_le _, rfl⟩ rfl rfl rfl (fun i hx0 => ?_)
 obtain ⟨n1, n2⟩ := hx0
 refine r_seq (r_seq (r_region (r_p (p_move rfl) rfl ?_)))
 refine r_p (p_field0 fo29_0 rfl) rfl ?_
 refine r_p (p_load1 t27 rfl rfl (g_row1 (k := 1) rfl rfl)) rfl ?_
 refine r_p (p_len_sl Tryz.underlying27 rfl (hs_sl (k := 1) rfl)) rfl ?_
 refine r_p (p_bin rfl rfl b_lt) rfl ?_
 refine r_nil ?_
 refine r_cond rfl (fun h1 => ?_) (fun h1 => ?_)
 ·(try simp only [decide_eq_true_eq, decide_eq_false_iff_not, Bool.and_eq_true, Bool.or_eq_true, Bool.and_eq_false_iff, Bool.or_eq_false_iff, Bool.not_eq_true, Bool.not_eq_false, Bool.not_eq_true', Bool.not_eq_false', Bool.not_not, bne_iff_ne, beq_iff_eq] at h1)
  have hi : i < fs.length := by omega
  obtain ⟨f, hf⟩ : ∃ k, fs[i]? = some k := ⟨_, List.getElem?_eq_getElem hi⟩
  have hfm := List.mem_of_getElem? hf
  have hgf := hg.2 f hfm
  have hpl := hgf.2.2.1
  refine r_more 0 7 rfl (tfs_f hfm) ?_
  refine r_more 7 8 rfl tf_ps ?_
  refine r_skip (r_seq (r_block (r_seq (r_region ?_))))
  refine r_p (p_field0 fo29_0 rfl) rfl ?_
  refine r_p (p_load1 t27 rfl rfl (g_row1 (k := 1) rfl rfl)) rfl ?_
  refine r_p (p_move rfl) rfl ?_
  refine r_p (p_idx_sl (j := i) Tryz.underlying27 t63 rfl rfl (hs_sl (k := 1) rfl) (by first | rfl | omega) (by first | omega | (simp; done) | (simp; omega))) rfl ?_
  refine r_p (p_loadA t63 rfl rfl rfl (g_el' (hs_sl (k := 1) rfl) (by intro _; rfl) hf (by rfl))) rfl ?_
  refine r_alloc t63 rfl rfl fun b4 => ?_
  refine r_store_all (k := 4) t63 rfl rfl rfl rfl rfl rfl ?_
  refine r_nil (r_seq (r_region ?_))
  refine r_p (p_field0 fo63_0 rfl) rfl ?_
  refine r_p (p_load1 t9 rfl rfl (g_row1 (k := 4) rfl rfl)) rfl ?_
  refine r_callN (xs := [.tmp 22]) (isname_spec f.name) cb51 [] [] [] rfl rfl rfl rfl rfl rfl rfl rfl (fun _ _ => rfl) (fun _ _ _ => rfl) rfl (fun _ _ => ?_)
  refine r_p (p_assign rfl) rfl (r_nil (r_seq (r_region ?_)))
  refine r_p (p_field0 fo63_2 rfl) rfl ?_
  refine r_p (p_load1 t51 rfl rfl (g_row1 (k := 4) rfl rfl)) rfl ?_
  refine r_more 7 9 rfl tf_body ?_
  refine r_callN (xs := [.tmp 25]) (ry8_spec f.vb f.body hgf.2.2.2.1 hgf.2.2.2.2.1) cb52 [] [(false, 9)] [] rfl rfl rfl rfl rfl rfl rfl rfl (fun _ _ => rfl) (fun _ _ _ => rfl) rfl (fun _ _ => ?_)
  refine r_p (p_assign rfl) rfl (r_nil (r_seq (r_seq (r_region (r_p (p_move rfl) rfl ?_)))))
  refine r_p (p_not rfl) rfl ?_
  refine r_p (p_move rfl) rfl ?_
  refine r_gp [] rfl rfl trivial (fun hg2 => p_move rfl) rfl ?_
  refine r_gp [(30, _)] rfl rfl ⟨rfl, trivial⟩ (fun hg3 => p_not rfl) rfl ?_
  refine r_p (p_pick rfl rfl rfl (by first | exact pick_and | exact pick_or |  rfl)) rfl ?_
  refine r_nil ?_
  refine r_cond rfl (fun h4 => ?_) (fun h4 => ?_)
  ·(try simp only [decide_eq_true_eq, decide_eq_false_iff_not, Bool.and_eq_true, Bool.or_eq_true, Bool.and_eq_false_iff, Bool.or_eq_false_iff, Bool.not_eq_true, Bool.not_eq_false, Bool.not_eq_true', Bool.not_eq_false', Bool.not_not, bne_iff_ne, beq_iff_eq] at h4)
   have q2 := h4
   refine r_seq (r_region (r_p (p_assign rfl) rfl (r_nil (r_cret ?_))))
   refine r_ret () trivial rfl (rs1 (rv_tmp rfl)) (congrArg Value.bool (show false = rP fs from (all_no (p := rF) hfm (rF_no q2)).symm)) [] [] rfl rfl rfl
  ·(try simp only [decide_eq_true_eq, decide_eq_false_iff_not, Bool.and_eq_true, Bool.or_eq_true, Bool.and_eq_false_iff, Bool.or_eq_false_iff, Bool.not_eq_true, Bool.not_eq_false, Bool.not_eq_true', Bool.not_eq_false', Bool.not_not, bne_iff_ne, beq_iff_eq] at h4)
   have q2 := h4
   refine r_skip (r_seq (r_region (r_p (p_assign rfl) rfl (r_nil (r_block ?_)))))
   refine r_loop (X := Nat) (fun j => j ≤ f.ps.length ∧ (f.ps.take j).all identB = true) (fun j => [(1, .pointer (some ⟨b1, 0, none⟩)), (3, .int .i64 (i : Int)), (4, .pointer (some ⟨b4, 0, none⟩)), (7, .int .i64 (j : Int))]) (fun j => [(1, row b1 29 [sv vp]), (4, row b4 63 (eTf f))]) (fun j => [(0, tfsA vp fs), (1, sl 3 eTf (sv vp) fs), (7, tfA f), (8, sl 1 eS (sv f.vp) f.ps)]) (fun j => f.ps.length - j) 0 ⟨Nat.zero_le _, rfl⟩ rfl rfl rfl (fun j hy0 => ?_)
   obtain ⟨n3, n4⟩ := hy0
   refine r_seq (r_seq (r_region (r_p (p_move rfl) rfl ?_)))
   refine r_p (p_field0 fo63_1 rfl) rfl ?_
   refine r_p (p_load1 t58 rfl rfl (g_row1 (k := 4) rfl rfl)) rfl ?_
   refine r_p (p_len_sl Tryz.underlying58 rfl (hs_sl (k := 8) rfl)) rfl ?_
   refine r_p (p_bin rfl rfl b_lt) rfl ?_
   refine r_nil ?_
   refine r_cond rfl (fun h5 => ?_) (fun h5 => ?_)
   ·(try simp only [decide_eq_true_eq, decide_eq_false_iff_not, Bool.and_eq_true, Bool.or_eq_true, Bool.and_eq_false_iff, Bool.or_eq_false_iff, Bool.not_eq_true, Bool.not_eq_false, Bool.not_eq_true', Bool.not_eq_false', Bool.not_not, bne_iff_ne, beq_iff_eq] at h5)
    have hj : j < f.ps.length := by omega
    obtain ⟨x, hx⟩ : ∃ k, f.ps[j]? = some k := ⟨_, List.getElem?_eq_getElem hj⟩
    have hxm := List.mem_of_getElem? hx
    refine r_skip (r_seq (r_block (r_seq (r_region ?_))))
    refine r_p (p_field0 fo63_1 rfl) rfl ?_
    refine r_p (p_load1 t58 rfl rfl (g_row1 (k := 4) rfl rfl)) rfl ?_
    refine r_p (p_move rfl) rfl ?_
    refine r_p (p_idx_sl (j := j) Tryz.underlying58 t9 rfl rfl (hs_sl (k := 8) rfl) (by first | rfl | omega) (by first | omega | (simp; done) | (simp; omega))) rfl ?_
    refine r_p (p_load1 t9 rfl rfl (g_el' (hs_sl (k := 8) rfl) (by intro _; rfl) hx (by rfl))) rfl ?_
    refine r_callN (xs := [.tmp 44]) (isname_spec x) cb51 [] [] [] rfl rfl rfl rfl rfl rfl rfl rfl (fun _ _ => rfl) (fun _ _ _ => rfl) rfl (fun _ _ => ?_)
    refine r_p (p_assign rfl) rfl (r_nil (r_seq (r_region (r_p (p_move rfl) rfl ?_))))
    refine r_p (p_not rfl) rfl ?_
    refine r_nil ?_
    refine r_cond rfl (fun h6 => ?_) (fun h6 => ?_)
    ·have q4 : identB x = false := by simpa using h6
     refine r_seq (r_region (r_p (p_assign rfl) rfl (r_nil (r_cret ?_))))
     refine r_ret () trivial rfl (rs1 (rv_tmp rfl)) (congrArg Value.bool (show false = rP fs from (all_no (p := rF) hfm (rF_p hxm q4)).symm)) [] [] rfl rfl rfl
    ·have q4 : identB x = true := by simpa using h6
     refine r_skip (r_region (r_p (p_move rfl) rfl ?_))
     refine r_p (p_bin rfl rfl (b_add (by first | exact w_i64 (by omega) (by omega) | rfl))) rfl ?_
     refine r_p (p_assign rfl) rfl (r_nil ?_)
     refine r_here (j + 1) ⟨⟨by omega, by rw [all_take hx, n4, q4]; rfl⟩, by omega⟩ rfl rfl rfl
   ·(try simp only [decide_eq_true_eq, decide_eq_false_iff_not, Bool.and_eq_true, Bool.or_eq_true, Bool.and_eq_false_iff, Bool.or_eq_false_iff, Bool.not_eq_true, Bool.not_eq_false, Bool.not_eq_true', Bool.not_eq_false', Bool.not_not, bne_iff_ne, beq_iff_eq] at h5)
    have hj : j = f.ps.length := by omega
    subst hj
    rw [List.take_length] at n4
    refine r_exit (r_region (r_p (p_move rfl) rfl ?_))
    refine r_p (p_bin rfl rfl (b_add (by first | exact w_i64 (by omega) (by omega) | rfl))) rfl ?_
    refine r_p (p_assign rfl) rfl (r_nil ?_)
    refine r_here (i + 1) ⟨⟨by omega, by rw [all_take hf, n2, rF_def, n4, q2.1, q2.2]; rfl⟩, by omega⟩ rfl rfl rfl
 ·(try simp only [decide_eq_true_eq, decide_eq_false_iff_not, Bool.and_eq_true, Bool.or_eq_true, Bool.and_eq_false_iff, Bool.or_eq_false_iff, Bool.not_eq_true, Bool.not_eq_false, Bool.not_eq_true', Bool.not_eq_false', Bool.not_not, bne_iff_ne, beq_iff_eq] at h1)
  have hi : i = fs.length := by omega
  subst hi
  rw [List.take_length] at n2
  refine r_exit (r_seq (r_region (r_p (p_assign rfl) rfl (r_nil (r_cret ?_)))))
  refine r_ret () trivial rfl (rs1 (rv_tmp rfl)) (congrArg Value.bool n2.symm) [] [] rfl rfl rfl
/-- What something consists of, as a row. -/
def zR (n v s e : Int) : List Value := [.int .i64 n, .int .i64 v, .int .i64 s, .int .i64 e]
abbrev zV (n v s e : Int) : Value := .agg #[.int .i64 n, .int .i64 v, .int .i64 s, .int .i64 e]
theorem zR_eq {n v s e n' v' s' e' : Int} (h1 : n = n') (h2 : v = v') (h3 : s = s') (h4 : e = e') : zR n v s e = zR n' v' s' e' := by rw [h1, h2, h3, h4]
abbrev sm (n : Int) : Prop := 0 ≤ n ∧ n ≤ 1000000000000
mutual
/-- The depth of statements. -/
def dS : Ty → Nat
 | .mk _ _ _ _ _ body _ els => max (dSs body) (dSs els) + 1
def dSs : List Ty → Nat
 | [] => 0
 | t :: r => max (dS t) (dSs r)
end
mutual
/-- The depth of the expressions in statements. -/
def dq : Ty → Nat
 | .mk _ _ _ es _ body _ els => max (max (dqs body) (dqs els)) (dXs es)
def dqs : List Ty → Nat
 | [] => 0
 | t :: r => max (dq t) (dqs r)
end
theorem dSs_app : ∀ a b : List Ty, dSs (a ++ b) = max (dSs a) (dSs b)
 | [], b => by simp [dSs]
 | t :: r, b => by simp only [List.cons_append, dSs, dSs_app r b]; omega
theorem dqs_app : ∀ a b : List Ty, dqs (a ++ b) = max (dqs a) (dqs b)
 | [], b => by simp [dqs]
 | t :: r, b => by simp only [List.cons_append, dqs, dqs_app r b]; omega
theorem dSs_take {l : List Ty} {i : Nat} {k : Ty} (h : l[i]? = some k) : dSs (l.take (i + 1)) = max (dSs (l.take i)) (dS k) := by
 rw [take_snoc h, dSs_app]
 show max _ (max (dS k) 0) = _
 omega
theorem dqs_take {l : List Ty} {i : Nat} {k : Ty} (h : l[i]? = some k) : dqs (l.take (i + 1)) = max (dqs (l.take i)) (dq k) := by
 rw [take_snoc h, dqs_app]
 show max _ (max (dq k) 0) = _
 omega
theorem dS_eq (t : Ty) : dS t = max (dSs t.body) (dSs t.els) + 1 := by cases t; rfl
theorem dq_eq (t : Ty) : dq t = max (max (dqs t.body) (dqs t.els)) (dXs t.es) := by cases t; rfl
theorem nX_def (t : Tx) : nX t = nXs t.kids + 1 ∧ dX t = dXs t.kids + 1 := by cases t; exact ⟨rfl, rfl⟩
theorem nY_def (t : Ty) : nY t = 1 + nXs t.es + nYs t.body + nYs t.els := by cases t; rfl
theorem vY_def (t : Ty) : vY t = (if t.kind = 1 then 1 else 0) + vYs t.body + vYs t.els := by cases t; rfl
mutual
theorem dS_le : ∀ t : Ty, dS t ≤ nY t ∧ dq t ≤ nY t
 | .mk _ _ _ es _ body _ els => by
  have h1 := dSs_le body
  have h2 := dSs_le els
  have h3 := dXs_le es
  rw [dS, dq, nY]
  omega
theorem dSs_le : ∀ l : List Ty, dSs l ≤ nYs l ∧ dqs l ≤ nYs l
 | [] => by rw [dSs, dqs, nYs]; omega
 | t :: r => by
  have h1 := dS_le t
  have h2 := dSs_le r
  rw [dSs, dqs, nYs]
  omega
end
mutual
theorem dp_iff : ∀ (d : Nat) (t : Ty), dpY d t = true ↔ d + dS t > 9 ∨ dq t > 8
 | d, .mk k nm v es vb body vl els => by
  rw [dpY, dS, dq]
  simp only [Bool.or_eq_true, decide_eq_true_eq]
  rw [dps_iff (d + 1) body, dps_iff (d + 1) els]
  omega
theorem dps_iff : ∀ (d : Nat) (l : List Ty), dpYs d l = true ↔ (0 < dSs l ∧ d + dSs l > 9) ∨ dqs l > 8
 | d, [] => by rw [dpYs, dSs, dqs]; simp
 | d, t :: r => by
  rw [dpYs, dSs, dqs, Bool.or_eq_true, dp_iff d t, dps_iff d r]
  have h1 : 0 < dS t := by rw [dS_eq]; omega
  omega
end
theorem big_iff (f : Tf) : big f ↔ f.ps.length > 4 ∨ f.ps.length + vYs f.body > 12 ∨ nYs f.body > 400 ∨ dSs f.body > 8 ∨ dqs f.body > 8 := by
 unfold big
 rw [dps_iff]
 omega
/-- The contract of stmtSize. -/
def HSz (v : SV) (l : List Ty) : Prop := Spec Tryz.prog 38 [sv v] [] [tysA v l] (X := Unit) (fun _ => True) (fun _ => zV (nYs l : Int) (vYs l : Int) (dSs l : Int) (dqs l : Int)) (fun _ => []) (fun _ => [])
def HEz (t : Tx) : Prop := Spec Tryz.prog 54 [xV t] [] [txsA t.v t.kids] (X := Unit) (fun _ => True) (fun _ => zV (nX t : Int) 0 0 (dX t : Int)) (fun _ => []) (fun _ => [])
set_option maxRecDepth 100000 in
theorem join_spec (a b c d a2 b2 c2 d2 : Int) (h1 : sm a) (h2 : sm b) (h3 : sm a2) (h4 : sm b2) :
  Spec Tryz.prog 53 [zV a b c d, zV a2 b2 c2 d2] [] [] (X := Unit) (fun _ => True) (fun _ => zV (a + a2) (b + b2) (max c c2) (max d d2)) (fun _ => []) (fun _ => []) := by
 refine r_enter Tryz.func53 rfl Tryz.ntmps53 rfl fun w0 M H => ?_
 refine r_seq (r_region ?_)
 refine r_boxA rfl rfl fun b2 => ?_
 refine r_boxA rfl rfl fun b3 => ?_
 refine r_alloc t86 rfl rfl fun b4 => ?_
 refine r_nil (r_seq (r_region ?_))
 refine r_p (p_field0 fo86_0 rfl) rfl ?_
 refine r_p (p_load1 t3 rfl rfl (g_row1 (k := 2) rfl rfl)) rfl ?_
 refine r_p (p_field0 fo86_0 rfl) rfl ?_
 refine r_p (p_load1 t3 rfl rfl (g_row1 (k := 3) rfl rfl)) rfl ?_
 refine r_p (p_bin rfl rfl (b_add (by first | exact w_i64 (by omega) (by omega) | rfl))) rfl ?_
 refine r_p (p_field0 fo86_1 rfl) rfl ?_
 refine r_p (p_load1 t3 rfl rfl (g_row1 (k := 2) rfl rfl)) rfl ?_
 refine r_p (p_field0 fo86_1 rfl) rfl ?_
 refine r_p (p_load1 t3 rfl rfl (g_row1 (k := 3) rfl rfl)) rfl ?_
 refine r_p (p_bin rfl rfl (b_add (by first | exact w_i64 (by omega) (by omega) | rfl))) rfl ?_
 refine r_p (p_field0 fo86_2 rfl) rfl ?_
 refine r_p (p_load1 t3 rfl rfl (g_row1 (k := 2) rfl rfl)) rfl ?_
 refine r_p (p_field0 fo86_2 rfl) rfl ?_
 refine r_p (p_load1 t3 rfl rfl (g_row1 (k := 3) rfl rfl)) rfl ?_
 refine r_p (p_max rfl rfl rfl) rfl ?_
 refine r_p (p_field0 fo86_3 rfl) rfl ?_
 refine r_p (p_load1 t3 rfl rfl (g_row1 (k := 2) rfl rfl)) rfl ?_
 refine r_p (p_field0 fo86_3 rfl) rfl ?_
 refine r_p (p_load1 t3 rfl rfl (g_row1 (k := 3) rfl rfl)) rfl ?_
 refine r_p (p_max rfl rfl rfl) rfl ?_
 refine r_p (p_build (parts := [(0, .tmp 9), (1, .tmp 14), (2, .tmp 19), (3, .tmp 24)]) t86 pl86 rfl rfl) rfl ?_
 refine r_store_all (k := 4) t86 rfl rfl rfl rfl rfl rfl ?_
 refine r_nil (r_cret ?_)
 refine r_ret () trivial rfl (rs1 (rv_cellA t86 rfl rfl rfl (g_all (k := 4) rfl))) rfl [] [] rfl rfl rfl
set_option maxHeartbeats 2000000 in
set_option maxRecDepth 100000 in
theorem exprsize_step (t : Tx) (ht : nX t ≤ 1000000) (hkl : t.kids.length ≤ 1000000) (ih : ∀ u ∈ t.kids, HEz u) :
  Spec Tryz.prog 54 [xV t] [] [txsA t.v t.kids] (X := Unit) (fun _ => True) (fun _ => zV (nX t : Int) 0 0 (dX t : Int)) (fun _ => []) (fun _ => []) := by
 refine r_enter Tryz.func54 rfl Tryz.ntmps54 rfl fun w0 M H => ?_
 refine r_more 0 1 rfl txs_sl ?_
 obtain ⟨hn1, hn2⟩ := nX_def t
 have hdxl := dXs_le t.kids
 refine r_seq (r_region ?_)
 refine r_boxA rfl rfl fun b1 => ?_
 refine r_alloc t86 rfl rfl fun b2 => ?_
 refine r_nil (r_seq (r_region ?_))
 refine r_p (p_build (parts := []) t86 pl86 rfl rfl) rfl ?_
 refine r_alloc t86 rfl rfl fun b3 => ?_
 refine r_store_all (k := 3) t86 rfl rfl rfl rfl rfl rfl ?_
 refine r_nil (r_seq (r_seq (r_region (r_p (p_assign rfl) rfl (r_nil (r_block ?_))))))
 refine r_loop (X := Nat) (fun i => i ≤ t.kids.length) (fun i => [(1, .pointer (some ⟨b1, 0, none⟩)), (2, .pointer (some ⟨b2, 0, none⟩)), (3, .pointer (some ⟨b3, 0, none⟩)), (4, .int .i64 (i : Int))]) (fun i => [(1, row b1 48 (eTx t)), (2, row b2 86 (zR 0 0 0 0)), (3, row b3 86 (zR (nXs (t.kids.take i) : Int) 0 0 (dXs (t.kids.take i) : Int)))]) (fun i => [(0, txsA t.v t.kids), (1, sl 4 eTx (sv t.v) t.kids)]) (fun i => t.kids.length - i) 0 (Nat.zero_le _) rfl rfl rfl (fun i n1 => ?_)
 refine r_seq (r_seq (r_region (r_p (p_move rfl) rfl ?_)))
 refine r_p (p_field0 fo48_3 rfl) rfl ?_
 refine r_p (p_load1 t46 rfl rfl (g_row1 (k := 1) rfl rfl)) rfl ?_
 refine r_p (p_len_sl Tryz.underlying46 rfl (hs_sl (k := 1) rfl)) rfl ?_
 refine r_p (p_bin rfl rfl b_lt) rfl ?_
 refine r_nil ?_
 refine r_cond rfl (fun h1 => ?_) (fun h1 => ?_)
 ·(try simp only [decide_eq_true_eq, decide_eq_false_iff_not, Bool.and_eq_true, Bool.or_eq_true, Bool.and_eq_false_iff, Bool.or_eq_false_iff, Bool.not_eq_true, Bool.not_eq_false, Bool.not_eq_true', Bool.not_eq_false', Bool.not_not, bne_iff_ne, beq_iff_eq] at h1)
  have hi : i < t.kids.length := by omega
  obtain ⟨u, hu⟩ : ∃ u, t.kids[i]? = some u := ⟨_, List.getElem?_eq_getElem hi⟩
  have hum := List.mem_of_getElem? hu
  refine r_more 0 7 rfl (txs_kid hum) ?_
  have hle := nXs_le t.kids (i + 1)
  rw [nXs_take hu] at hle
  have hdu := dX_le u
  refine r_skip (r_seq (r_block ?_))
  refine r_draw [13, 14, 15, 16, 17, 18, 19, 20] _ rfl (stg_mem (V := [(0, 13, _), (1, 14, _), (2, 15, _), (3, 16, _), (4, 17, _), (5, 18, _)]) [0, 1, 2, 3, 4, 5] 6 [6, 5, 4, 3, 2, 1] [] (fun _ => []) rfl rfl (prs_cons (pri rfl (p_loadA t86 rfl rfl rfl (g_all (k := 3) rfl))) (prs_cons (pri rfl (p_field0 fo48_3 rfl)) (prs_cons (pri rfl (p_load1 t46 rfl rfl (g_row1 (k := 1) rfl rfl))) (prs_cons (pri rfl (p_move rfl)) (prs_cons (pri rfl (p_idx_sl (j := i) Tryz.underlying46 t48 rfl rfl (hs_sl (k := 1) rfl) (by first | rfl | omega) (by first | omega | (simp; done) | (simp; omega)))) (prs_cons (pri rfl (p_loadA t48 rfl rfl rfl (g_el' (hs_sl (k := 1) rfl) (by intro _; rfl) hu (by rfl)))) prs_nil)))))) rfl rfl rfl rfl rfl rfl rfl rfl rfl rfl rfl (fun _ _ => rfl) rfl (ms_callN (xs := [.tmp 18]) (ih u hum) cb54 [] [(false, 7)] [] rfl rfl rfl rfl rfl rfl rfl rfl (fun _ _ => rfl) (fun _ _ _ => rfl)) (fun _ _ => stg_mem [0] 7 [7, 6, 5, 4, 3, 2, 1, 0] [] (fun _ => []) rfl rfl (prs_cons (pri rfl (p_loadA t86 rfl rfl rfl (g_all (k := 3) rfl))) prs_nil) rfl rfl rfl rfl rfl rfl rfl rfl rfl rfl rfl (fun _ _ => rfl) rfl (ms_callN (xs := [.tmp 13, .tmp 19]) (join_spec (nXs (t.kids.take i) : Int) 0 0 (dXs (t.kids.take i) : Int) (nX u : Int) 0 0 (dX u : Int) ⟨by omega, by omega⟩ ⟨by omega, by omega⟩ ⟨by omega, by omega⟩ ⟨by omega, by omega⟩) cb53 [] [] [] rfl rfl rfl rfl rfl rfl rfl rfl (fun _ _ => rfl) (fun _ _ _ => rfl)) (fun _ _ => stg_mem0 [] 8 [8, 7, 6, 5, 4, 3, 2, 1, 0] [] (fun _ => []) rfl rfl prs_nil rfl rfl rfl rfl rfl rfl rfl rfl rfl (fun _ _ => rfl) rfl (ms_store_all (k := 3) t86 rfl rfl rfl rfl rfl rfl) (fun _ _ => stg_end [] rfl rfl prs_nil rfl rfl rfl ?_))))
  refine r_region (r_p (p_move rfl) rfl ?_)
  refine r_p (p_bin rfl rfl (b_add (by first | exact w_i64 (by omega) (by omega) | rfl))) rfl ?_
  refine r_p (p_assign rfl) rfl (r_nil ?_)
  refine r_here (i + 1) ⟨by omega, by omega⟩ rfl (by rw [zR_eq (n := ((nXs (t.kids.take (i + 1)) : Nat) : Int)) (n' := (nXs (t.kids.take i) : Int) + (nX u : Int)) (e' := max (dXs (t.kids.take i) : Int) (dX u : Int)) (e := ((dXs (t.kids.take (i + 1)) : Nat) : Int)) (by rw [nXs_take hu, Int.natCast_add]) (show (0 : Int) = 0 + 0 from rfl) (show (0 : Int) = max 0 0 from rfl) (by rw [dXs_take hu]; omega)]; rfl) rfl
 ·(try simp only [decide_eq_true_eq, decide_eq_false_iff_not, Bool.and_eq_true, Bool.or_eq_true, Bool.and_eq_false_iff, Bool.or_eq_false_iff, Bool.not_eq_true, Bool.not_eq_false, Bool.not_eq_true', Bool.not_eq_false', Bool.not_not, bne_iff_ne, beq_iff_eq] at h1)
  have hi : i = t.kids.length := by omega
  subst hi
  rw [List.take_length]
  refine r_exit (r_seq (r_region ?_))
  refine r_p (p_field0 fo86_0 rfl) rfl ?_
  refine r_p (p_load1 t3 rfl rfl (g_row1 (k := 3) rfl rfl)) rfl ?_
  refine r_p (p_bin rfl rfl (b_add (by first | exact w_i64 (by omega) (by omega) | rfl))) rfl ?_
  refine r_p (p_field0 fo86_0 rfl) rfl ?_
  refine r_store_row (k := 3) t3 rfl rfl rfl rfl rfl rfl rfl rfl ?_
  refine r_nil (r_seq (r_region ?_))
  refine r_p (p_field0 fo86_3 rfl) rfl ?_
  refine r_p (p_load1 t3 rfl rfl (g_row1 (k := 3) rfl rfl)) rfl ?_
  refine r_p (p_bin rfl rfl (b_add (by first | exact w_i64 (by omega) (by omega) | rfl))) rfl ?_
  refine r_p (p_field0 fo86_3 rfl) rfl ?_
  refine r_store_row (k := 3) t3 rfl rfl rfl rfl rfl rfl rfl rfl ?_
  refine r_nil (r_seq (r_region ?_))
  refine r_p (p_loadA t86 rfl rfl rfl (g_all (k := 3) rfl)) rfl ?_
  refine r_store_all (k := 2) t86 rfl rfl rfl rfl rfl rfl ?_
  refine r_nil (r_cret ?_)
  have hfin : zV ((nXs t.kids : Int) + 1) 0 0 ((dXs t.kids : Int) + 1) = zV (nX t : Int) 0 0 (dX t : Int) := by rw [hn1, hn2]; rfl
  refine r_ret () trivial rfl (rs1 (rv_cellA t86 rfl rfl rfl (g_all (k := 2) rfl))) (by rw [← hfin]; rfl) [] [] rfl rfl rfl
theorem exprsize_all : ∀ (n : Nat) (t : Tx), SizeOf.sizeOf t < n → GX t → nX t ≤ 1000000 → HEz t
 | 0, _, h, _, _ => absurd h (Nat.not_lt_zero _)
 | n + 1, t, h, ht, hn => exprsize_step t hn (GX_len ht) fun u hu => exprsize_all n u (by have := tx_lt hu; omega) ((GX_kids ht).mem u hu) (by
  obtain ⟨i, hi⟩ := List.getElem?_of_mem hu
  have hle := nXs_le t.kids (i + 1)
  rw [nXs_take hi] at hle
  have := (nX_def t).1
  omega)
theorem exprsize_spec (t : Tx) (ht : GX t) (hn : nX t ≤ 1000000) : HEz t := exprsize_all _ t (Nat.lt_succ_self _) ht hn
set_option maxHeartbeats 8000000 in
set_option maxRecDepth 100000 in
theorem stmtsize_step (v : SV) (l : List Ty) (hn : nYs l ≤ 1000000) (hl : l.length ≤ 1000000) (hg : GYs l) (ih : ∀ u ∈ l, HSz u.vb u.body ∧ HSz u.vl u.els) :
  Spec Tryz.prog 38 [sv v] [] [tysA v l] (X := Unit) (fun _ => True) (fun _ => zV (nYs l : Int) (vYs l : Int) (dSs l : Int) (dqs l : Int)) (fun _ => []) (fun _ => []) := by
 refine r_enter Tryz.func38 rfl Tryz.ntmps38 rfl fun w0 M H => ?_
 refine r_more 0 1 rfl tys_sl ?_
 refine r_seq (r_region ?_)
 refine r_alloc t86 rfl rfl fun b2 => ?_
 refine r_nil (r_seq (r_region ?_))
 refine r_p (p_build (parts := []) t86 pl86 rfl rfl) rfl ?_
 refine r_alloc t86 rfl rfl fun b3 => ?_
 refine r_store_all (k := 3) t86 rfl rfl rfl rfl rfl rfl ?_
 refine r_nil (r_seq (r_seq (r_region (r_p (p_assign rfl) rfl (r_nil (r_block ?_))))))
 refine r_loop (X := Nat) (fun i => i ≤ l.length) (fun i => [(0, sv v), (2, .pointer (some ⟨b2, 0, none⟩)), (3, .pointer (some ⟨b3, 0, none⟩)), (4, .int .i64 (i : Int))]) (fun i => [(2, row b2 86 (zR 0 0 0 0)), (3, row b3 86 (zR (nYs (l.take i) : Int) (vYs (l.take i) : Int) (dSs (l.take i) : Int) (dqs (l.take i) : Int)))]) (fun i => [(0, tysA v l), (1, sl 5 eTy (sv v) l)]) (fun i => l.length - i) 0 (Nat.zero_le _) rfl rfl rfl (fun i n1 => ?_)
 refine r_seq (r_seq (r_region (r_p (p_move rfl) rfl (r_p (p_move rfl) rfl ?_))))
 refine r_p (p_len_sl Tryz.underlying51 rfl (hs_sl (k := 1) rfl)) rfl ?_
 refine r_p (p_bin rfl rfl b_lt) rfl ?_
 refine r_nil ?_
 refine r_cond rfl (fun h1 => ?_) (fun h1 => ?_)
 ·(try simp only [decide_eq_true_eq, decide_eq_false_iff_not, Bool.and_eq_true, Bool.or_eq_true, Bool.and_eq_false_iff, Bool.or_eq_false_iff, Bool.not_eq_true, Bool.not_eq_false, Bool.not_eq_true', Bool.not_eq_false', Bool.not_not, bne_iff_ne, beq_iff_eq] at h1)
  have hi : i < l.length := by omega
  obtain ⟨st, hst⟩ : ∃ k, l[i]? = some k := ⟨_, List.getElem?_eq_getElem hi⟩
  have hsm := List.mem_of_getElem? hst
  have hsg := GY_es (hg.mem st hsm)
  have hle := nYs_le l (i + 1)
  rw [nYs_take hst] at hle
  have hny := nY_def st
  have hvy := vY_le st
  have hva := vYs_le (l.take i)
  have hvb := vYs_le st.body
  have hvs := vYs_le st.els
  have hvy2 : (vY st : Int) = ((vYs st.body : Int) + (vYs st.els : Int)) + (if st.kind = 1 then 1 else 0 : Int) := by
   rw [vY_def]
   split <;> omega
  have hki : 0 ≤ (if st.kind = 1 then 1 else 0 : Int) ∧ (if st.kind = 1 then 1 else 0 : Int) ≤ 1 := by split <;> omega
  have hdsb := dSs_le st.body
  have hdse := dSs_le st.els
  have hdsi := dSs_le (l.take i)
  have hnl := nYs_le l i
  have hdxe := dXs_le st.es
  refine r_more 0 7 rfl (tys_es hsm) ?_
  refine r_more 0 8 rfl (tys_body hsm) ?_
  refine r_more 0 9 rfl (tys_els hsm) ?_
  refine r_more 7 10 rfl txs_sl ?_
  refine r_skip (r_seq (r_block (r_seq (r_region (r_p (p_move rfl) rfl (r_p (p_move rfl) rfl ?_))))))
  refine r_p (p_idx_sl (j := i) Tryz.underlying51 t53 rfl rfl (hs_sl (k := 1) rfl) (by first | rfl | omega) (by first | omega | (simp; done) | (simp; omega))) rfl ?_
  refine r_p (p_loadA t53 rfl rfl rfl (g_el' (hs_sl (k := 1) rfl) (by intro _; rfl) hst (by rfl))) rfl ?_
  refine r_alloc t53 rfl rfl fun b5 => ?_
  refine r_store_all (k := 5) t53 rfl rfl rfl rfl rfl rfl ?_
  refine r_nil ?_
  refine r_seq_cut (X := Nat) (fun _ => True) (fun y => [(0, sv v), (2, .pointer (some ⟨b2, 0, none⟩)), (3, .pointer (some ⟨b3, 0, none⟩)), (4, .int .i64 (i : Int)), (5, .pointer (some ⟨b5, 0, none⟩)), (6, .pointer (some ⟨y, 0, none⟩))]) (fun y => [(2, row b2 86 (zR 0 0 0 0)), (3, row b3 86 (zR (nYs (l.take i) : Int) (vYs (l.take i) : Int) (dSs (l.take i) : Int) (dqs (l.take i) : Int))), (5, row b5 53 (eTy st)), (6, row y 86 (zR ((nYs st.body : Int) + (nYs st.els : Int)) ((vYs st.body : Int) + (vYs st.els : Int)) (max (dSs st.body : Int) (dSs st.els : Int)) (max (dqs st.body : Int) (dqs st.els : Int))))]) (fun y => [(0, tysA v l), (1, sl 5 eTy (sv v) l), (7, txsA st.ve st.es), (8, tysA st.vb st.body), (9, tysA st.vl st.els), (10, sl 4 eTx (sv st.ve) st.es)]) ?_ (fun b6 _ => ?_)
  ·refine r_draw [19, 20, 21, 22, 23, 24, 25, 6] _ rfl (stg_alts (V := [(0, 19, _), (1, 20, _), (3, 22, _), (4, 23, _)]) [0, 1, 3, 4] rfl rfl (prs_cons (pri rfl (p_field0 fo53_3 rfl)) (prs_cons (pri rfl (p_load1 t51 rfl rfl (g_row1 (k := 5) rfl rfl))) (prs_cons (pri rfl (p_field0 fo53_4 rfl)) (prs_cons (pri rfl (p_load1 t51 rfl rfl (g_row1 (k := 5) rfl rfl))) prs_nil)))) rfl [2, 7] rfl rfl (nx_cons (nx_mem 2 [2, 1, 0] [] (fun _ => []) rfl rfl rfl rfl rfl rfl rfl rfl rfl (fun _ _ => rfl) rfl (ms_callN (xs := [.tmp 20]) (ih st hsm).1 cb38 [] [(false, 8)] [] rfl rfl rfl rfl rfl rfl rfl rfl (fun _ _ => rfl) (fun _ _ _ => rfl)) (fun _ _ => stg_alts [3, 4] rfl rfl (prs_cons (pri rfl (p_field0 fo53_4 rfl)) (prs_cons (pri rfl (p_load1 t51 rfl rfl (g_row1 (k := 5) rfl rfl))) prs_nil)) rfl [5, 7] rfl rfl (nx_cons (nx_mem 5 [5, 4, 3, 2, 1, 0] [] (fun _ => []) rfl rfl rfl rfl rfl rfl rfl rfl rfl (fun _ _ => rfl) rfl (ms_callN (xs := [.tmp 23]) (ih st hsm).2 cb38 [] [(false, 9)] [] rfl rfl rfl rfl rfl rfl rfl rfl (fun _ _ => rfl) (fun _ _ _ => rfl)) (fun _ _ => stg_alts [] rfl rfl prs_nil rfl [6, 7] rfl rfl (nx_cons (nx_mem 6 [6, 5, 4, 3, 2, 1, 0] [] (fun _ => []) rfl rfl rfl rfl rfl rfl rfl rfl rfl (fun _ _ => rfl) rfl (ms_callN (xs := [.tmp 21, .tmp 24]) (join_spec _ _ _ _ _ _ _ _ ⟨by omega, by omega⟩ ⟨by omega, by omega⟩ ⟨by omega, by omega⟩ ⟨by omega, by omega⟩) cb53 [] [] [] rfl rfl rfl rfl rfl rfl rfl rfl (fun _ _ => rfl) (fun _ _ _ => rfl)) (fun _ _ => stg_mem [] 7 [7, 6, 5, 4, 3, 2, 1, 0] [] (fun b6 => []) rfl rfl prs_nil rfl rfl rfl rfl rfl rfl rfl rfl rfl rfl rfl (fun _ _ => rfl) rfl (ms_alloc t86 rfl) (fun b6 _ => stg_mem0 [] 8 [8, 7, 6, 5, 4, 3, 2, 1, 0] [] (fun _ => []) rfl rfl prs_nil rfl rfl rfl rfl rfl rfl rfl rfl rfl (fun _ _ => rfl) rfl (ms_store_all (k := 6) t86 rfl rfl rfl rfl rfl rfl) (fun _ _ => stg_end [] rfl rfl prs_nil rfl rfl rfl ?_)))) (nx_cons (nx_mem 7 [7, 5, 4, 3, 2, 1, 0] [] (fun b6 => []) rfl rfl rfl rfl rfl rfl rfl rfl rfl (fun _ _ => rfl) rfl (ms_alloc t86 rfl) (fun b6 _ => stg_mem [] 6 [7, 6, 5, 4, 3, 2, 1, 0] [] (fun _ => []) rfl rfl prs_nil rfl rfl rfl rfl rfl rfl rfl rfl rfl rfl rfl (fun _ _ => rfl) rfl (ms_callN (xs := [.tmp 21, .tmp 24]) (join_spec _ _ _ _ _ _ _ _ ⟨by omega, by omega⟩ ⟨by omega, by omega⟩ ⟨by omega, by omega⟩ ⟨by omega, by omega⟩) cb53 [] [] [] rfl rfl rfl rfl rfl rfl rfl rfl (fun _ _ => rfl) (fun _ _ _ => rfl)) (fun _ _ => stg_mem0 [] 8 [8, 7, 6, 5, 4, 3, 2, 1, 0] [] (fun _ => []) rfl rfl prs_nil rfl rfl rfl rfl rfl rfl rfl rfl rfl (fun _ _ => rfl) rfl (ms_store_all (k := 6) t86 rfl rfl rfl rfl rfl rfl) (fun _ _ => stg_end [] rfl rfl prs_nil rfl rfl rfl ?_)))) nx_nil)))) (nx_cons (nx_mem 7 [7, 2, 1, 0] [] (fun b6 => []) rfl rfl rfl rfl rfl rfl rfl rfl rfl (fun _ _ => rfl) rfl (ms_alloc t86 rfl) (fun b6 _ => stg_mem [3, 4] 5 [7, 5, 4, 3, 2, 1, 0] [] (fun _ => []) rfl rfl (prs_cons (pri rfl (p_field0 fo53_4 rfl)) (prs_cons (pri rfl (p_load1 t51 rfl rfl (g_row1 (k := 5) rfl rfl))) prs_nil)) rfl rfl rfl rfl rfl rfl rfl rfl rfl rfl rfl (fun _ _ => rfl) rfl (ms_callN (xs := [.tmp 23]) (ih st hsm).2 cb38 [] [(false, 9)] [] rfl rfl rfl rfl rfl rfl rfl rfl (fun _ _ => rfl) (fun _ _ _ => rfl)) (fun _ _ => stg_mem [] 6 [7, 6, 5, 4, 3, 2, 1, 0] [] (fun _ => []) rfl rfl prs_nil rfl rfl rfl rfl rfl rfl rfl rfl rfl rfl rfl (fun _ _ => rfl) rfl (ms_callN (xs := [.tmp 21, .tmp 24]) (join_spec _ _ _ _ _ _ _ _ ⟨by omega, by omega⟩ ⟨by omega, by omega⟩ ⟨by omega, by omega⟩ ⟨by omega, by omega⟩) cb53 [] [] [] rfl rfl rfl rfl rfl rfl rfl rfl (fun _ _ => rfl) (fun _ _ _ => rfl)) (fun _ _ => stg_mem0 [] 8 [8, 7, 6, 5, 4, 3, 2, 1, 0] [] (fun _ => []) rfl rfl prs_nil rfl rfl rfl rfl rfl rfl rfl rfl rfl (fun _ _ => rfl) rfl (ms_store_all (k := 6) t86 rfl rfl rfl rfl rfl rfl) (fun _ _ => stg_end [] rfl rfl prs_nil rfl rfl rfl ?_))))) nx_nil)))) (nx_cons (nx_mem 7 [7] [] (fun b6 => []) rfl rfl rfl rfl rfl rfl rfl rfl rfl (fun _ _ => rfl) rfl (ms_alloc t86 rfl) (fun b6 _ => stg_mem [0, 1, 3, 4] 2 [7, 2, 1, 0] [] (fun _ => []) rfl rfl (prs_cons (pri rfl (p_field0 fo53_3 rfl)) (prs_cons (pri rfl (p_load1 t51 rfl rfl (g_row1 (k := 5) rfl rfl))) (prs_cons (pri rfl (p_field0 fo53_4 rfl)) (prs_cons (pri rfl (p_load1 t51 rfl rfl (g_row1 (k := 5) rfl rfl))) prs_nil)))) rfl rfl rfl rfl rfl rfl rfl rfl rfl rfl rfl (fun _ _ => rfl) rfl (ms_callN (xs := [.tmp 20]) (ih st hsm).1 cb38 [] [(false, 8)] [] rfl rfl rfl rfl rfl rfl rfl rfl (fun _ _ => rfl) (fun _ _ _ => rfl)) (fun _ _ => stg_mem [3, 4] 5 [7, 5, 4, 3, 2, 1, 0] [] (fun _ => []) rfl rfl (prs_cons (pri rfl (p_field0 fo53_4 rfl)) (prs_cons (pri rfl (p_load1 t51 rfl rfl (g_row1 (k := 5) rfl rfl))) prs_nil)) rfl rfl rfl rfl rfl rfl rfl rfl rfl rfl rfl (fun _ _ => rfl) rfl (ms_callN (xs := [.tmp 23]) (ih st hsm).2 cb38 [] [(false, 9)] [] rfl rfl rfl rfl rfl rfl rfl rfl (fun _ _ => rfl) (fun _ _ _ => rfl)) (fun _ _ => stg_mem [] 6 [7, 6, 5, 4, 3, 2, 1, 0] [] (fun _ => []) rfl rfl prs_nil rfl rfl rfl rfl rfl rfl rfl rfl rfl rfl rfl (fun _ _ => rfl) rfl (ms_callN (xs := [.tmp 21, .tmp 24]) (join_spec _ _ _ _ _ _ _ _ ⟨by omega, by omega⟩ ⟨by omega, by omega⟩ ⟨by omega, by omega⟩ ⟨by omega, by omega⟩) cb53 [] [] [] rfl rfl rfl rfl rfl rfl rfl rfl (fun _ _ => rfl) (fun _ _ _ => rfl)) (fun _ _ => stg_mem0 [] 8 [8, 7, 6, 5, 4, 3, 2, 1, 0] [] (fun _ => []) rfl rfl prs_nil rfl rfl rfl rfl rfl rfl rfl rfl rfl (fun _ _ => rfl) rfl (ms_store_all (k := 6) t86 rfl rfl rfl rfl rfl rfl) (fun _ _ => stg_end [] rfl rfl prs_nil rfl rfl rfl ?_)))))) nx_nil)))
   ·refine r_here b6 trivial rfl rfl rfl
   ·refine r_here b6 trivial rfl rfl rfl
   ·refine r_here b6 trivial rfl rfl rfl
   ·refine r_here b6 trivial rfl rfl rfl
  ·refine r_seq (r_region ?_)
   refine r_p (p_field0 fo86_2 rfl) rfl ?_
   refine r_p (p_load1 t3 rfl rfl (g_row1 (k := 6) rfl rfl)) rfl ?_
   refine r_p (p_bin rfl rfl (b_add (by first | exact w_i64 (by omega) (by omega) | rfl))) rfl ?_
   refine r_p (p_field0 fo86_2 rfl) rfl ?_
   refine r_store_row (k := 6) t3 rfl rfl rfl rfl rfl rfl rfl rfl ?_
   refine r_nil (r_seq (r_region ?_))
   refine r_p (p_field0 fo86_0 rfl) rfl ?_
   refine r_p (p_load1 t3 rfl rfl (g_row1 (k := 6) rfl rfl)) rfl ?_
   refine r_p (p_bin rfl rfl (b_add (by first | exact w_i64 (by omega) (by omega) | rfl))) rfl ?_
   refine r_p (p_field0 fo86_0 rfl) rfl ?_
   refine r_store_row (k := 6) t3 rfl rfl rfl rfl rfl rfl rfl rfl ?_
   refine r_nil ?_
   refine r_seq_cut (X := Unit) (fun _ => True) (fun _ => [(0, sv v), (2, .pointer (some ⟨b2, 0, none⟩)), (3, .pointer (some ⟨b3, 0, none⟩)), (4, .int .i64 (i : Int)), (5, .pointer (some ⟨b5, 0, none⟩)), (6, .pointer (some ⟨b6, 0, none⟩))]) (fun _ => [(2, row b2 86 (zR 0 0 0 0)), (3, row b3 86 (zR (nYs (l.take i) : Int) (vYs (l.take i) : Int) (dSs (l.take i) : Int) (dqs (l.take i) : Int))), (5, row b5 53 (eTy st)), (6, row b6 86 (zR ((nYs st.body : Int) + (nYs st.els : Int) + 1) (((vYs st.body : Int) + (vYs st.els : Int)) + (if st.kind = 1 then 1 else 0 : Int)) (max (dSs st.body : Int) (dSs st.els : Int) + 1) (max (dqs st.body : Int) (dqs st.els : Int))))]) (fun _ => [(0, tysA v l), (1, sl 5 eTy (sv v) l), (7, txsA st.ve st.es), (8, tysA st.vb st.body), (9, tysA st.vl st.els), (10, sl 4 eTx (sv st.ve) st.es)]) ?_ (fun _ _ => ?_)
   ·refine r_seq (r_region ?_)
    refine r_p (p_field0 fo53_0 rfl) rfl ?_
    refine r_p (p_load1 t3 rfl rfl (g_row1 (k := 5) rfl rfl)) rfl ?_
    refine r_p (p_bin rfl rfl b_eq) rfl ?_
    refine r_nil ?_
    refine r_cond rfl (fun h2 => ?_) (fun h2 => ?_)
    ·have q1 : st.kind = 1 := of_decide_eq_true h2
     refine r_region ?_
     refine r_p (p_field0 fo86_1 rfl) rfl ?_
     refine r_p (p_load1 t3 rfl rfl (g_row1 (k := 6) rfl rfl)) rfl ?_
     refine r_p (p_bin rfl rfl (b_add (by first | exact w_i64 (by omega) (by omega) | rfl))) rfl ?_
     refine r_p (p_field0 fo86_1 rfl) rfl ?_
     refine r_store_row (k := 6) t3 rfl rfl rfl rfl rfl rfl rfl rfl ?_
     refine r_nil ?_
     refine r_here () trivial rfl (by rw [if_pos q1]; rfl) rfl
    ·have q1 : ¬ st.kind = 1 := of_decide_eq_false h2
     refine r_skip ?_
     refine r_here () trivial rfl (by rw [if_neg q1, Int.add_zero]; rfl) rfl
   ·refine r_seq (r_seq (r_region (r_p (p_assign rfl) rfl (r_nil (r_block ?_)))))
    refine r_loop (X := Nat) (fun j => j ≤ st.es.length) (fun j => [(0, sv v), (2, .pointer (some ⟨b2, 0, none⟩)), (3, .pointer (some ⟨b3, 0, none⟩)), (4, .int .i64 (i : Int)), (5, .pointer (some ⟨b5, 0, none⟩)), (6, .pointer (some ⟨b6, 0, none⟩)), (7, .int .i64 (j : Int))]) (fun j => [(2, row b2 86 (zR 0 0 0 0)), (3, row b3 86 (zR (nYs (l.take i) : Int) (vYs (l.take i) : Int) (dSs (l.take i) : Int) (dqs (l.take i) : Int))), (5, row b5 53 (eTy st)), (6, row b6 86 (zR (((nYs st.body : Int) + (nYs st.els : Int) + 1) + (nXs (st.es.take j) : Int)) (((vYs st.body : Int) + (vYs st.els : Int)) + (if st.kind = 1 then 1 else 0 : Int)) (max (dSs st.body : Int) (dSs st.els : Int) + 1) (max (max (dqs st.body : Int) (dqs st.els : Int)) (dXs (st.es.take j) : Int))))]) (fun j => [(0, tysA v l), (1, sl 5 eTy (sv v) l), (7, txsA st.ve st.es), (8, tysA st.vb st.body), (9, tysA st.vl st.els), (10, sl 4 eTx (sv st.ve) st.es)]) (fun j => st.es.length - j) 0 (Nat.zero_le _) rfl (by rw [show (((nYs st.body : Int) + (nYs st.els : Int) + 1) + (nXs (st.es.take 0) : Int)) = ((nYs st.body : Int) + (nYs st.els : Int) + 1) by simp [nXs], show max (max (dqs st.body : Int) (dqs st.els : Int)) (dXs (st.es.take 0) : Int) = (max (dqs st.body : Int) (dqs st.els : Int)) by simp [dXs] <;> omega]; rfl) rfl (fun j n2 => ?_)
    refine r_seq (r_seq (r_region (r_p (p_move rfl) rfl ?_)))
    refine r_p (p_field0 fo53_2 rfl) rfl ?_
    refine r_p (p_load1 t46 rfl rfl (g_row1 (k := 5) rfl rfl)) rfl ?_
    refine r_p (p_len_sl Tryz.underlying46 rfl (hs_sl (k := 10) rfl)) rfl ?_
    refine r_p (p_bin rfl rfl b_lt) rfl ?_
    refine r_nil ?_
    refine r_cond rfl (fun h3 => ?_) (fun h3 => ?_)
    ·(try simp only [decide_eq_true_eq, decide_eq_false_iff_not, Bool.and_eq_true, Bool.or_eq_true, Bool.and_eq_false_iff, Bool.or_eq_false_iff, Bool.not_eq_true, Bool.not_eq_false, Bool.not_eq_true', Bool.not_eq_false', Bool.not_not, bne_iff_ne, beq_iff_eq] at h3)
     have hj : j < st.es.length := by omega
     obtain ⟨u, hu⟩ : ∃ k, st.es[j]? = some k := ⟨_, List.getElem?_eq_getElem hj⟩
     have hum := List.mem_of_getElem? hu
     refine r_more 7 11 rfl (txs_kid hum) ?_
     have hlx := nXs_le st.es (j + 1)
     rw [nXs_take hu] at hlx
     have hdu := dX_le u
     refine r_skip (r_seq (r_block ?_))
     refine r_draw [48, 49, 50, 51, 52, 53, 54, 55] _ rfl (stg_mem (V := [(0, 48, _), (1, 49, _), (2, 50, _), (3, 51, _), (4, 52, _), (5, 53, _)]) [0, 1, 2, 3, 4, 5] 6 [6, 5, 4, 3, 2, 1] [] (fun _ => []) rfl rfl (prs_cons (pri rfl (p_loadA t86 rfl rfl rfl (g_all (k := 6) rfl))) (prs_cons (pri rfl (p_field0 fo53_2 rfl)) (prs_cons (pri rfl (p_load1 t46 rfl rfl (g_row1 (k := 5) rfl rfl))) (prs_cons (pri rfl (p_move rfl)) (prs_cons (pri rfl (p_idx_sl (j := j) Tryz.underlying46 t48 rfl rfl (hs_sl (k := 10) rfl) (by first | rfl | omega) (by first | omega | (simp; done) | (simp; omega)))) (prs_cons (pri rfl (p_loadA t48 rfl rfl rfl (g_el' (hs_sl (k := 10) rfl) (by intro _; rfl) hu (by rfl)))) prs_nil)))))) rfl rfl rfl rfl rfl rfl rfl rfl rfl rfl rfl (fun _ _ => rfl) rfl (ms_callN (xs := [.tmp 53]) (exprsize_spec u (hsg.2.mem u hum) (by omega)) cb54 [] [(false, 11)] [] rfl rfl rfl rfl rfl rfl rfl rfl (fun _ _ => rfl) (fun _ _ _ => rfl)) (fun _ _ => stg_mem [0] 7 [7, 6, 5, 4, 3, 2, 1, 0] [] (fun _ => []) rfl rfl (prs_cons (pri rfl (p_loadA t86 rfl rfl rfl (g_all (k := 6) rfl))) prs_nil) rfl rfl rfl rfl rfl rfl rfl rfl rfl rfl rfl (fun _ _ => rfl) rfl (ms_callN (xs := [.tmp 48, .tmp 54]) (join_spec (((nYs st.body : Int) + (nYs st.els : Int) + 1) + (nXs (st.es.take j) : Int)) (((vYs st.body : Int) + (vYs st.els : Int)) + (if st.kind = 1 then 1 else 0 : Int)) (max (dSs st.body : Int) (dSs st.els : Int) + 1) (max (max (dqs st.body : Int) (dqs st.els : Int)) (dXs (st.es.take j) : Int)) (nX u : Int) 0 0 (dX u : Int) ⟨by omega, by omega⟩ ⟨by omega, by omega⟩ ⟨by omega, by omega⟩ ⟨by omega, by omega⟩) cb53 [] [] [] rfl rfl rfl rfl rfl rfl rfl rfl (fun _ _ => rfl) (fun _ _ _ => rfl)) (fun _ _ => stg_mem0 [] 8 [8, 7, 6, 5, 4, 3, 2, 1, 0] [] (fun _ => []) rfl rfl prs_nil rfl rfl rfl rfl rfl rfl rfl rfl rfl (fun _ _ => rfl) rfl (ms_store_all (k := 6) t86 rfl rfl rfl rfl rfl rfl) (fun _ _ => stg_end [] rfl rfl prs_nil rfl rfl rfl ?_))))
     refine r_region (r_p (p_move rfl) rfl ?_)
     refine r_p (p_bin rfl rfl (b_add (by first | exact w_i64 (by omega) (by omega) | rfl))) rfl ?_
     refine r_p (p_assign rfl) rfl (r_nil ?_)
     refine r_here (j + 1) ⟨by omega, by omega⟩ rfl (by rw [zR_eq (n := ((nYs st.body : Int) + (nYs st.els : Int) + 1) + ((nXs (st.es.take (j + 1)) : Nat) : Int)) (v := ((vYs st.body : Int) + (vYs st.els : Int)) + (if st.kind = 1 then 1 else 0 : Int)) (s := (max (dSs st.body : Int) (dSs st.els : Int) + 1)) (e := max (max (dqs st.body : Int) (dqs st.els : Int)) ((dXs (st.es.take (j + 1)) : Nat) : Int)) (n' := ((nYs st.body : Int) + (nYs st.els : Int) + 1) + (nXs (st.es.take j) : Int) + (nX u : Int)) (v' := ((vYs st.body : Int) + (vYs st.els : Int)) + (if st.kind = 1 then 1 else 0 : Int) + 0) (s' := max (max (dSs st.body : Int) (dSs st.els : Int) + 1) 0) (e' := max (max (max (dqs st.body : Int) (dqs st.els : Int)) (dXs (st.es.take j) : Int)) (dX u : Int)) (by rw [nXs_take hu] <;> omega) (by rw [Int.add_zero]) (by omega) (by rw [dXs_take hu] <;> omega)]; rfl) rfl
    ·(try simp only [decide_eq_true_eq, decide_eq_false_iff_not, Bool.and_eq_true, Bool.or_eq_true, Bool.and_eq_false_iff, Bool.or_eq_false_iff, Bool.not_eq_true, Bool.not_eq_false, Bool.not_eq_true', Bool.not_eq_false', Bool.not_not, bne_iff_ne, beq_iff_eq] at h3)
     have hj : j = st.es.length := by omega
     subst hj
     rw [List.take_length]
     refine r_exit (r_region ?_)
     refine r_p (p_loadA t86 rfl rfl rfl (g_all (k := 3) rfl)) rfl ?_
     refine r_p (p_loadA t86 rfl rfl rfl (g_all (k := 6) rfl)) rfl ?_
     refine r_callN (xs := [.tmp 56, .tmp 57]) (join_spec (nYs (l.take i) : Int) (vYs (l.take i) : Int) (dSs (l.take i) : Int) (dqs (l.take i) : Int) (((nYs st.body : Int) + (nYs st.els : Int) + 1) + (nXs st.es : Int)) (((vYs st.body : Int) + (vYs st.els : Int)) + (if st.kind = 1 then 1 else 0 : Int)) (max (dSs st.body : Int) (dSs st.els : Int) + 1) (max (max (dqs st.body : Int) (dqs st.els : Int)) (dXs st.es : Int)) ⟨by omega, by omega⟩ ⟨by omega, by omega⟩ ⟨by omega, by omega⟩ ⟨by omega, by omega⟩) cb53 [] [] [] rfl rfl rfl rfl rfl rfl rfl rfl (fun _ _ => rfl) (fun _ _ _ => rfl) rfl (fun _ _ => ?_)
     refine r_store_all (k := 3) t86 rfl rfl rfl rfl rfl rfl ?_
     refine r_nil (r_region (r_p (p_move rfl) rfl ?_))
     refine r_p (p_bin rfl rfl (b_add (by first | exact w_i64 (by omega) (by omega) | rfl))) rfl ?_
     refine r_p (p_assign rfl) rfl (r_nil ?_)
     refine r_here (i + 1) ⟨by omega, by omega⟩ rfl (by rw [zR_eq (n := ((nYs (l.take (i + 1)) : Nat) : Int)) (v := ((vYs (l.take (i + 1)) : Nat) : Int)) (s := ((dSs (l.take (i + 1)) : Nat) : Int)) (e := ((dqs (l.take (i + 1)) : Nat) : Int)) (n' := (nYs (l.take i) : Int) + (((nYs st.body : Int) + (nYs st.els : Int) + 1) + (nXs st.es : Int))) (v' := (vYs (l.take i) : Int) + (((vYs st.body : Int) + (vYs st.els : Int)) + (if st.kind = 1 then 1 else 0 : Int))) (s' := max (dSs (l.take i) : Int) (max (dSs st.body : Int) (dSs st.els : Int) + 1)) (e' := max (dqs (l.take i) : Int) (max (max (dqs st.body : Int) (dqs st.els : Int)) (dXs st.es : Int))) (by rw [nYs_take hst] <;> omega) (by rw [vYs_take hst, Int.natCast_add, hvy2]) (by rw [dSs_take hst, dS_eq] <;> omega) (by rw [dqs_take hst, dq_eq] <;> omega)]; rfl) rfl
 ·(try simp only [decide_eq_true_eq, decide_eq_false_iff_not, Bool.and_eq_true, Bool.or_eq_true, Bool.and_eq_false_iff, Bool.or_eq_false_iff, Bool.not_eq_true, Bool.not_eq_false, Bool.not_eq_true', Bool.not_eq_false', Bool.not_not, bne_iff_ne, beq_iff_eq] at h1)
  have hi : i = l.length := by omega
  subst hi
  rw [List.take_length]
  refine r_exit (r_seq (r_region ?_))
  refine r_p (p_loadA t86 rfl rfl rfl (g_all (k := 3) rfl)) rfl ?_
  refine r_store_all (k := 2) t86 rfl rfl rfl rfl rfl rfl ?_
  refine r_nil (r_cret ?_)
  refine r_ret () trivial rfl (rs1 (rv_cellA t86 rfl rfl rfl (g_all (k := 2) rfl))) rfl [] [] rfl rfl rfl
theorem stmtsize_all : ∀ (n : Nat) (v : SV) (l : List Ty), SizeOf.sizeOf l < n → l.length ≤ 1000000 → GYs l → nYs l ≤ 1000000 → HSz v l
 | 0, _, _, h, _, _, _ => absurd h (Nat.not_lt_zero _)
 | n + 1, v, l, h, hl, hg, hn => stmtsize_step v l hn hl hg fun u hu => by
  have h1 := List.sizeOf_lt_of_mem hu
  have h2 : SizeOf.sizeOf u.body < SizeOf.sizeOf u ∧ SizeOf.sizeOf u.els < SizeOf.sizeOf u := by
   cases u
   simp only [Ty.mk.sizeOf_spec, Ty.body, Ty.els]
   omega
  have h3 := hg.mem u hu
  obtain ⟨i, hi⟩ := List.getElem?_of_mem hu
  have hle := nYs_le l (i + 1)
  rw [nYs_take hi] at hle
  have h4 := nY_def u
  exact ⟨stmtsize_all n u.vb u.body (by omega) (GY_body h3).1 (GY_body h3).2 (by omega), stmtsize_all n u.vl u.els (by omega) (GY_els h3).1 (GY_els h3).2 (by omega)⟩
theorem stmtsize_spec (v : SV) (l : List Ty) (hl : l.length ≤ 1000000) (hg : GYs l) (hn : nYs l ≤ 1000000) : HSz v l := stmtsize_all _ v l (Nat.lt_succ_self _) hl hg hn
theorem fst_ne {a b : Int} (h : a ≠ 0) : fst a b = a := if_neg h
theorem eXs_hit {fs : List Tf} {ns : List ByteArray} {l : List Tx} {i : Nat} {u : Tx} (hu : l[i]? = some u) (h0 : eXs fs ns (l.take i) = 0) (h : eX fs ns u ≠ 0) : eXs fs ns l = eX fs ns u := by
 have h1 := eXs_app fs ns (l.take (i + 1)) (l.drop (i + 1))
 rw [List.take_append_drop, eXs_take hu, h0, zero_fst, fst_ne h] at h1
 exact h1
theorem eX_own {fs : List Tf} {ns : List ByteArray} {t : Tx} {z : Int} (h : nE fs ns t = z) (hz : z ≠ 0) : eX fs ns t = z := by rw [eX_eq, h, fst_ne hz]
theorem eX_kids {fs : List Tf} {ns : List ByteArray} {t : Tx} {z : Int} (h : nE fs ns t = 0) (h2 : eXs fs ns t.kids = z) : eX fs ns t = z := by rw [eX_eq, h, h2]; rfl
/-- The contract of scope.expr. -/
def HSe (c : Nat) (vp vn : SV) (fs : List Tf) (ns : List ByteArray) (t : Tx) : Prop := Spec Tryz.prog 55 [.pointer (some ⟨c, 0, none⟩), xV t] [] [row c 90 [sv vp, sv vn], sl 1 eS (sv vn) ns, tfsA vp fs, txsA t.v t.kids] (X := Unit) (fun _ => True) (fun _ => .int .i64 (eX fs ns t)) (fun _ => []) (fun _ => [])
set_option maxHeartbeats 2000000 in
set_option maxRecDepth 100000 in
theorem find9_spec (b : ByteArray) (vp : SV) (fs : List Tf) (hfl : fs.length ≤ 1000000) :
  Spec Tryz.prog 37 [.agg #[sv vp], .string b] [] [sl 3 eTf (sv vp) fs] (X := Unit) (fun _ => True) (fun _ => .int .i64 (fix fs b)) (fun _ => []) (fun _ => []) := by
 refine r_enter Tryz.func37 rfl Tryz.ntmps37 rfl fun w0 M H => ?_
 refine r_seq (r_region ?_)
 refine r_boxA rfl rfl fun b2 => ?_
 refine r_p (p_assign rfl) rfl (r_nil (r_seq (r_seq (r_region (r_p (p_assign rfl) rfl (r_nil (r_block ?_)))))))
 refine r_loop (X := Nat) (fun i => i ≤ fs.length ∧ ∀ j y, j < i → fs[j]? = some y → decide (y.name = b) = false) (fun i => [(1, .string b), (2, .pointer (some ⟨b2, 0, none⟩)), (5, .int .i64 (i : Int))]) (fun i => [(2, row b2 29 [sv vp])]) (fun i => [(0, sl 3 eTf (sv vp) fs)]) (fun i => fs.length - i) 0 ⟨Nat.zero_le _, fun j y h => absurd h (Nat.not_lt_zero _)⟩ rfl rfl rfl (fun i hx0 => ?_)
 obtain ⟨n1, n2⟩ := hx0
 refine r_seq (r_seq (r_region (r_p (p_move rfl) rfl ?_)))
 refine r_p (p_field0 fo29_0 rfl) rfl ?_
 refine r_p (p_load1 t27 rfl rfl (g_row1 (k := 2) rfl rfl)) rfl ?_
 refine r_p (p_len_sl Tryz.underlying27 rfl (hs_sl (k := 0) rfl)) rfl ?_
 refine r_p (p_bin rfl rfl b_lt) rfl ?_
 refine r_nil ?_
 refine r_cond rfl (fun h1 => ?_) (fun h1 => ?_)
 ·(try simp only [decide_eq_true_eq, decide_eq_false_iff_not, Bool.and_eq_true, Bool.or_eq_true, Bool.and_eq_false_iff, Bool.or_eq_false_iff, Bool.not_eq_true, Bool.not_eq_false, Bool.not_eq_true', Bool.not_eq_false', Bool.not_not, bne_iff_ne, beq_iff_eq] at h1)
  have hi : i < fs.length := by omega
  obtain ⟨f, hf⟩ : ∃ k, fs[i]? = some k := ⟨_, List.getElem?_eq_getElem hi⟩
  have hfm := List.mem_of_getElem? hf
  refine r_skip (r_seq (r_block (r_seq (r_region ?_))))
  refine r_p (p_field0 fo29_0 rfl) rfl ?_
  refine r_p (p_load1 t27 rfl rfl (g_row1 (k := 2) rfl rfl)) rfl ?_
  refine r_p (p_move rfl) rfl ?_
  refine r_p (p_idx_sl (j := i) Tryz.underlying27 t63 rfl rfl (hs_sl (k := 0) rfl) (by first | rfl | omega) (by first | omega | (simp; done) | (simp; omega))) rfl ?_
  refine r_p (p_field fo63_0 rfl) rfl ?_
  refine r_p (p_load1 t9 rfl rfl (g_elp (hs_sl (k := 0) rfl) (by intro _; rfl) hf rfl)) rfl ?_
  refine r_p (p_move rfl) rfl ?_
  refine r_p (p_bin rfl rfl b_seq) rfl ?_
  refine r_nil ?_
  refine r_cond rfl (fun h2 => ?_) (fun h2 => ?_)
  ·have hct : decide (f.name = b) = true := by rw [← ba_eq]; exact h2
   refine r_seq (r_region (r_p (p_move rfl) rfl (r_p (p_assign rfl) rfl (r_nil (r_cret ?_)))))
   refine r_ret () trivial rfl (rs1 (rv_tmp rfl)) (by rw [show fix fs b = (i : Int) from ixF_at hf hct n2]) [] [] rfl rfl rfl
  ·have hcf : decide (f.name = b) = false := by rw [← ba_eq]; exact h2
   refine r_skip (r_region (r_p (p_move rfl) rfl ?_))
   refine r_p (p_bin rfl rfl (b_add (by first | exact w_i64 (by omega) (by omega) | rfl))) rfl ?_
   refine r_p (p_assign rfl) rfl (r_nil ?_)
   refine r_here (i + 1) ⟨⟨by omega, fun j y hj hy => by
    by_cases h : j = i
    ·subst h
     rw [hf] at hy
     cases hy
     exact hcf
    ·exact n2 j y (by omega) hy⟩, by omega⟩ rfl rfl rfl
 ·(try simp only [decide_eq_true_eq, decide_eq_false_iff_not, Bool.and_eq_true, Bool.or_eq_true, Bool.and_eq_false_iff, Bool.or_eq_false_iff, Bool.not_eq_true, Bool.not_eq_false, Bool.not_eq_true', Bool.not_eq_false', Bool.not_not, bne_iff_ne, beq_iff_eq] at h1)
  have hi : i = fs.length := by omega
  subst hi
  refine r_exit (r_seq (r_region (r_p (p_assign rfl) rfl (r_nil (r_cret ?_)))))
  refine r_ret () trivial rfl (rs1 (rv_tmp rfl)) (by rw [show fix fs b = -1 from ixF_no n2]) [] [] rfl rfl rfl
set_option maxHeartbeats 4000000 in
set_option maxRecDepth 100000 in
theorem se_step (c : Nat) (vp vn : SV) (fs : List Tf) (ns : List ByteArray) (hfl : fs.length ≤ 1000000) (hns : ns.length ≤ 1000000) (t : Tx) (hkl : t.kids.length ≤ 1000000) (ih : ∀ u ∈ t.kids, HSe c vp vn fs ns u) :
  Spec Tryz.prog 55 [.pointer (some ⟨c, 0, none⟩), xV t] [] [row c 90 [sv vp, sv vn], sl 1 eS (sv vn) ns, tfsA vp fs, txsA t.v t.kids] (X := Unit) (fun _ => True) (fun _ => .int .i64 (eX fs ns t)) (fun _ => []) (fun _ => []) := by
 refine r_enter Tryz.func55 rfl Tryz.ntmps55 rfl fun w0 M H => ?_
 refine r_more 2 4 rfl tfs_sl ?_
 refine r_more 3 5 rfl txs_sl ?_
 refine r_seq (r_region ?_)
 refine r_boxA rfl rfl fun b3 => ?_
 refine r_p (p_assign rfl) rfl (r_nil ?_)
 refine r_seq_cut (X := Unit) (fun _ => t.kind = 2 → memB t.name ns = true) (fun _ => [(0, .pointer (some ⟨c, 0, none⟩)), (3, .pointer (some ⟨b3, 0, none⟩))]) (fun _ => [(3, row b3 48 (eTx t))]) (fun _ => [(0, row c 90 [sv vp, sv vn]), (1, sl 1 eS (sv vn) ns), (2, tfsA vp fs), (3, txsA t.v t.kids), (4, sl 3 eTf (sv vp) fs), (5, sl 4 eTx (sv t.v) t.kids)]) ?_ (fun _ hm2 => ?_)
 ·refine r_seq (r_region ?_)
  refine r_p (p_field0 fo48_0 rfl) rfl ?_
  refine r_p (p_load1 t3 rfl rfl (g_row1 (k := 3) rfl rfl)) rfl ?_
  refine r_p (p_bin rfl rfl b_eq) rfl ?_
  refine r_nil ?_
  refine r_cond rfl (fun h1 => ?_) (fun h1 => ?_)
  ·have q2 : t.kind = 2 := of_decide_eq_true h1
   refine r_seq ?_
   refine r_draw [12, 13, 14, 15, 16, 17, 18, 5] _ rfl (stg_mem (V := [(0, 12, _), (1, 13, _), (2, 14, _), (3, 15, _), (4, 16, _), (5, 17, _)]) [0, 1, 2, 3, 4, 5] 6 [6, 5, 4, 3, 2, 1, 0] [7] (fun _ => [(7, 5, _)]) rfl rfl (prs_cons (pri rfl (p_field0 fo48_2 rfl)) (prs_cons (pri rfl (p_load1 t9 rfl rfl (g_row1 (k := 3) rfl rfl))) (prs_cons (pri rfl (p_move rfl)) (prs_cons (pri rfl (p_nilCheck rfl)) (prs_cons (pri rfl (p_field0 fo90_1 rfl)) (prs_cons (pri rfl (p_load1 t58 rfl rfl (g_row1R (k := 0) rfl rfl))) prs_nil)))))) rfl rfl rfl rfl rfl rfl rfl rfl rfl rfl rfl (fun _ _ => rfl) rfl (ms_callN (xs := [.tmp 13, .tmp 17]) (among_spec t.name vn ns hns) cb39 [] [(false, 1)] [] rfl rfl rfl rfl rfl rfl rfl rfl (fun _ _ => rfl) (fun _ _ _ => rfl)) (fun _ _ => stg_end [7] rfl rfl (prs_cons (pri rfl (p_assign rfl)) prs_nil) rfl rfl rfl ?_))
   refine r_seq (r_region (r_p (p_move rfl) rfl ?_))
   refine r_p (p_not rfl) rfl ?_
   refine r_nil ?_
   refine r_cond rfl (fun h2 => ?_) (fun h2 => ?_)
   ·have qm : memB t.name ns = false := by simpa using h2
    refine r_seq (r_region (r_p (p_assign rfl) rfl (r_nil (r_cret ?_))))
    refine r_ret () trivial rfl (rs1 (rv_tmp rfl)) (by rw [eX_own (show nE fs ns t = 21 by rw [nE_2 q2, qm]; rfl) (by decide)]) [] [] rfl rfl rfl
   ·have qm : memB t.name ns = true := by simpa using h2
    refine r_skip ?_
    refine r_here () (fun _ => qm) rfl rfl rfl
  ·have q2 : ¬ t.kind = 2 := of_decide_eq_false h1
   refine r_skip ?_
   refine r_here () (fun h => absurd h q2) rfl rfl rfl
 ·refine r_seq_cut (X := Unit) (fun _ => nE fs ns t = 0) (fun _ => [(0, .pointer (some ⟨c, 0, none⟩)), (3, .pointer (some ⟨b3, 0, none⟩))]) (fun _ => [(3, row b3 48 (eTx t))]) (fun _ => [(0, row c 90 [sv vp, sv vn]), (1, sl 1 eS (sv vn) ns), (2, tfsA vp fs), (3, txsA t.v t.kids), (4, sl 3 eTf (sv vp) fs), (5, sl 4 eTx (sv t.v) t.kids)]) ?_ (fun _ hn0 => ?_)
  ·refine r_seq (r_region ?_)
   refine r_p (p_field0 fo48_0 rfl) rfl ?_
   refine r_p (p_load1 t3 rfl rfl (g_row1 (k := 3) rfl rfl)) rfl ?_
   refine r_p (p_bin rfl rfl b_eq) rfl ?_
   refine r_nil ?_
   refine r_cond rfl (fun h3 => ?_) (fun h3 => ?_)
   ·have q3 : t.kind = 3 := of_decide_eq_true h3
    refine r_seq ?_
    refine r_draw [24, 25, 26, 27, 28, 29, 30, 6] _ rfl (stg_mem (V := [(0, 24, _), (1, 25, _), (2, 26, _), (3, 27, _), (4, 28, _), (5, 29, _)]) [0, 1, 2, 3, 4, 5] 6 [6, 5, 4, 3, 2, 1, 0] [7] (fun _ => [(7, 6, _)]) rfl rfl (prs_cons (pri rfl (p_move rfl)) (prs_cons (pri rfl (p_nilCheck rfl)) (prs_cons (pri rfl (p_field0 fo90_0 rfl)) (prs_cons (pri rfl (p_loadA t29 rfl rfl rfl (g_rowR (us := [sv vp]) (k := 0) rfl rfl))) (prs_cons (pri rfl (p_field0 fo48_2 rfl)) (prs_cons (pri rfl (p_load1 t9 rfl rfl (g_row1 (k := 3) rfl rfl))) prs_nil)))))) rfl rfl rfl rfl rfl rfl rfl rfl rfl rfl rfl (fun _ _ => rfl) rfl (ms_callN (xs := [.tmp 27, .tmp 29]) (find9_spec t.name vp fs hfl) cb37 [] [(false, 4)] [] rfl rfl rfl rfl rfl rfl rfl rfl (fun _ _ => rfl) (fun _ _ _ => rfl)) (fun _ _ => stg_end [7] rfl rfl (prs_cons (pri rfl (p_assign rfl)) prs_nil) rfl rfl rfl ?_))
    refine r_seq (r_seq (r_region (r_p (p_move rfl) rfl ?_)))
    refine r_p (p_bin rfl rfl b_lt) rfl ?_
    refine r_nil ?_
    refine r_cond rfl (fun h4 => ?_) (fun h4 => ?_)
    ·have hff : ffind fs t.name = none := ffind_fix.1.1 (of_decide_eq_true h4)
     refine r_seq (r_region (r_p (p_assign rfl) rfl (r_nil (r_cret ?_))))
     refine r_ret () trivial rfl (rs1 (rv_tmp rfl)) (by rw [eX_own (nE_none q3 hff) (by decide)]) [] [] rfl rfl rfl
    ·have hq1 : ¬ fix fs t.name < 0 := of_decide_eq_false h4
     obtain ⟨f, hff⟩ : ∃ f, ffind fs t.name = some f := by
      cases hf : ffind fs t.name with
      | none => exact absurd (ffind_fix.1.2 hf) hq1
      | some f => exact ⟨f, rfl⟩
     obtain ⟨m, hxm, hfx⟩ := ffind_fix.2 f hff
     have hfm := List.mem_of_getElem? hfx
     have hml : m < fs.length := (List.getElem?_eq_some_iff.1 hfx).1
     rw [hxm]
     refine r_more 2 6 rfl (tfs_f hfm) ?_
     refine r_more 6 7 rfl tf_ps ?_
     refine r_skip (r_seq ?_)
     refine r_draw [33, 34, 35, 36, 37, 38, 39, 40, 41, 42, 43, 44, 45, 46] _ rfl (stg_end (V := [(0, 33, _), (1, 34, _), (2, 35, _), (3, 36, _), (4, 37, _), (5, 38, _), (6, 39, _), (7, 40, _), (8, 41, _), (9, 42, _), (10, 43, _), (11, 44, _), (12, 45, _), (13, 46, _)]) [0, 1, 2, 3, 4, 5, 6, 7, 8, 9, 10, 11, 12, 13] rfl rfl (prs_cons (pri rfl (p_move rfl)) (prs_cons (pri rfl (p_nilCheck rfl)) (prs_cons (pri rfl (p_field0 fo90_0 rfl)) (prs_cons (pri rfl (p_field0 fo29_0 rfl)) (prs_cons (pri rfl (p_load1 t27 rfl rfl (g_row1R (k := 0) rfl rfl))) (prs_cons (pri rfl (p_move rfl)) (prs_cons (pri rfl (p_idx_sl (j := m) Tryz.underlying27 t63 rfl rfl (hs_sl (k := 4) rfl) rfl hml)) (prs_cons (pri rfl (p_field fo63_1 rfl)) (prs_cons (pri rfl (p_load1 t58 rfl rfl (g_elp (hs_sl (k := 4) rfl) (by intro _; rfl) hfx rfl))) (prs_cons (pri rfl (p_len_sl Tryz.underlying58 rfl (hs_sl (k := 7) rfl))) (prs_cons (pri rfl (p_field0 fo48_3 rfl)) (prs_cons (pri rfl (p_load1 t46 rfl rfl (g_row1 (k := 3) rfl rfl))) (prs_cons (pri rfl (p_len_sl Tryz.underlying46 rfl (hs_sl (k := 5) rfl))) (prs_cons (pri rfl (p_bin rfl rfl b_ne)) prs_nil)))))))))))))) rfl rfl rfl ?_)
     refine r_cond rfl (fun h5 => ?_) (fun h5 => ?_)
     ·(try simp only [decide_eq_true_eq, decide_eq_false_iff_not, Bool.and_eq_true, Bool.or_eq_true, Bool.and_eq_false_iff, Bool.or_eq_false_iff, Bool.not_eq_true, Bool.not_eq_false, Bool.not_eq_true', Bool.not_eq_false', Bool.not_not, bne_iff_ne, beq_iff_eq] at h5)
      have hpl : ¬ f.ps.length = t.kids.length := by omega
      refine r_seq (r_region (r_p (p_assign rfl) rfl (r_nil (r_cret ?_))))
      refine r_ret () trivial rfl (rs1 (rv_tmp rfl)) (by rw [eX_own (show nE fs ns t = 23 by rw [nE_some q3 hff, if_neg hpl]) (by decide)]) [] [] rfl rfl rfl
     ·(try simp only [decide_eq_true_eq, decide_eq_false_iff_not, Bool.and_eq_true, Bool.or_eq_true, Bool.and_eq_false_iff, Bool.or_eq_false_iff, Bool.not_eq_true, Bool.not_eq_false, Bool.not_eq_true', Bool.not_eq_false', Bool.not_not, bne_iff_ne, beq_iff_eq] at h5)
      have hpl : f.ps.length = t.kids.length := by omega
      refine r_skip ?_
      refine r_here () (by rw [nE_some q3 hff, if_pos hpl]) rfl rfl rfl
   ·have q3 : ¬ t.kind = 3 := of_decide_eq_false h3
    refine r_skip ?_
    refine r_here () (by by_cases q2 : t.kind = 2; rw [nE_2 q2, if_pos (hm2 q2)]; exact nE_0 q2 q3) rfl rfl rfl
  ·refine r_seq (r_seq (r_region (r_p (p_assign rfl) rfl (r_nil (r_block ?_)))))
   refine r_loop (X := Nat) (fun i => i ≤ t.kids.length ∧ eXs fs ns (t.kids.take i) = 0) (fun i => [(0, .pointer (some ⟨c, 0, none⟩)), (3, .pointer (some ⟨b3, 0, none⟩)), (7, .int .i64 (i : Int))]) (fun i => [(3, row b3 48 (eTx t))]) (fun i => [(0, row c 90 [sv vp, sv vn]), (1, sl 1 eS (sv vn) ns), (2, tfsA vp fs), (3, txsA t.v t.kids), (4, sl 3 eTf (sv vp) fs), (5, sl 4 eTx (sv t.v) t.kids)]) (fun i => t.kids.length - i) 0 ⟨Nat.zero_le _, rfl⟩ rfl rfl rfl (fun i hx0 => ?_)
   obtain ⟨n1, n2⟩ := hx0
   refine r_seq (r_seq (r_region (r_p (p_move rfl) rfl ?_)))
   refine r_p (p_field0 fo48_3 rfl) rfl ?_
   refine r_p (p_load1 t46 rfl rfl (g_row1 (k := 3) rfl rfl)) rfl ?_
   refine r_p (p_len_sl Tryz.underlying46 rfl (hs_sl (k := 5) rfl)) rfl ?_
   refine r_p (p_bin rfl rfl b_lt) rfl ?_
   refine r_nil ?_
   refine r_cond rfl (fun h6 => ?_) (fun h6 => ?_)
   ·(try simp only [decide_eq_true_eq, decide_eq_false_iff_not, Bool.and_eq_true, Bool.or_eq_true, Bool.and_eq_false_iff, Bool.or_eq_false_iff, Bool.not_eq_true, Bool.not_eq_false, Bool.not_eq_true', Bool.not_eq_false', Bool.not_not, bne_iff_ne, beq_iff_eq] at h6)
    have hi : i < t.kids.length := by omega
    obtain ⟨u, hu⟩ : ∃ u, t.kids[i]? = some u := ⟨_, List.getElem?_eq_getElem hi⟩
    have hum := List.mem_of_getElem? hu
    refine r_skip (r_seq (r_block (r_seq (r_region (r_p (p_move rfl) rfl ?_)))))
    refine r_p (p_field0 fo48_3 rfl) rfl ?_
    refine r_p (p_load1 t46 rfl rfl (g_row1 (k := 3) rfl rfl)) rfl ?_
    refine r_p (p_move rfl) rfl ?_
    refine r_p (p_idx_sl (j := i) Tryz.underlying46 t48 rfl rfl (hs_sl (k := 5) rfl) (by first | rfl | omega) (by first | omega | (simp; done) | (simp; omega))) rfl ?_
    refine r_p (p_loadA t48 rfl rfl rfl (g_el' (hs_sl (k := 5) rfl) (by intro _; rfl) hu (by rfl))) rfl ?_
    refine r_more 3 9 rfl (txs_kid hum) ?_
    refine r_callN (xs := [.tmp 54, .tmp 59]) (ih u hum) cb55 [] [(false, 0), (false, 1), (false, 2), (false, 9)] [] rfl rfl rfl rfl rfl rfl rfl rfl (fun _ _ => rfl) (fun _ _ _ => rfl) rfl (fun _ _ => ?_)
    refine r_p (p_assign rfl) rfl (r_nil (r_seq (r_region (r_p (p_move rfl) rfl ?_))))
    refine r_p (p_bin rfl rfl b_ne) rfl ?_
    refine r_nil ?_
    refine r_cond rfl (fun h7 => ?_) (fun h7 => ?_)
    ·(try simp only [decide_eq_true_eq, decide_eq_false_iff_not, Bool.and_eq_true, Bool.or_eq_true, Bool.and_eq_false_iff, Bool.or_eq_false_iff, Bool.not_eq_true, Bool.not_eq_false, Bool.not_eq_true', Bool.not_eq_false', Bool.not_not, bne_iff_ne, beq_iff_eq] at h7)
     have hct : eX fs ns u ≠ 0 := h7
     refine r_seq (r_region (r_p (p_move rfl) rfl (r_p (p_assign rfl) rfl (r_nil (r_cret ?_)))))
     refine r_ret () trivial rfl (rs1 (rv_tmp rfl)) (by rw [eX_kids hn0 (eXs_hit hu n2 hct)]) [] [] rfl rfl rfl
    ·(try simp only [decide_eq_true_eq, decide_eq_false_iff_not, Bool.and_eq_true, Bool.or_eq_true, Bool.and_eq_false_iff, Bool.or_eq_false_iff, Bool.not_eq_true, Bool.not_eq_false, Bool.not_eq_true', Bool.not_eq_false', Bool.not_not, bne_iff_ne, beq_iff_eq] at h7)
     have hcf : eX fs ns u = 0 := h7
     refine r_skip (r_region (r_p (p_move rfl) rfl ?_))
     refine r_p (p_bin rfl rfl (b_add (by first | exact w_i64 (by omega) (by omega) | rfl))) rfl ?_
     refine r_p (p_assign rfl) rfl (r_nil ?_)
     refine r_here (i + 1) ⟨⟨by omega, by rw [eXs_take hu, n2, hcf]; rfl⟩, by omega⟩ rfl rfl rfl
   ·(try simp only [decide_eq_true_eq, decide_eq_false_iff_not, Bool.and_eq_true, Bool.or_eq_true, Bool.and_eq_false_iff, Bool.or_eq_false_iff, Bool.not_eq_true, Bool.not_eq_false, Bool.not_eq_true', Bool.not_eq_false', Bool.not_not, bne_iff_ne, beq_iff_eq] at h6)
    have hi : i = t.kids.length := by omega
    subst hi
    rw [List.take_length] at n2
    refine r_exit (r_seq (r_region (r_p (p_assign rfl) rfl (r_nil (r_cret ?_)))))
    refine r_ret () trivial rfl (rs1 (rv_tmp rfl)) (by rw [eX_kids hn0 n2]) [] [] rfl rfl rfl
theorem se_all (c : Nat) (vp vn : SV) (fs : List Tf) (ns : List ByteArray) (hfl : fs.length ≤ 1000000) (hns : ns.length ≤ 1000000) : ∀ (n : Nat) (t : Tx), SizeOf.sizeOf t < n → GX t → HSe c vp vn fs ns t
 | 0, _, h, _ => absurd h (Nat.not_lt_zero _)
 | n + 1, t, h, ht => se_step c vp vn fs ns hfl hns t (GX_len ht) fun u hu => se_all c vp vn fs ns hfl hns n u (by have := tx_lt hu; omega) ((GX_kids ht).mem u hu)
theorem se_spec (c : Nat) (vp vn : SV) (fs : List Tf) (ns : List ByteArray) (hfl : fs.length ≤ 1000000) (hns : ns.length ≤ 1000000) (t : Tx) (ht : GX t) : HSe c vp vn fs ns t := se_all c vp vn fs ns hfl hns _ t (Nat.lt_succ_self _) ht
/-- The frame and the state behind statements. -/
structure Sb where
 fr : Vs
 vN : SV
 vV : SV
 done : Bool
 val : Int
 x : Sx
def FitB (e : Rn) (r : Re (Vs × Option Int)) (y : Sb) : Prop := (∃ vs ro s vo, r = .ok (vs, ro) s ∧ y.x = xS e s vo ∧ FrEq y.fr vs ∧ (y.fr.length : Int) + max s.fuel 0 ≤ 1000001000000 ∧ y.done = ro.isSome ∧ y.val = ro.getD 0) ∨ (y.x.er ≠ 0 ∧ r = .err y.x.er)
abbrev LB (e : Rn) (b d : Nat) (y : Sb) : List Asn := [row e.m 117 (xRow e y.x), own 36 1 eU (sv y.x.vo) y.x.out, row b 139 (fC y.vN y.vV (d : Int) y.done y.val), own 9 1 eS (sv y.vN) (nmF y.fr), own 36 1 eU (sv y.vV) (vlF y.fr)]
structure RkB (e : Rn) (fr vs : Vs) (s : Ms) : Prop where
 k : RkE e s
 v : okVs vs
 f : FrEq fr vs
 n : (fr.length : Int) + max s.fuel 0 ≤ 1000001000000
/-- The contract of statements. -/
def HB8 (e : Rn) (g : Nat) : Prop := ∀ (l : List Ty) (v : SV) (d b : Nat) (vN vV : SV) (fr vs : Vs) (s : Ms) (vo : SV) (r : Re (Vs × Option Int)), VYs e.fs l → l.length ≤ 1000000 → d ≤ 12 → RkB e fr vs s → evB g e.fs d vs l s = some r →
 Spec Tryz.prog 85 [.pointer (some ⟨e.m, 0, none⟩), .pointer (some ⟨b, 0, none⟩), sv v] (LB e b d ⟨fr, vN, vV, false, 0, xS e s vo⟩) [tysA v l, tfsA e.vp e.fs, sl 1 eU (sv e.vin) e.ins] (X := Sb) (FitB e r) (fun _ => .tuple #[]) (fun y => LB e b d y) (fun _ => [])
/-- The contract of a statement. -/
def HS8 (e : Rn) (g : Nat) : Prop := ∀ (t : Ty) (d b : Nat) (vN vV : SV) (fr vs : Vs) (s : Ms) (vo : SV) (r : Re (Vs × Option Int)), VY e.fs t → d ≤ 12 → RkB e fr vs s → evS g e.fs d vs t s = some r →
 Spec Tryz.prog 104 [.pointer (some ⟨e.m, 0, none⟩), .pointer (some ⟨b, 0, none⟩), yV t] (LB e b d ⟨fr, vN, vV, false, 0, xS e s vo⟩) [txsA t.ve t.es, tysA t.vb t.body, tysA t.vl t.els, tfsA e.vp e.fs, sl 1 eU (sv e.vin) e.ins] (X := Sb) (FitB e r) (fun _ => .tuple #[]) (fun y => LB e b d y) (fun _ => [])
theorem vbind_take : ∀ (ps : List ByteArray) (al : List Int) (vs : Vs) (i : Nat) (p : ByteArray) (a : Int), ps[i]? = some p → al[i]? = some a → vbind vs (ps.take (i + 1)) (al.take (i + 1)) = vput (vbind vs (ps.take i) (al.take i)) p a
 | [], _, _, _, _, _, h, _ => by simp at h
 | _ :: _, [], _, _, _, _, _, h => by simp at h
 | q :: ps, c :: al, vs, 0, p, a, h1, h2 => by
  cases h1
  cases h2
  rfl
 | q :: ps, c :: al, vs, i + 1, p, a, h1, h2 => by
  rw [List.take_succ_cons, List.take_succ_cons, List.take_succ_cons, List.take_succ_cons]
  show vbind (vput vs q c) _ _ = vput (vbind (vput vs q c) _ _) p a
  exact vbind_take ps al (vput vs q c) i p a h1 h2
theorem vbind_len : ∀ (ps : List ByteArray) (al : List Int) (vs : Vs), vbind vs (ps.take al.length) al = vbind vs ps al
 | [], [], _ => rfl
 | [], _ :: _, _ => rfl
 | q :: ps, [], _ => rfl
 | q :: ps, c :: al, vs => by
  rw [List.length_cons, List.take_succ_cons]
  show vbind (vput vs q c) _ _ = vbind (vput vs q c) ps al
  exact vbind_len ps al _
/-- The frame of a call while its parameters are set. -/
structure Yf where
 i : Nat
 fr : Vs
 vN : SV
 vV : SV
/-- The state of the loop over statements. -/
structure Yb where
 i : Nat
 g : Nat
 y : Sb
def BIn (e : Rn) (g d : Nat) (l : List Ty) (y : Sb) (r : Re (Vs × Option Int)) : Prop := (∃ vs s vo, y.x = xS e s vo ∧ RkB e y.fr vs s ∧ y.done = false ∧ y.val = 0 ∧ evB g e.fs d vs l s = some r) ∨ ((y.done = true ∨ y.x.er ≠ 0) ∧ FitB e r y)
theorem BIn.done {e : Rn} {g d : Nat} {y : Sb} {r : Re (Vs × Option Int)} (h : BIn e g d [] y r) : FitB e r y := by
 rcases h with ⟨vs, s, vo, h1, h2, h3, h4, h5⟩ | h
 ·exact .inl ⟨vs, none, s, vo, evB_nil h5, h1, h2.f, h2.n, h3, h4⟩
 ·exact h.2
theorem BIn.stop {e : Rn} {g d : Nat} {l : List Ty} {y : Sb} {r : Re (Vs × Option Int)} (h : BIn e g d l y r) (hs : y.done = true ∨ y.x.er ≠ 0) : FitB e r y := by
 rcases h with ⟨vs, s, vo, h1, h2, h3, h4, h5⟩ | h
 ·rcases hs with hs | hs
  ·rw [h3] at hs; cases hs
  ·rw [h1] at hs; exact absurd rfl hs
 ·exact h.2
theorem BIn.step {e : Rn} {g d : Nat} {t : Ty} {l : List Ty} {y : Sb} {r : Re (Vs × Option Int)} (hF : VF e.fs) (ht : VY e.fs t) (h : BIn e g d (t :: l) y r) (hd : y.done = false) (he : y.x.er = 0) :
  ∃ g2 q vs s vo, g = g2 + 1 ∧ y.x = xS e s vo ∧ RkB e y.fr vs s ∧ y.val = 0 ∧ evS g2 e.fs d vs t s = some q ∧ ∀ z, FitB e q z → BIn e g2 d l z r := by
 rcases h with ⟨vs, s, vo, h1, h2, h3, h4, h5⟩ | ⟨h, _⟩
 ·obtain ⟨g2, q, hg, hx, hre, hrs, hrn⟩ := evB_cons h5
  refine ⟨g2, q, vs, s, vo, hg, h1, h2, h4, hx, fun z hz => ?_⟩
  rcases hz with ⟨vs1, ro, s1, vo1, z1, z2, z3, z4, z5, z6⟩ | ⟨z1, z2⟩
  ·rw [z1] at hx
   obtain ⟨k1, k2, k3⟩ := (ev_ok hF g2).s d vs t s _ s1 ht h2.v h2.k.ok hx
   cases ro with
   | none => exact .inl ⟨vs1, s1, vo1, z2, ⟨h2.k.kp k3, k1, z3, z4⟩, z5, z6, hrn vs1 s1 z1⟩
   | some x => exact .inr ⟨.inl z5, .inl ⟨vs1, some x, s1, vo1, hrs vs1 x s1 z1, z2, z3, z4, z5, z6⟩⟩
  ·exact .inr ⟨.inr z1, .inr ⟨z1, hre _ z2⟩⟩
 ·rcases h with h | h
  ·rw [hd] at h; cases h
  ·exact absurd he h
set_option maxHeartbeats 16000000 in
set_option maxRecDepth 100000 in
theorem c8_deep (e : Rn) (g : Nat) (hF : VF e.fs) (hfl : e.fs.length ≤ 1000000) (ihB : HB8 e g) (nm : ByteArray) (f : Tf) (d : Nat) (va : SV) (al : List Int) (s : Ms) (vo : SV) (r : Re Int) (hff : ffind e.fs nm = some f) (hal : al.length ≤ f.ps.length) (hao : ∀ a ∈ al, oW a) (hd : d ≤ 12) (hs : RkE e s) (hr : evC (g + 1) e.fs d f al s = some r) (h12 : d = 12) :
  Spec Tryz.prog 48 [.pointer (some ⟨e.m, 0, none⟩), .string nm, sv va, .int .i64 ((d : Int) + 1)] (LX e (xS e s vo)) ([sl 1 eU (sv va) al, tfsA e.vp e.fs, sl 1 eU (sv e.vin) e.ins]) (X := Int × Sx) (FitX e r) (fun y => .int .u32 y.1) (fun y => LX e y.2) (fun _ => []) := by
 refine r_enter Tryz.func48 rfl Tryz.ntmps48 rfl fun w0 M H => ?_
 unfold evC at hr
 rw [if_pos h12] at hr
 refine r_seq (r_region (r_p (p_assign rfl) rfl (r_nil (r_seq (r_seq (r_region (r_p (p_move rfl) rfl ?_)))))))
 refine r_p (p_bin rfl rfl b_gt) rfl ?_
 refine r_nil ?_
 refine r_cond rfl (fun h1 => ?_) (fun h1 => ?_)
 ·(try simp only [decide_eq_true_eq, decide_eq_false_iff_not, Bool.and_eq_true, Bool.or_eq_true, Bool.and_eq_false_iff, Bool.or_eq_false_iff, Bool.not_eq_true, Bool.not_eq_false, Bool.not_eq_true', Bool.not_eq_false', Bool.not_not, bne_iff_ne, beq_iff_eq] at h1)
  refine r_seq (r_region (r_p (p_move rfl) rfl (r_p (p_nilCheck rfl) rfl ?_)))
  refine r_p (p_field0 fo117_6 rfl) rfl ?_
  refine r_store_row (k := 0) t40 rfl rfl rfl rfl rfl rfl (xC_fit (by decide)) (xC_setEr) ?_
  refine r_nil (r_seq (r_region (r_p (p_assign rfl) rfl (r_nil (r_cret ?_)))))
  refine r_ret (0, { xS e s vo with er := 26 }) (.inr ⟨by show (26 : Int) ≠ 0; decide, (Option.some.inj hr).symm⟩) rfl (rs1 (rv_tmp rfl)) rfl [0, 1] [] rfl rfl rfl
 ·exact absurd (of_decide_eq_false h1) (by omega)
set_option maxHeartbeats 16000000 in
set_option maxRecDepth 100000 in
theorem c8_ok (e : Rn) (g : Nat) (hF : VF e.fs) (hfl : e.fs.length ≤ 1000000) (ihB : HB8 e g) (nm : ByteArray) (f : Tf) (d : Nat) (va : SV) (al : List Int) (s : Ms) (vo : SV) (r : Re Int) (hff : ffind e.fs nm = some f) (hal : al.length ≤ f.ps.length) (hao : ∀ a ∈ al, oW a) (hd : d ≤ 12) (hs : RkE e s) (hr : evC (g + 1) e.fs d f al s = some r) (h12 : ¬ d = 12) :
  Spec Tryz.prog 48 [.pointer (some ⟨e.m, 0, none⟩), .string nm, sv va, .int .i64 ((d : Int) + 1)] (LX e (xS e s vo)) ([sl 1 eU (sv va) al, tfsA e.vp e.fs, sl 1 eU (sv e.vin) e.ins]) (X := Int × Sx) (FitX e r) (fun y => .int .u32 y.1) (fun y => LX e y.2) (fun _ => []) := by
 refine r_enter Tryz.func48 rfl Tryz.ntmps48 rfl fun w0 M H => ?_
 unfold evC at hr
 rw [if_neg h12] at hr
 obtain ⟨rb, hb⟩ : ∃ rb, evB g e.fs (d + 1) (vbind [] f.ps al) f.body s = some rb := by
  cases h : evB g e.fs (d + 1) (vbind [] f.ps al) f.body s with
  | none => rw [h] at hr; simp at hr
  | some q => exact ⟨q, rfl⟩
 rw [hb] at hr
 obtain ⟨m, hfx, hfm⟩ := ffind_fix.2 f hff
 have hfm2 := List.mem_of_getElem? hfm
 have hml : m < e.fs.length := (List.getElem?_eq_some_iff.1 hfm).1
 obtain ⟨hF1, hF2, hF3⟩ := hF f hfm2
 have hso := hs.ok.out
 refine r_more 1 3 rfl tfs_sl ?_
 refine r_more 1 4 rfl (tfs_f hfm2) ?_
 refine r_more 4 5 rfl tf_ps ?_
 refine r_more 4 6 rfl tf_body ?_
 refine r_seq (r_region (r_p (p_assign rfl) rfl (r_nil (r_seq (r_seq (r_region (r_p (p_move rfl) rfl ?_)))))))
 refine r_p (p_bin rfl rfl b_gt) rfl ?_
 refine r_nil ?_
 refine r_cond rfl (fun h1 => ?_) (fun h1 => ?_)
 ·exact absurd (of_decide_eq_true h1) (by omega)
 ·(try simp only [decide_eq_true_eq, decide_eq_false_iff_not, Bool.and_eq_true, Bool.or_eq_true, Bool.and_eq_false_iff, Bool.or_eq_false_iff, Bool.not_eq_true, Bool.not_eq_false, Bool.not_eq_true', Bool.not_eq_false', Bool.not_not, bne_iff_ne, beq_iff_eq] at h1)
  refine r_skip ?_
  refine r_seq_cut (X := Nat) (fun _ => True) (fun b9 => [(0, .pointer (some ⟨e.m, 0, none⟩)), (2, sv va), (3, .int .i64 ((d : Int) + 1)), (9, .pointer (some ⟨b9, 0, none⟩))]) (fun b9 => [(0, row e.m 117 (xRow e (xS e s vo))), (1, own 36 1 eU (sv vo) s.out), (9, row b9 63 (eTf f))]) (fun b9 => [(0, sl 1 eU (sv va) al), (1, tfsA e.vp e.fs), (2, sl 1 eU (sv e.vin) e.ins), (3, sl 3 eTf (sv e.vp) e.fs), (4, tfA f), (5, sl 1 eS (sv f.vp) f.ps), (6, tysA f.vb f.body)]) ?_ (fun b9 _ => ?_)
  ·refine r_draw [17, 18, 19, 20, 21, 22, 23, 24, 25, 26, 27, 28, 29, 9] _ rfl (stg_alts (V := [(0, 17, _), (1, 18, _), (2, 19, _), (3, 20, _), (4, 21, _), (5, 22, _), (6, 23, _), (7, 24, _), (8, 25, _), (9, 26, _)]) [0, 1, 2, 3, 4, 5, 6, 7, 8, 9] rfl rfl (prs_cons (pri rfl (p_move rfl)) (prs_cons (pri rfl (p_nilCheck rfl)) (prs_cons (pri rfl (p_field0 fo117_0 rfl)) (prs_cons (pri rfl (p_field0 fo29_0 rfl)) (prs_cons (pri rfl (p_load1 t27 rfl rfl (g_row1 (k := 0) rfl rfl))) (prs_cons (pri rfl (p_move rfl)) (prs_cons (pri rfl (p_nilCheck rfl)) (prs_cons (pri rfl (p_field0 fo117_0 rfl)) (prs_cons (pri rfl (p_loadA t29 rfl rfl rfl (g_row (us := [sv e.vp]) (k := 0) rfl rfl))) (prs_cons (pri rfl (p_move rfl)) prs_nil)))))))))) rfl [10, 13] rfl rfl (nx_cons (nx_mem 10 [10, 9, 8, 7, 6, 5] [11, 12] (fun _ => [(11, 28, _), (12, 29, _)]) rfl rfl rfl rfl rfl rfl rfl rfl rfl (fun _ _ => rfl) rfl (ms_callN (xs := [.tmp 25, .tmp 26]) (find9_spec nm e.vp e.fs hfl) cb37 [] [(false, 3)] [] rfl rfl rfl rfl rfl rfl rfl rfl (fun _ _ => rfl) (fun _ _ _ => rfl)) (fun _ _ => stg_mem [11, 12, 0, 1, 2, 3, 4] 13 [13, 10, 9, 8, 7, 6, 5] [] (fun b9 => []) rfl rfl (prs_cons (pri rfl (p_idx_sl (j := m) Tryz.underlying27 t63 rfl rfl (hs_sl (k := 3) rfl) hfx hml)) (prs_cons (pri rfl (p_loadA t63 rfl rfl rfl (g_el' (hs_sl (k := 3) rfl) (by intro _; rfl) hfm (by rfl)))) (prs_cons (pri rfl (p_move rfl)) (prs_cons (pri rfl (p_nilCheck rfl)) (prs_cons (pri rfl (p_field0 fo117_0 rfl)) (prs_cons (pri rfl (p_field0 fo29_0 rfl)) (prs_cons (pri rfl (p_load1 t27 rfl rfl (g_row1 (k := 0) rfl rfl))) prs_nil))))))) rfl rfl rfl rfl rfl rfl rfl rfl rfl rfl rfl (fun _ _ => rfl) rfl (ms_alloc t63 rfl) (fun b9 _ => stg_mem0 [11, 12, 0, 1, 2, 3, 4] 14 [14, 13, 12, 11, 10, 9, 8, 7, 6, 5, 4, 3, 2, 1, 0] [] (fun _ => []) rfl rfl (prs_cons (pri rfl (p_idx_sl (j := m) Tryz.underlying27 t63 rfl rfl (hs_sl (k := 3) rfl) hfx hml)) (prs_cons (pri rfl (p_loadA t63 rfl rfl rfl (g_el' (hs_sl (k := 3) rfl) (by intro _; rfl) hfm (by rfl)))) (prs_cons (pri rfl (p_move rfl)) (prs_cons (pri rfl (p_nilCheck rfl)) (prs_cons (pri rfl (p_field0 fo117_0 rfl)) (prs_cons (pri rfl (p_field0 fo29_0 rfl)) (prs_cons (pri rfl (p_load1 t27 rfl rfl (g_row1 (k := 0) rfl rfl))) prs_nil))))))) rfl rfl rfl rfl rfl rfl rfl rfl rfl (fun _ _ => rfl) rfl (ms_store_all (k := 9) t63 rfl rfl rfl rfl rfl rfl) (fun _ _ => stg_end [] rfl rfl prs_nil rfl rfl rfl ?_)))) (nx_cons (nx_mem 13 [13] [] (fun b9 => []) rfl rfl rfl rfl rfl rfl rfl rfl rfl (fun _ _ => rfl) rfl (ms_alloc t63 rfl) (fun b9 _ => stg_mem [0, 1, 2, 3, 4, 5, 6, 7, 8, 9] 10 [13, 10, 9, 8, 7, 6, 5] [11, 12] (fun _ => [(11, 28, _), (12, 29, _)]) rfl rfl (prs_cons (pri rfl (p_move rfl)) (prs_cons (pri rfl (p_nilCheck rfl)) (prs_cons (pri rfl (p_field0 fo117_0 rfl)) (prs_cons (pri rfl (p_field0 fo29_0 rfl)) (prs_cons (pri rfl (p_load1 t27 rfl rfl (g_row1 (k := 0) rfl rfl))) (prs_cons (pri rfl (p_move rfl)) (prs_cons (pri rfl (p_nilCheck rfl)) (prs_cons (pri rfl (p_field0 fo117_0 rfl)) (prs_cons (pri rfl (p_loadA t29 rfl rfl rfl (g_row (us := [sv e.vp]) (k := 0) rfl rfl))) (prs_cons (pri rfl (p_move rfl)) prs_nil)))))))))) rfl rfl rfl rfl rfl rfl rfl rfl rfl rfl rfl (fun _ _ => rfl) rfl (ms_callN (xs := [.tmp 25, .tmp 26]) (find9_spec nm e.vp e.fs hfl) cb37 [] [(false, 3)] [] rfl rfl rfl rfl rfl rfl rfl rfl (fun _ _ => rfl) (fun _ _ _ => rfl)) (fun _ _ => stg_mem0 [11, 12, 0, 1, 2, 3, 4] 14 [14, 13, 12, 11, 10, 9, 8, 7, 6, 5, 4, 3, 2, 1, 0] [] (fun _ => []) rfl rfl (prs_cons (pri rfl (p_idx_sl (j := m) Tryz.underlying27 t63 rfl rfl (hs_sl (k := 3) rfl) hfx hml)) (prs_cons (pri rfl (p_loadA t63 rfl rfl rfl (g_el' (hs_sl (k := 3) rfl) (by intro _; rfl) hfm (by rfl)))) (prs_cons (pri rfl (p_move rfl)) (prs_cons (pri rfl (p_nilCheck rfl)) (prs_cons (pri rfl (p_field0 fo117_0 rfl)) (prs_cons (pri rfl (p_field0 fo29_0 rfl)) (prs_cons (pri rfl (p_load1 t27 rfl rfl (g_row1 (k := 0) rfl rfl))) prs_nil))))))) rfl rfl rfl rfl rfl rfl rfl rfl rfl (fun _ _ => rfl) rfl (ms_store_all (k := 9) t63 rfl rfl rfl rfl rfl rfl) (fun _ _ => stg_end [] rfl rfl prs_nil rfl rfl rfl ?_)))) nx_nil)))
   ·refine r_here b9 trivial rfl rfl rfl
   ·refine r_here b9 trivial rfl rfl rfl
  ·refine r_seq (r_region (r_p (p_move rfl) rfl ?_))
   refine r_p (p_build (parts := [(2, .tmp 30)]) t139 pl139 rfl rfl) rfl ?_
   refine r_boxA rfl rfl fun b32 => ?_
   refine r_p (p_assign rfl) rfl (r_nil (r_seq (r_seq (r_region (r_p (p_assign rfl) rfl (r_nil (r_block ?_)))))))
   refine r_nilown 33 (α := ByteArray) (S := 9) (s := 1) (enc := eS) ?_
   refine r_nilown 34 (α := Int) (S := 36) (s := 1) (enc := eU) ?_
   refine r_loop (X := Yf) (fun z => z.i ≤ al.length ∧ FrEq z.fr (vbind [] (f.ps.take z.i) (al.take z.i)) ∧ z.fr.length ≤ z.i) (fun z => [(0, .pointer (some ⟨e.m, 0, none⟩)), (2, sv va), (3, .int .i64 ((d : Int) + 1)), (9, .pointer (some ⟨b9, 0, none⟩)), (10, .pointer (some ⟨b32, 0, none⟩)), (11, .int .i64 (z.i : Int))]) (fun z => [(0, row e.m 117 (xRow e (xS e s vo))), (1, own 36 1 eU (sv vo) s.out), (9, row b9 63 (eTf f)), (32, row b32 139 (fC z.vN z.vV ((d : Int) + 1) false 0)), (33, own 9 1 eS (sv z.vN) (nmF z.fr)), (34, own 36 1 eU (sv z.vV) (vlF z.fr))]) (fun z => [(0, sl 1 eU (sv va) al), (1, tfsA e.vp e.fs), (2, sl 1 eU (sv e.vin) e.ins), (3, sl 3 eTf (sv e.vp) e.fs), (4, tfA f), (5, sl 1 eS (sv f.vp) f.ps), (6, tysA f.vb f.body)]) (fun z => al.length - z.i) ⟨0, [], nilS, nilS⟩ ⟨Nat.zero_le _, fun _ => rfl, Nat.le_refl _⟩ rfl rfl rfl (fun z hz0 => ?_)
   obtain ⟨i, fr, vN, vV⟩ := z
   obtain ⟨n1, n2, n3⟩ := hz0
   dsimp only at n1 n2 n3 ⊢
   refine r_seq (r_seq (r_region (r_p (p_move rfl) rfl (r_p (p_move rfl) rfl ?_))))
   refine r_p (p_len_sl Tryz.underlying23 rfl (hs_sl (k := 0) rfl)) rfl ?_
   refine r_p (p_bin rfl rfl b_lt) rfl ?_
   refine r_nil ?_
   refine r_cond rfl (fun h2 => ?_) (fun h2 => ?_)
   ·(try simp only [decide_eq_true_eq, decide_eq_false_iff_not, Bool.and_eq_true, Bool.or_eq_true, Bool.and_eq_false_iff, Bool.or_eq_false_iff, Bool.not_eq_true, Bool.not_eq_false, Bool.not_eq_true', Bool.not_eq_false', Bool.not_not, bne_iff_ne, beq_iff_eq] at h2)
    have hi : i < al.length := by omega
    obtain ⟨a, ha⟩ : ∃ a, al[i]? = some a := ⟨_, List.getElem?_eq_getElem hi⟩
    obtain ⟨p, hp⟩ : ∃ p, f.ps[i]? = some p := ⟨_, List.getElem?_eq_getElem (by omega)⟩
    refine r_skip (r_seq (r_block ?_))
    refine r_draw [39, 40, 41, 42, 43, 44, 45, 46, 47, 48, 49] _ rfl (stg_mem (V := [(0, 39, _), (1, 40, _), (2, 41, _), (3, 42, _), (4, 43, _), (5, 44, _), (6, 45, _), (7, 46, _), (8, 47, _), (9, 48, _)]) [0, 1, 2, 3, 4, 5, 6, 7, 8, 9] 10 [10, 9, 8, 7, 6, 5, 4, 3, 2, 1, 0] [] (fun y => []) rfl rfl (prs_cons (pri rfl (p_move rfl)) (prs_cons (pri rfl (p_field0 fo63_1 rfl)) (prs_cons (pri rfl (p_load1 t58 rfl rfl (g_row1 (k := 9) rfl rfl))) (prs_cons (pri rfl (p_move rfl)) (prs_cons (pri rfl (p_idx_sl (j := i) Tryz.underlying58 t9 rfl rfl (hs_sl (k := 5) rfl) (by first | rfl | omega) (by first | omega | (simp; done) | (simp; omega)))) (prs_cons (pri rfl (p_load1 t9 rfl rfl (g_el' (hs_sl (k := 5) rfl) (by intro _; rfl) hp (by rfl)))) (prs_cons (pri rfl (p_move rfl)) (prs_cons (pri rfl (p_move rfl)) (prs_cons (pri rfl (p_idx_sl (j := i) Tryz.underlying23 t36 rfl rfl (hs_sl (k := 0) rfl) (by first | rfl | omega) (by first | omega | (simp; done) | (simp; omega)))) (prs_cons (pri rfl (p_load1 t36 rfl rfl (g_el' (hs_sl (k := 0) rfl) (by intro _; rfl) ha (by rfl)))) prs_nil)))))))))) rfl rfl rfl rfl rfl rfl rfl rfl rfl rfl rfl (fun _ _ => rfl) rfl (ms_callN (xs := [.tmp 39, .tmp 44, .tmp 48]) (set8_spec b32 vN vV ((d : Int) + 1) false 0 fr (by omega) p a) cb84 [32, 33, 34] [] [32, 33, 34] rfl rfl rfl rfl rfl rfl rfl rfl (fun _ _ => rfl) (fun _ _ _ => rfl)) (fun y _ => stg_end [] rfl rfl prs_nil rfl rfl rfl ?_))
    refine r_region (r_p (p_move rfl) rfl ?_)
    refine r_p (p_bin rfl rfl (b_add (by first | exact w_i64 (by omega) (by omega) | rfl))) rfl ?_
    refine r_p (p_assign rfl) rfl (r_nil ?_)
    refine r_here ⟨i + 1, fput fr p a, y.1, y.2⟩ ⟨⟨by dsimp only; omega, by dsimp only; rw [vbind_take _ _ _ _ _ _ hp ha]; exact n2.put p a, by dsimp only; have := fput_len fr p a; omega⟩, by dsimp only; omega⟩ rfl rfl rfl
   ·(try simp only [decide_eq_true_eq, decide_eq_false_iff_not, Bool.and_eq_true, Bool.or_eq_true, Bool.and_eq_false_iff, Bool.or_eq_false_iff, Bool.not_eq_true, Bool.not_eq_false, Bool.not_eq_true', Bool.not_eq_false', Bool.not_not, bne_iff_ne, beq_iff_eq] at h2)
    have hi : i = al.length := by omega
    subst hi
    rw [List.take_length, vbind_len] at n2
    have hk2 : RkB e fr (vbind [] f.ps al) s := ⟨hs, okVs.bind _ _ (fun p hp => by simp at hp) hao, n2, by omega⟩
    refine r_exit (r_seq (r_region (r_p (p_move rfl) rfl (r_p (p_move rfl) rfl ?_))))
    refine r_p (p_field0 fo63_2 rfl) rfl ?_
    refine r_p (p_load1 t51 rfl rfl (g_row1 (k := 9) rfl rfl)) rfl ?_
    refine r_callN (xs := [.tmp 50, .tmp 51, .tmp 53]) (ihB f.body f.vb (d + 1) b32 vN vV fr (vbind [] f.ps al) s vo rb hF3 hF2 (by omega) hk2 hb) cb85 [0, 1, 32, 33, 34] [(false, 6), (false, 1), (false, 2)] [0, 1, 32, 33, 34] rfl rfl rfl rfl rfl rfl rfl rfl (fun _ _ => rfl) (fun _ _ _ => rfl) rfl (fun y hy => ?_)
    refine r_nil (r_seq (r_region (r_p (p_move rfl) rfl (r_p (p_nilCheck rfl) rfl ?_))))
    refine r_p (p_field0 fo139_4 rfl) rfl ?_
    refine r_p (p_load1 t36 rfl rfl (g_row1 (k := 32) rfl rfl)) rfl ?_
    refine r_p (p_assign rfl) rfl (r_nil (r_cret ?_))
    have hfin : FitX e r (y.val, y.x) := by
     rcases hy with ⟨vs1, ro, s1, vo1, z1, z2, z3, z4, z5, z6⟩ | ⟨z1, z2⟩
     ·rw [z1] at hr
      refine .inl ⟨s1, vo1, ?_, z2⟩
      rw [← Option.some.inj hr, z6]
     ·rw [z2] at hr
      exact .inr ⟨z1, (Option.some.inj hr).symm⟩
    refine r_ret (y.val, y.x) hfin rfl (rs1 (rv_tmp rfl)) rfl [0, 1] [] rfl rfl rfl
set_option maxHeartbeats 16000000 in
set_option maxRecDepth 100000 in
theorem b8_step (e : Rn) (g : Nat) (hF : VF e.fs) (ihS : ∀ k, k ≤ g → HS8 e k) (l : List Ty) (v : SV) (d b : Nat) (vN vV : SV) (fr vs : Vs) (s : Ms) (vo : SV) (r : Re (Vs × Option Int)) (hl : VYs e.fs l) (hll : l.length ≤ 1000000) (hd : d ≤ 12) (hk : RkB e fr vs s) (hr : evB (g + 1) e.fs d vs l s = some r) :
  Spec Tryz.prog 85 [.pointer (some ⟨e.m, 0, none⟩), .pointer (some ⟨b, 0, none⟩), sv v] (LB e b d ⟨fr, vN, vV, false, 0, xS e s vo⟩) ([tysA v l, tfsA e.vp e.fs, sl 1 eU (sv e.vin) e.ins]) (X := Sb) (FitB e r) (fun _ => .tuple #[]) (fun y => LB e b d y) (fun _ => []) := by
 refine r_enter Tryz.func85 rfl Tryz.ntmps85 rfl fun w0 M H => ?_
 refine r_more 0 7 rfl tys_sl ?_
 refine r_seq (r_region (r_p (p_assign rfl) rfl (r_nil (r_block ?_))))
 refine r_loop (X := Yb) (fun z => z.i ≤ l.length ∧ z.g ≤ g + 1 ∧ BIn e z.g d (l.drop z.i) z.y r) (fun z => [(0, .pointer (some ⟨e.m, 0, none⟩)), (1, .pointer (some ⟨b, 0, none⟩)), (2, sv v), (6, .int .i64 (z.i : Int))]) (fun z => [(0, row e.m 117 (xRow e z.y.x)), (1, own 36 1 eU (sv z.y.x.vo) z.y.x.out), (2, row b 139 (fC z.y.vN z.y.vV (d : Int) z.y.done z.y.val)), (3, own 9 1 eS (sv z.y.vN) (nmF z.y.fr)), (4, own 36 1 eU (sv z.y.vV) (vlF z.y.fr))]) (fun z => [(0, tysA v l), (1, tfsA e.vp e.fs), (2, sl 1 eU (sv e.vin) e.ins), (7, sl 5 eTy (sv v) l)]) (fun z => l.length - z.i) ⟨0, g + 1, ⟨fr, vN, vV, false, 0, xS e s vo⟩⟩ ⟨Nat.zero_le _, Nat.le_refl _, .inl ⟨vs, s, vo, rfl, hk, rfl, rfl, hr⟩⟩ rfl rfl rfl (fun z hz0 => ?_)
 obtain ⟨i, gz, y⟩ := z
 obtain ⟨n1, n2, n3⟩ := hz0
 dsimp only at n1 n2 n3 ⊢
 refine r_seq (r_seq (r_region (r_p (p_move rfl) rfl (r_p (p_move rfl) rfl ?_))))
 refine r_p (p_len_sl Tryz.underlying51 rfl (hs_sl (k := 7) rfl)) rfl ?_
 refine r_p (p_bin rfl rfl b_lt) rfl ?_
 refine r_p (p_move rfl) rfl ?_
 refine r_gp [] rfl rfl trivial (fun hg1 => p_move rfl) rfl ?_
 refine r_gp [(12, _)] rfl rfl ⟨rfl, trivial⟩ (fun hg2 => p_nilCheck rfl) rfl ?_
 refine r_gp [(12, _), (13, _)] rfl rfl ⟨rfl, rfl, trivial⟩ (fun hg3 => p_field0 fo117_6 rfl) rfl ?_
 refine r_gp [(12, _), (13, _), (14, _)] rfl rfl ⟨rfl, rfl, rfl, trivial⟩ (fun hg4 => p_load1 t40 rfl rfl (g_row1 (k := 0) rfl xC_er)) rfl ?_
 refine r_gp [(12, _), (13, _), (14, _), (15, _)] rfl rfl ⟨rfl, rfl, rfl, rfl, trivial⟩ (fun hg5 => p_bin rfl rfl b_eq) rfl ?_
 refine r_p (p_pick rfl rfl rfl (by first | exact pick_and | exact pick_or |  rfl)) rfl ?_
 refine r_p (p_move rfl) rfl ?_
 refine r_gp [] rfl rfl trivial (fun hg6 => p_move rfl) rfl ?_
 refine r_gp [(19, _)] rfl rfl ⟨rfl, trivial⟩ (fun hg7 => p_nilCheck rfl) rfl ?_
 refine r_gp [(19, _), (20, _)] rfl rfl ⟨rfl, rfl, trivial⟩ (fun hg8 => p_field0 fo139_3 rfl) rfl ?_
 refine r_gp [(19, _), (20, _), (21, _)] rfl rfl ⟨rfl, rfl, rfl, trivial⟩ (fun hg9 => p_load1 t4 rfl rfl (g_row1 (k := 2) rfl rfl)) rfl ?_
 refine r_gp [(19, _), (20, _), (21, _), (22, _)] rfl rfl ⟨rfl, rfl, rfl, rfl, trivial⟩ (fun hg10 => p_not rfl) rfl ?_
 refine r_p (p_pick rfl rfl rfl (by first | exact pick_and | exact pick_or |  rfl)) rfl ?_
 refine r_nil ?_
 refine r_cond rfl (fun h11 => ?_) (fun h11 => ?_)
 ·(try simp only [decide_eq_true_eq, decide_eq_false_iff_not, Bool.and_eq_true, Bool.or_eq_true, Bool.and_eq_false_iff, Bool.or_eq_false_iff, Bool.not_eq_true, Bool.not_eq_false, Bool.not_eq_true', Bool.not_eq_false', Bool.not_not, bne_iff_ne, beq_iff_eq] at h11)
  obtain ⟨fr1, vN1, vV1, dn, val, x1⟩ := y
  obtain ⟨⟨hi0, he0⟩, hd0⟩ := h11
  have hi : i < l.length := by omega
  obtain ⟨st, hst⟩ : ∃ k, l[i]? = some k := ⟨_, List.getElem?_eq_getElem hi⟩
  have hm := List.mem_of_getElem? hst
  have hvy := hl.mem st hm
  rw [drop_kid hst] at n3
  obtain ⟨g2, q, vs1, sx, vox, rfl, hx1, hk1, hval, hx, hstep⟩ := n3.step hF hvy hd0 he0
  dsimp only at hx1 hk1 hval hd0
  subst hx1 hval hd0
  refine r_skip (r_seq (r_block (r_region (r_p (p_move rfl) rfl (r_p (p_move rfl) rfl (r_p (p_move rfl) rfl (r_p (p_move rfl) rfl ?_)))))))
  refine r_p (p_idx_sl (j := i) Tryz.underlying51 t53 rfl rfl (hs_sl (k := 7) rfl) (by first | rfl | omega) (by first | omega | (simp; done) | (simp; omega))) rfl ?_
  refine r_p (p_loadA t53 rfl rfl rfl (g_el' (hs_sl (k := 7) rfl) (by intro _; rfl) hst (by rfl))) rfl ?_
  refine r_more 0 20 rfl (tys_es hm) ?_
  refine r_more 0 21 rfl (tys_body hm) ?_
  refine r_more 0 22 rfl (tys_els hm) ?_
  refine r_callN (xs := [.tmp 27, .tmp 28, .tmp 32]) (ihS g2 (by omega) st d b vN1 vV1 fr1 vs1 sx vox q hvy hd hk1 hx) cb104 [0, 1, 2, 3, 4] [(false, 20), (false, 21), (false, 22), (false, 1), (false, 2)] [0, 1, 2, 3, 4] rfl rfl rfl rfl rfl rfl rfl rfl (fun _ _ => rfl) (fun _ _ _ => rfl) rfl (fun y hy => ?_)
  refine r_nil (r_region (r_p (p_move rfl) rfl ?_))
  refine r_p (p_bin rfl rfl (b_add (by first | exact w_i64 (by omega) (by omega) | rfl))) rfl ?_
  refine r_p (p_assign rfl) rfl (r_nil ?_)
  refine r_here ⟨i + 1, g2, y⟩ ⟨⟨by dsimp only; omega, by dsimp only; omega, hstep y hy⟩, by dsimp only; omega⟩ rfl rfl rfl
 ·(try simp only [decide_eq_true_eq, decide_eq_false_iff_not, Bool.and_eq_true, Bool.or_eq_true, Bool.and_eq_false_iff, Bool.or_eq_false_iff, Bool.not_eq_true, Bool.not_eq_false, Bool.not_eq_true', Bool.not_eq_false', Bool.not_not, bne_iff_ne, beq_iff_eq] at h11)
  have hfin : FitB e r y := by
   rcases h11 with (h | h) | h
   ·have hi : i = l.length := by omega
    rw [List.drop_of_length_le (by omega)] at n3
    exact n3.done
   ·exact n3.stop (.inr h)
   ·exact n3.stop (.inl h)
  refine r_exit ?_
  refine r_end y hfin rfl rs0 rfl [0, 1, 2, 3, 4] [] rfl rfl rfl
def WIn (e : Rn) (g d : Nat) (t : Tx) (l : List Ty) (v : Int) (y : Sb) (r : Re (Vs × Option Int)) : Prop := (∃ vs s vo, y.x = xS e s vo ∧ RkB e y.fr vs s ∧ y.done = false ∧ y.val = 0 ∧ evW g e.fs d vs t l v s = some r) ∨ ((y.done = true ∨ y.x.er ≠ 0) ∧ FitB e r y)
def WMid (e : Rn) (g d : Nat) (t : Tx) (l : List Ty) (y : Sb) (r : Re (Vs × Option Int)) : Prop := (∃ vs s vo rx, y.x = xS e s vo ∧ RkB e y.fr vs s ∧ y.done = false ∧ y.val = 0 ∧ evX g e.fs d vs t s = some rx ∧ ∀ w, FitX e rx w → WIn e g d t l w.1 { y with x := w.2 } r) ∨ ((y.done = true ∨ y.x.er ≠ 0) ∧ FitB e r y)
theorem WIn.out {e : Rn} {g d : Nat} {t : Tx} {l : List Ty} {v : Int} {y : Sb} {r : Re (Vs × Option Int)} (h : WIn e g d t l v y r) (hv : v = 0) : FitB e r y := by
 rcases h with ⟨vs, s, vo, h1, h2, h3, h4, h5⟩ | h
 ·exact .inl ⟨vs, none, s, vo, evW_out h5 hv, h1, h2.f, h2.n, h3, h4⟩
 ·exact h.2
theorem WIn.stop {e : Rn} {g d : Nat} {t : Tx} {l : List Ty} {v : Int} {y : Sb} {r : Re (Vs × Option Int)} (h : WIn e g d t l v y r) (hs : y.done = true ∨ y.x.er ≠ 0) : FitB e r y := by
 rcases h with ⟨vs, s, vo, h1, h2, h3, h4, h5⟩ | h
 ·rcases hs with hs | hs
  ·rw [h3] at hs; cases hs
  ·rw [h1] at hs; exact absurd rfl hs
 ·exact h.2
theorem WIn.step {e : Rn} {g d : Nat} {t : Tx} {l : List Ty} {v : Int} {y : Sb} {r : Re (Vs × Option Int)} (hF : VF e.fs) (ht : VX e.fs t) (hl : VYs e.fs l) (h : WIn e g d t l v y r) (hv : ¬ v = 0) (hd : y.done = false) (he : y.x.er = 0) :
  ∃ g2 q vs s vo, g = g2 + 1 ∧ y.x = xS e s vo ∧ RkB e y.fr vs s ∧ y.val = 0 ∧ evB g2 e.fs d vs l s = some q ∧ ∀ z, FitB e q z → WMid e g2 d t l z r := by
 rcases h with ⟨vs, s, vo, h1, h2, h3, h4, h5⟩ | ⟨h, _⟩
 ·obtain ⟨g2, q, hg, hx, hre, hrs, hrn⟩ := evW_in h5 hv
  refine ⟨g2, q, vs, s, vo, hg, h1, h2, h4, hx, fun z hz => ?_⟩
  rcases hz with ⟨vs1, ro, s1, vo1, z1, z2, z3, z4, z5, z6⟩ | ⟨z1, z2⟩
  ·rw [z1] at hx
   obtain ⟨k1, k2, k3⟩ := (ev_ok hF g2).b d vs l s _ s1 hl h2.v h2.k.ok hx
   have k4 : RkB e z.fr vs1 s1 := ⟨h2.k.kp k3, k1, z3, z4⟩
   cases ro with
   | none =>
    obtain ⟨rx, r1, r2, r3⟩ := hrn vs1 s1 z1
    refine .inl ⟨vs1, s1, vo1, rx, z2, k4, z5, z6, r1, fun w hw => ?_⟩
    rcases hw with ⟨s2, vo2, w1, w2⟩ | ⟨w1, w2⟩
    ·rw [w1] at r1
     obtain ⟨x1, x2⟩ := (ev_ok hF g2).x d vs1 t s1 w.1 s2 ht k1 k4.k.ok r1
     refine .inl ⟨vs1, s2, vo2, w2, ⟨k4.k.kp x2, k1, z3, ?_⟩, z5, z6, r3 w.1 s2 w1⟩
     have h8 := x2.fl
     show (z.fr.length : Int) + _ ≤ _
     omega
    ·exact .inr ⟨.inr w1, .inr ⟨w1, r2 _ w2⟩⟩
   | some x => exact .inr ⟨.inl z5, .inl ⟨vs1, some x, s1, vo1, hrs vs1 x s1 z1, z2, z3, z4, z5, z6⟩⟩
  ·exact .inr ⟨.inr z1, .inr ⟨z1, hre _ z2⟩⟩
 ·rcases h with h | h
  ·rw [hd] at h; cases h
  ·exact absurd he h
theorem WMid.go {e : Rn} {g d : Nat} {t : Tx} {l : List Ty} {y : Sb} {r : Re (Vs × Option Int)} (h : WMid e g d t l y r) (hd : y.done = false) (he : y.x.er = 0) : ∃ vs s vo rx, y.x = xS e s vo ∧ RkB e y.fr vs s ∧ y.val = 0 ∧ evX g e.fs d vs t s = some rx ∧ ∀ w, FitX e rx w → WIn e g d t l w.1 { y with x := w.2 } r := by
 rcases h with ⟨vs, s, vo, rx, h1, h2, h3, h4, h5, h6⟩ | ⟨h, _⟩
 ·exact ⟨vs, s, vo, rx, h1, h2, h4, h5, h6⟩
 ·rcases h with h | h
  ·rw [hd] at h; cases h
  ·exact absurd he h
theorem WMid.stop {e : Rn} {g d : Nat} {t : Tx} {l : List Ty} {y : Sb} {r : Re (Vs × Option Int)} (h : WMid e g d t l y r) (hs : y.done = true ∨ y.x.er ≠ 0) (v : Int) : WIn e g d t l v y r := by
 rcases h with ⟨vs, s, vo, rx, h1, h2, h3, h4, h5, h6⟩ | h
 ·rcases hs with hs | hs
  ·rw [h3] at hs; cases hs
  ·rw [h1] at hs; exact absurd rfl hs
 ·exact .inr h
/-- The state of a while loop. -/
structure Yw where
 g : Nat
 v : Int
 y : Sb
set_option maxHeartbeats 16000000 in
set_option maxRecDepth 100000 in
theorem s8_no (e : Rn) (g : Nat) (hF : VF e.fs) (hfu1 : -1000000000000000000 ≤ e.fu) (hfu2 : e.fu ≤ 1000000000000000000) (ihX : ∀ k, k ≤ g → HX8 e k) (ihB : ∀ k, k ≤ g → HB8 e k) (t : Ty) (d b : Nat) (vN vV : SV) (fr vs : Vs) (s : Ms) (vo : SV) (r : Re (Vs × Option Int)) (ht : VY e.fs t) (hd : d ≤ 12) (hk : RkB e fr vs s) (hr : evS (g + 1) e.fs d vs t s = some r) (hfu : s.fuel ≤ 0) :
  Spec Tryz.prog 104 [.pointer (some ⟨e.m, 0, none⟩), .pointer (some ⟨b, 0, none⟩), yV t] (LB e b d ⟨fr, vN, vV, false, 0, xS e s vo⟩) ([txsA t.ve t.es, tysA t.vb t.body, tysA t.vl t.els, tfsA e.vp e.fs, sl 1 eU (sv e.vin) e.ins]) (X := Sb) (FitB e r) (fun _ => .tuple #[]) (fun y => LB e b d y) (fun _ => []) := by
 refine r_enter Tryz.func104 rfl Tryz.ntmps104 rfl fun w0 M H => ?_
 unfold evS at hr
 rw [if_pos hfu] at hr
 refine r_seq (r_region ?_)
 refine r_boxA rfl rfl fun b5 => ?_
 refine r_nil (r_seq (r_region (r_p (p_move rfl) rfl ?_)))
 refine r_callN (xs := [.tmp 9]) (pay8_no e.m e.vp (itv e.vin (e.ins.length - s.inp.length)) vo s.mem e.fu (e.fu - s.fuel) (by omega)) cb121 [0] [] [0] rfl rfl rfl rfl rfl rfl rfl rfl (fun _ _ => rfl) (fun _ _ _ => rfl) rfl (fun _ _ => ?_)
 refine r_p (p_assign rfl) rfl (r_nil (r_seq (r_seq (r_region (r_p (p_move rfl) rfl ?_)))))
 refine r_p (p_not rfl) rfl ?_
 refine r_nil ?_
 refine r_cond rfl (fun h1 => ?_) (fun h1 => ?_)
 ·(try simp only [decide_eq_true_eq, decide_eq_false_iff_not, Bool.and_eq_true, Bool.or_eq_true, Bool.and_eq_false_iff, Bool.or_eq_false_iff, Bool.not_eq_true, Bool.not_eq_false, Bool.not_eq_true', Bool.not_eq_false', Bool.not_not, bne_iff_ne, beq_iff_eq] at h1)
  refine r_cret ?_
  refine r_ret ⟨fr, vN, vV, false, 0, { xS e s vo with er := 25 }⟩ (.inr ⟨by show (25 : Int) ≠ 0; decide, (Option.some.inj hr).symm⟩) rfl rs0 rfl [0, 1, 2, 3, 4] [] rfl rfl rfl
 ·exact absurd h1 (by simp)
set_option maxHeartbeats 16000000 in
set_option maxRecDepth 100000 in
theorem s8_ok (e : Rn) (g : Nat) (hF : VF e.fs) (hfu1 : -1000000000000000000 ≤ e.fu) (hfu2 : e.fu ≤ 1000000000000000000) (ihX : ∀ k, k ≤ g → HX8 e k) (ihB : ∀ k, k ≤ g → HB8 e k) (t : Ty) (d b : Nat) (vN vV : SV) (fr vs : Vs) (s : Ms) (vo : SV) (r : Re (Vs × Option Int)) (ht : VY e.fs t) (hd : d ≤ 12) (hk : RkB e fr vs s) (hr : evS (g + 1) e.fs d vs t s = some r) (hfu : ¬ s.fuel ≤ 0) :
  Spec Tryz.prog 104 [.pointer (some ⟨e.m, 0, none⟩), .pointer (some ⟨b, 0, none⟩), yV t] (LB e b d ⟨fr, vN, vV, false, 0, xS e s vo⟩) ([txsA t.ve t.es, tysA t.vb t.body, tysA t.vl t.els, tfsA e.vp e.fs, sl 1 eU (sv e.vin) e.ins]) (X := Sb) (FitB e r) (fun _ => .tuple #[]) (fun y => LB e b d y) (fun _ => []) := by
 refine r_enter Tryz.func104 rfl Tryz.ntmps104 rfl fun w0 M H => ?_
 unfold evS at hr
 rw [if_neg hfu] at hr
 obtain ⟨s1, hs1⟩ : ∃ s1 : Ms, ({ s with fuel := s.fuel - 1 } : Ms) = s1 := ⟨_, rfl⟩
 have hp := Kp.pay hk.k.ok hfu
 have hmR : xC e.vp (itv e.vin (e.ins.length - s.inp.length)) vo s.mem e.fu (e.fu - s.fuel + 1) 0 = xRow e (xS e s1 vo) := by
  rw [← hs1]
  unfold xRow xS
  dsimp only
  congr 1
  omega
 have hso : s.out = s1.out := by rw [← hs1]
 have hsf : (s1.out.length : Int) + max s1.fuel 0 + 1 ≤ 1000000000000 := by
  have := hk.k.ok.out
  rw [← hs1]
  dsimp only
  omega
 have hfub := hk.k.ok.out
 have hfrn := hk.n
 have hs1f : s1.fuel = s.fuel - 1 := by rw [← hs1]
 rw [hs1] at hr hp
 have h51 := hk.k.kp hp
 obtain ⟨ve1, ve2, ve3, ve4⟩ := VY_es ht
 obtain ⟨e1, er, hes⟩ : ∃ a b, t.es = a :: b := by
  cases h : t.es with
  | nil => rw [h] at ve1; simp at ve1
  | cons a b => exact ⟨a, b, rfl⟩
 rw [hes] at hr
 dsimp only at hr
 obtain ⟨rx, hx⟩ : ∃ rx, evX g e.fs d vs e1 s1 = some rx := by
  cases h : evX g e.fs d vs e1 s1 with
  | none => rw [h] at hr; simp at hr
  | some q => exact ⟨q, rfl⟩
 rw [hx] at hr
 have hm1 : e1 ∈ t.es := by rw [hes]; simp
 have hes0 : t.es[0]? = some e1 := by rw [hes]; rfl
 have hv1 := ve4.mem e1 hm1
 refine r_more 0 20 rfl txs_sl ?_
 refine r_more 0 21 rfl (txs_kid hm1) ?_
 refine r_seq (r_region ?_)
 refine r_boxA rfl rfl fun b5 => ?_
 refine r_nil (r_seq (r_region (r_p (p_move rfl) rfl ?_)))
 refine r_callN (xs := [.tmp 9]) (pay8_ok e.m e.vp (itv e.vin (e.ins.length - s.inp.length)) vo s.mem e.fu (e.fu - s.fuel) (by omega) ⟨by omega, by omega⟩) cb121 [0] [] [0] rfl rfl rfl rfl rfl rfl rfl rfl (fun _ _ => rfl) (fun _ _ _ => rfl) rfl (fun _ _ => ?_)
 rw [hmR]
 refine r_conva (k := 1) (A' := own 36 1 eU (sv vo) s1.out) rfl (fun _ _ h => by rw [← hso]; exact h) ?_
 refine r_p (p_assign rfl) rfl (r_nil (r_seq (r_seq (r_region (r_p (p_move rfl) rfl ?_)))))
 refine r_p (p_not rfl) rfl ?_
 refine r_nil ?_
 refine r_cond rfl (fun h1 => ?_) (fun h1 => ?_)
 ·exact absurd h1 (by simp)
 ·(try simp only [decide_eq_true_eq, decide_eq_false_iff_not, Bool.and_eq_true, Bool.or_eq_true, Bool.and_eq_false_iff, Bool.or_eq_false_iff, Bool.not_eq_true, Bool.not_eq_false, Bool.not_eq_true', Bool.not_eq_false', Bool.not_not, bne_iff_ne, beq_iff_eq] at h1)
  refine r_skip (r_seq (r_region (r_p (p_move rfl) rfl (r_p (p_move rfl) rfl ?_))))
  refine r_p (p_field0 fo53_2 rfl) rfl ?_
  refine r_p (p_load1 t46 rfl rfl (g_row1 (k := 5) rfl rfl)) rfl ?_
  refine r_p (p_idx_sl (j := 0) Tryz.underlying46 t48 rfl rfl (hs_sl (k := 20) rfl) rfl (by omega)) rfl ?_
  refine r_p (p_loadA t48 rfl rfl rfl (g_el' (hs_sl (k := 20) rfl) (by intro _; rfl) hes0 (by rfl))) rfl ?_
  refine r_callN (xs := [.tmp 13, .tmp 14, .tmp 18]) (ihX g (Nat.le_refl g) e1 d b vN vV fr vs (xS e s1 vo) rx hv1 hd hk.v hk.f (by omega) (.inl ⟨s1, vo, rfl, h51, hx⟩)) cb122 [0, 1] [(true, 2), (true, 3), (true, 4), (false, 21), (false, 3), (false, 4)] [0, 1] rfl rfl rfl rfl rfl rfl rfl rfl (fun _ _ => rfl) (fun _ _ _ => rfl) rfl (fun y1 hy1 => ?_)
  obtain ⟨v, x1⟩ := y1
  dsimp only at hy1 ⊢
  refine r_p (p_assign rfl) rfl (r_nil (r_seq (r_seq (r_region (r_p (p_move rfl) rfl (r_p (p_nilCheck rfl) rfl ?_))))))
  refine r_p (p_field0 fo117_6 rfl) rfl ?_
  refine r_p (p_load1 t40 rfl rfl (g_row1 (k := 0) rfl xC_er)) rfl ?_
  refine r_p (p_bin rfl rfl b_ne) rfl ?_
  refine r_nil ?_
  refine r_cond rfl (fun h2 => ?_) (fun h2 => ?_)
  ·have q2e : x1.er ≠ 0 := by simpa using h2
   have hz : rx = .err x1.er := by
    rcases hy1 with ⟨s2, vo2, z1, z2⟩ | ⟨z1, z2⟩
    ·dsimp only at z2
     rw [z2] at q2e
     exact absurd rfl q2e
    ·exact z2
   subst hz
   refine r_cret ?_
   refine r_ret (⟨fr, vN, vV, false, 0, x1⟩) (.inr ⟨q2e, (Option.some.inj hr).symm⟩) rfl rs0 rfl [0, 1, 2, 3, 4] [] rfl rfl rfl
  ·have q2e : x1.er = 0 := by simpa using h2
   obtain ⟨s2, vo2, hz, hx1⟩ : ∃ s2 vo2, rx = .ok v s2 ∧ x1 = xS e s2 vo2 := by
    rcases hy1 with h | ⟨z1, z2⟩
    ·exact h
    ·exact absurd q2e z1
   subst hz hx1
   dsimp only at hr
   obtain ⟨hw1, hw2⟩ := (ev_ok hF g).x d vs e1 s1 v s2 hv1 hk.v h51.ok hx
   have hk2 := h51.kp hw2
   have hsum := hw2.sum
   have hfl2 := hw2.fl
   have hkb2 : RkB e fr vs s2 := ⟨hk2, hk.v, hk.f, by omega⟩
   refine r_skip (r_seq (r_region ?_))
   refine r_p (p_field0 fo53_0 rfl) rfl ?_
   refine r_p (p_load1 t3 rfl rfl (g_row1 (k := 5) rfl rfl)) rfl ?_
   refine r_nil (r_block (r_seq (r_seq (r_region ?_))))
   refine r_p (p_bin rfl rfl b_eq) rfl ?_
   refine r_p (p_assign rfl) rfl (r_nil ?_)
   refine r_cond rfl (fun h3 => ?_) (fun h3 => ?_)
   ·have q1 : t.kind = 1 := of_decide_eq_true h3
    rw [if_pos (.inl q1)] at hr
    refine r_skip ?_
    refine r_cond rfl (fun h4 => ?_) (fun h4 => ?_)
    ·(try simp only [decide_eq_true_eq, decide_eq_false_iff_not, Bool.and_eq_true, Bool.or_eq_true, Bool.and_eq_false_iff, Bool.or_eq_false_iff, Bool.not_eq_true, Bool.not_eq_false, Bool.not_eq_true', Bool.not_eq_false', Bool.not_not, bne_iff_ne, beq_iff_eq] at h4)
     refine r_region (r_p (p_move rfl) rfl ?_)
     refine r_p (p_field0 fo53_1 rfl) rfl ?_
     refine r_p (p_load1 t9 rfl rfl (g_row1 (k := 5) rfl rfl)) rfl ?_
     refine r_p (p_move rfl) rfl ?_
     refine r_callN (xs := [.tmp 30, .tmp 32, .tmp 33]) (set8_spec b vN vV (d : Int) false 0 fr (by omega) t.name v) cb84 [2, 3, 4] [] [2, 3, 4] rfl rfl rfl rfl rfl rfl rfl rfl (fun _ _ => rfl) (fun _ _ _ => rfl) rfl (fun y2 _ => ?_)
     refine r_nil ?_
     refine r_end (⟨fput fr t.name v, y2.1, y2.2, false, 0, xS e s2 vo2⟩) (.inl ⟨vput vs t.name v, none, s2, vo2, (Option.some.inj hr).symm, rfl, hk.f.put _ _, by dsimp only; have := fput_len fr t.name v; omega, rfl, rfl⟩) rfl rs0 rfl [0, 1, 2, 3, 4] [] rfl rfl rfl
    ·exact absurd (decide_eq_true q1) (by rw [h4]; simp)
   ·have q1 : ¬ t.kind = 1 := of_decide_eq_false h3
    refine r_region ?_
    refine r_p (p_bin rfl rfl b_eq) rfl ?_
    refine r_p (p_assign rfl) rfl (r_nil ?_)
    refine r_cond rfl (fun h5 => ?_) (fun h5 => ?_)
    ·have q2 : t.kind = 2 := of_decide_eq_true h5
     rw [if_pos (.inr q2)] at hr
     refine r_region (r_p (p_move rfl) rfl ?_)
     refine r_p (p_field0 fo53_1 rfl) rfl ?_
     refine r_p (p_load1 t9 rfl rfl (g_row1 (k := 5) rfl rfl)) rfl ?_
     refine r_p (p_move rfl) rfl ?_
     refine r_callN (xs := [.tmp 30, .tmp 32, .tmp 33]) (set8_spec b vN vV (d : Int) false 0 fr (by omega) t.name v) cb84 [2, 3, 4] [] [2, 3, 4] rfl rfl rfl rfl rfl rfl rfl rfl (fun _ _ => rfl) (fun _ _ _ => rfl) rfl (fun y2 _ => ?_)
     refine r_nil ?_
     refine r_end (⟨fput fr t.name v, y2.1, y2.2, false, 0, xS e s2 vo2⟩) (.inl ⟨vput vs t.name v, none, s2, vo2, (Option.some.inj hr).symm, rfl, hk.f.put _ _, by dsimp only; have := fput_len fr t.name v; omega, rfl, rfl⟩) rfl rs0 rfl [0, 1, 2, 3, 4] [] rfl rfl rfl
    ·have q2 : ¬ t.kind = 2 := of_decide_eq_false h5
     rw [if_neg (fun h => h.elim q1 q2)] at hr
     refine r_seq (r_region ?_)
     refine r_p (p_bin rfl rfl b_eq) rfl ?_
     refine r_p (p_assign rfl) rfl (r_nil ?_)
     refine r_cond rfl (fun h6 => ?_) (fun h6 => ?_)
     ·have q3 : t.kind = 3 := of_decide_eq_true h6
      rw [if_pos q3] at hr
      have ve5 := ve3 q3
      obtain ⟨e2, er2, her⟩ : ∃ a b, er = a :: b := by
       cases h : er with
       | nil => rw [hes, h] at ve5; simp at ve5
       | cons a b => exact ⟨a, b, rfl⟩
      rw [her] at hr
      dsimp only at hr
      obtain ⟨ry, hy⟩ : ∃ ry, evX g e.fs d vs e2 s2 = some ry := by
       cases h : evX g e.fs d vs e2 s2 with
       | none => rw [h] at hr; simp at hr
       | some q => exact ⟨q, rfl⟩
      rw [hy] at hr
      have hm2 : e2 ∈ t.es := by rw [hes, her]; simp
      have hv2 := ve4.mem e2 hm2
      have hes2 : t.es[1]? = some e2 := by rw [hes, her]; rfl
      have hel2 : 1 < t.es.length := by rw [hes, her]; simp
      have hwm := tmod_u32 (b := 256) hw1
      refine r_more 0 22 rfl (txs_kid hm2) ?_
      refine r_seq (r_region (r_p (p_move rfl) rfl (r_p (p_move rfl) rfl ?_)))
      refine r_p (p_field0 fo53_2 rfl) rfl ?_
      refine r_p (p_load1 t46 rfl rfl (g_row1 (k := 5) rfl rfl)) rfl ?_
      refine r_p (p_idx_sl (j := 1) Tryz.underlying46 t48 rfl rfl (hs_sl (k := 20) rfl) rfl hel2) rfl ?_
      refine r_p (p_loadA t48 rfl rfl rfl (g_el' (hs_sl (k := 20) rfl) (by intro _; rfl) hes2 (by rfl))) rfl ?_
      refine r_callN (xs := [.tmp 37, .tmp 38, .tmp 42]) (ihX g (Nat.le_refl g) e2 d b vN vV fr vs (xS e s2 vo2) ry hv2 hd hk.v hk.f (by omega) (.inl ⟨s2, vo2, rfl, hk2, hy⟩)) cb122 [0, 1] [(true, 2), (true, 3), (true, 4), (false, 22), (false, 3), (false, 4)] [0, 1] rfl rfl rfl rfl rfl rfl rfl rfl (fun _ _ => rfl) (fun _ _ _ => rfl) rfl (fun y3 hy3 => ?_)
      obtain ⟨w5, x3⟩ := y3
      dsimp only at hy3 ⊢
      refine r_p (p_assign rfl) rfl (r_nil (r_seq (r_region (r_p (p_move rfl) rfl (r_p (p_nilCheck rfl) rfl ?_)))))
      refine r_p (p_field0 fo117_6 rfl) rfl ?_
      refine r_p (p_load1 t40 rfl rfl (g_row1 (k := 0) rfl xC_er)) rfl ?_
      refine r_p (p_bin rfl rfl b_eq) rfl ?_
      refine r_nil ?_
      refine r_cond rfl (fun h7 => ?_) (fun h7 => ?_)
      ·have q6e : x3.er = 0 := by simpa using h7
       obtain ⟨s3, vo3, hz, hx3⟩ : ∃ s3 vo3, ry = .ok w5 s3 ∧ x3 = xS e s3 vo3 := by
        rcases hy3 with h | ⟨z1, z2⟩
        ·exact h
        ·exact absurd q6e z1
       subst hz hx3
       dsimp only at hr
       have hw3 := ((ev_ok hF g).x d vs e2 s2 w5 s3 hv2 hk.v hk2.ok hy).2
       have hfl3 := hw3.fl
       refine r_region (r_p (p_move rfl) rfl (r_p (p_move rfl) rfl ?_))
       refine r_p (p_bin rfl rfl (b_rem (by decide) hwm)) rfl ?_
       refine r_p (p_move rfl) rfl (r_p (p_nilCheck rfl) rfl ?_)
       refine r_p (p_field0 fo117_3 rfl) rfl ?_
       refine r_p (p_idx_arr (j := (v % 256).toNat) Tryz.underlying99 t36 rfl rfl (by have := hw1.1; omega) (by omega)) rfl ?_
       refine r_store_row (k := 0) t36 rfl rfl rfl rfl rfl rfl (xC_fit (by omega)) (xC_setMem (by omega)) ?_
       refine r_nil ?_
       refine r_end (⟨fr, vN, vV, false, 0, xS e { s3 with mem := mput s3.mem (v % 256).toNat w5 } vo3⟩) (.inl ⟨vs, none, _, vo3, (Option.some.inj hr).symm, rfl, hk.f, by dsimp only; omega, rfl, rfl⟩) rfl rs0 rfl [0, 1, 2, 3, 4] [] rfl rfl rfl
      ·have q6e : x3.er ≠ 0 := by simpa using h7
       have hz : ry = .err x3.er := by
        rcases hy3 with ⟨s3, vo3, z1, z2⟩ | ⟨z1, z2⟩
        ·dsimp only at z2
         rw [z2] at q6e
         exact absurd rfl q6e
        ·exact z2
       subst hz
       refine r_skip ?_
       refine r_end (⟨fr, vN, vV, false, 0, x3⟩) (.inr ⟨q6e, (Option.some.inj hr).symm⟩) rfl rs0 rfl [0, 1, 2, 3, 4] [] rfl rfl rfl
     ·have q3 : ¬ t.kind = 3 := of_decide_eq_false h6
      rw [if_neg q3] at hr
      refine r_seq (r_region ?_)
      refine r_p (p_bin rfl rfl b_eq) rfl ?_
      refine r_p (p_assign rfl) rfl (r_nil ?_)
      refine r_cond rfl (fun h8 => ?_) (fun h8 => ?_)
      ·have q4 : t.kind = 4 := of_decide_eq_true h8
       rw [if_pos q4] at hr
       refine r_seq (r_region (r_p (p_move rfl) rfl ?_))
       refine r_p (p_bin rfl rfl b_ne) rfl ?_
       refine r_nil ?_
       refine r_cond rfl (fun h9 => ?_) (fun h9 => ?_)
       ·have qv : ¬ v = 0 := by simpa using h9
        rw [if_neg qv] at hr
        refine r_region (r_p (p_move rfl) rfl (r_p (p_move rfl) rfl ?_))
        refine r_p (p_field0 fo53_3 rfl) rfl ?_
        refine r_p (p_load1 t51 rfl rfl (g_row1 (k := 5) rfl rfl)) rfl ?_
        refine r_callN (xs := [.tmp 60, .tmp 61, .tmp 63]) (ihB g (Nat.le_refl g) t.body t.vb d b vN vV fr vs s2 vo2 r (VY_body ht).2 (VY_body ht).1 hd hkb2 hr) cb85 [0, 1, 2, 3, 4] [(false, 1), (false, 3), (false, 4)] [0, 1, 2, 3, 4] rfl rfl rfl rfl rfl rfl rfl rfl (fun _ _ => rfl) (fun _ _ _ => rfl) rfl (fun y4 hy4 => ?_)
        refine r_nil ?_
        refine r_end (y4) hy4 rfl rs0 rfl [0, 1, 2, 3, 4] [] rfl rfl rfl
       ·have qv : v = 0 := by simpa using h9
        rw [if_pos qv] at hr
        refine r_region (r_p (p_move rfl) rfl (r_p (p_move rfl) rfl ?_))
        refine r_p (p_field0 fo53_4 rfl) rfl ?_
        refine r_p (p_load1 t51 rfl rfl (g_row1 (k := 5) rfl rfl)) rfl ?_
        refine r_callN (xs := [.tmp 65, .tmp 66, .tmp 68]) (ihB g (Nat.le_refl g) t.els t.vl d b vN vV fr vs s2 vo2 r (VY_els ht).2 (VY_els ht).1 hd hkb2 hr) cb85 [0, 1, 2, 3, 4] [(false, 2), (false, 3), (false, 4)] [0, 1, 2, 3, 4] rfl rfl rfl rfl rfl rfl rfl rfl (fun _ _ => rfl) (fun _ _ _ => rfl) rfl (fun y4 hy4 => ?_)
        refine r_nil ?_
        refine r_end (y4) hy4 rfl rs0 rfl [0, 1, 2, 3, 4] [] rfl rfl rfl
      ·have q4 : ¬ t.kind = 4 := of_decide_eq_false h8
       rw [if_neg q4] at hr
       refine r_seq (r_region ?_)
       refine r_p (p_bin rfl rfl b_eq) rfl ?_
       refine r_p (p_assign rfl) rfl (r_nil ?_)
       refine r_cond rfl (fun h10 => ?_) (fun h10 => ?_)
       ·have q5 : t.kind = 5 := of_decide_eq_true h10
        rw [if_pos q5] at hr
        refine r_block ?_
        refine r_loop (X := Yw) (fun z => z.g ≤ g ∧ WIn e z.g d e1 t.body z.v z.y r) (fun z => [(0, .pointer (some ⟨e.m, 0, none⟩)), (1, .pointer (some ⟨b, 0, none⟩)), (5, .pointer (some ⟨b5, 0, none⟩)), (7, .int .u32 z.v)]) (fun z => [(0, row e.m 117 (xRow e z.y.x)), (1, own 36 1 eU (sv z.y.x.vo) z.y.x.out), (2, row b 139 (fC z.y.vN z.y.vV (d : Int) z.y.done z.y.val)), (3, own 9 1 eS (sv z.y.vN) (nmF z.y.fr)), (4, own 36 1 eU (sv z.y.vV) (vlF z.y.fr)), (5, row b5 53 (eTy t))]) (fun z => [(0, txsA t.ve t.es), (1, tysA t.vb t.body), (2, tysA t.vl t.els), (3, tfsA e.vp e.fs), (4, sl 1 eU (sv e.vin) e.ins), (20, sl 4 eTx (sv t.ve) t.es), (21, txsA e1.v e1.kids)]) (fun z => z.g) ⟨g, v, ⟨fr, vN, vV, false, 0, xS e s2 vo2⟩⟩ ⟨Nat.le_refl _, .inl ⟨vs, s2, vo2, rfl, hkb2, rfl, rfl, hr⟩⟩ rfl rfl rfl (fun z hz0 => ?_)
        obtain ⟨gx, vx, y⟩ := z
        obtain ⟨n1, n2⟩ := hz0
        dsimp only at n1 n2 ⊢
        refine r_seq (r_seq (r_region (r_p (p_move rfl) rfl ?_)))
        refine r_p (p_bin rfl rfl b_ne) rfl ?_
        refine r_p (p_move rfl) rfl ?_
        refine r_gp [] rfl rfl trivial (fun hg11 => p_move rfl) rfl ?_
        refine r_gp [(75, _)] rfl rfl ⟨rfl, trivial⟩ (fun hg12 => p_nilCheck rfl) rfl ?_
        refine r_gp [(75, _), (76, _)] rfl rfl ⟨rfl, rfl, trivial⟩ (fun hg13 => p_field0 fo117_6 rfl) rfl ?_
        refine r_gp [(75, _), (76, _), (77, _)] rfl rfl ⟨rfl, rfl, rfl, trivial⟩ (fun hg14 => p_load1 t40 rfl rfl (g_row1 (k := 0) rfl xC_er)) rfl ?_
        refine r_gp [(75, _), (76, _), (77, _), (78, _)] rfl rfl ⟨rfl, rfl, rfl, rfl, trivial⟩ (fun hg15 => p_bin rfl rfl b_eq) rfl ?_
        refine r_p (p_pick rfl rfl rfl (by first | exact pick_and | exact pick_or |  rfl)) rfl ?_
        refine r_p (p_move rfl) rfl ?_
        refine r_gp [] rfl rfl trivial (fun hg16 => p_move rfl) rfl ?_
        refine r_gp [(82, _)] rfl rfl ⟨rfl, trivial⟩ (fun hg17 => p_nilCheck rfl) rfl ?_
        refine r_gp [(82, _), (83, _)] rfl rfl ⟨rfl, rfl, trivial⟩ (fun hg18 => p_field0 fo139_3 rfl) rfl ?_
        refine r_gp [(82, _), (83, _), (84, _)] rfl rfl ⟨rfl, rfl, rfl, trivial⟩ (fun hg19 => p_load1 t4 rfl rfl (g_row1 (k := 2) rfl rfl)) rfl ?_
        refine r_gp [(82, _), (83, _), (84, _), (85, _)] rfl rfl ⟨rfl, rfl, rfl, rfl, trivial⟩ (fun hg20 => p_not rfl) rfl ?_
        refine r_p (p_pick rfl rfl rfl (by first | exact pick_and | exact pick_or |  rfl)) rfl ?_
        refine r_nil ?_
        refine r_cond rfl (fun h21 => ?_) (fun h21 => ?_)
        ·(try simp only [decide_eq_true_eq, decide_eq_false_iff_not, Bool.and_eq_true, Bool.or_eq_true, Bool.and_eq_false_iff, Bool.or_eq_false_iff, Bool.not_eq_true, Bool.not_eq_false, Bool.not_eq_true', Bool.not_eq_false', Bool.not_not, bne_iff_ne, beq_iff_eq] at h21)
         obtain ⟨fr1, vN1, vV1, dn, val, xx⟩ := y
         obtain ⟨⟨qv, he0⟩, hd0⟩ := h21
         obtain ⟨g2, q, vs1, sx, vox, rfl, hx1, hk1, hval, hwb, hstep⟩ := n2.step hF hv1 (VY_body ht).2 qv hd0 he0
         dsimp only at hx1 hk1 hval hd0
         subst hx1 hval hd0
         refine r_skip (r_block (r_seq (r_region (r_p (p_move rfl) rfl (r_p (p_move rfl) rfl ?_)))))
         refine r_p (p_field0 fo53_3 rfl) rfl ?_
         refine r_p (p_load1 t51 rfl rfl (g_row1 (k := 5) rfl rfl)) rfl ?_
         refine r_callN (xs := [.tmp 88, .tmp 89, .tmp 91]) (ihB g2 (by omega) t.body t.vb d b vN1 vV1 fr1 vs1 sx vox q (VY_body ht).2 (VY_body ht).1 hd hk1 hwb) cb85 [0, 1, 2, 3, 4] [(false, 1), (false, 3), (false, 4)] [0, 1, 2, 3, 4] rfl rfl rfl rfl rfl rfl rfl rfl (fun _ _ => rfl) (fun _ _ _ => rfl) rfl (fun y hy => ?_)
         have hmid := hstep y hy
         refine r_nil (r_seq (r_region (r_p (p_move rfl) rfl (r_p (p_nilCheck rfl) rfl ?_))))
         refine r_p (p_field0 fo117_6 rfl) rfl ?_
         refine r_p (p_load1 t40 rfl rfl (g_row1 (k := 0) rfl xC_er)) rfl ?_
         refine r_p (p_bin rfl rfl b_eq) rfl ?_
         refine r_p (p_move rfl) rfl ?_
         refine r_gp [] rfl rfl trivial (fun hg22 => p_move rfl) rfl ?_
         refine r_gp [(99, _)] rfl rfl ⟨rfl, trivial⟩ (fun hg23 => p_nilCheck rfl) rfl ?_
         refine r_gp [(99, _), (100, _)] rfl rfl ⟨rfl, rfl, trivial⟩ (fun hg24 => p_field0 fo139_3 rfl) rfl ?_
         refine r_gp [(99, _), (100, _), (101, _)] rfl rfl ⟨rfl, rfl, rfl, trivial⟩ (fun hg25 => p_load1 t4 rfl rfl (g_row1 (k := 2) rfl rfl)) rfl ?_
         refine r_gp [(99, _), (100, _), (101, _), (102, _)] rfl rfl ⟨rfl, rfl, rfl, rfl, trivial⟩ (fun hg26 => p_not rfl) rfl ?_
         refine r_p (p_pick rfl rfl rfl (by first | exact pick_and | exact pick_or |  rfl)) rfl ?_
         refine r_nil ?_
         refine r_cond rfl (fun h27 => ?_) (fun h27 => ?_)
         ·(try simp only [decide_eq_true_eq, decide_eq_false_iff_not, Bool.and_eq_true, Bool.or_eq_true, Bool.and_eq_false_iff, Bool.or_eq_false_iff, Bool.not_eq_true, Bool.not_eq_false, Bool.not_eq_true', Bool.not_eq_false', Bool.not_not, bne_iff_ne, beq_iff_eq] at h27)
          obtain ⟨fr2, vN2, vV2, dn2, val2, xx2⟩ := y
          obtain ⟨he1, hd1⟩ := h27
          obtain ⟨vs2, sy, voy, rz, hx2, hk3, hval2, hrz, hwn⟩ := hmid.go hd1 he1
          dsimp only at hx2 hk3 hval2 hd1
          subst hx2 hval2 hd1
          refine r_region (r_p (p_move rfl) rfl (r_p (p_move rfl) rfl ?_))
          refine r_p (p_field0 fo53_2 rfl) rfl ?_
          refine r_p (p_load1 t46 rfl rfl (g_row1 (k := 5) rfl rfl)) rfl ?_
          refine r_p (p_idx_sl (j := 0) Tryz.underlying46 t48 rfl rfl (hs_sl (k := 20) rfl) rfl (by omega)) rfl ?_
          refine r_p (p_loadA t48 rfl rfl rfl (g_el' (hs_sl (k := 20) rfl) (by intro _; rfl) hes0 (by rfl))) rfl ?_
          refine r_callN (xs := [.tmp 105, .tmp 106, .tmp 110]) (ihX g2 (by omega) e1 d b vN2 vV2 fr2 vs2 (xS e sy voy) rz hv1 hd hk3.v hk3.f (by have := hk3.n; omega) (.inl ⟨sy, voy, rfl, hk3.k, hrz⟩)) cb122 [0, 1] [(true, 2), (true, 3), (true, 4), (false, 21), (false, 3), (false, 4)] [0, 1] rfl rfl rfl rfl rfl rfl rfl rfl (fun _ _ => rfl) (fun _ _ _ => rfl) rfl (fun w hw => ?_)
          have hnext := hwn w hw
          refine r_p (p_assign rfl) rfl (r_nil ?_)
          refine r_here ⟨g2, w.1, ⟨fr2, vN2, vV2, false, 0, w.2⟩⟩ ⟨⟨by dsimp only; omega, hnext⟩, by dsimp only; omega⟩ rfl rfl rfl
         ·(try simp only [decide_eq_true_eq, decide_eq_false_iff_not, Bool.and_eq_true, Bool.or_eq_true, Bool.and_eq_false_iff, Bool.or_eq_false_iff, Bool.not_eq_true, Bool.not_eq_false, Bool.not_eq_true', Bool.not_eq_false', Bool.not_not, bne_iff_ne, beq_iff_eq] at h27)
          have hstop : y.done = true ∨ y.x.er ≠ 0 := by
           rcases h27 with h | h
           ·exact .inr h
           ·exact .inl h
          refine r_skip ?_
          refine r_here ⟨g2, vx, y⟩ ⟨⟨by dsimp only; omega, hmid.stop hstop vx⟩, by dsimp only; omega⟩ rfl rfl rfl
        ·(try simp only [decide_eq_true_eq, decide_eq_false_iff_not, Bool.and_eq_true, Bool.or_eq_true, Bool.and_eq_false_iff, Bool.or_eq_false_iff, Bool.not_eq_true, Bool.not_eq_false, Bool.not_eq_true', Bool.not_eq_false', Bool.not_not, bne_iff_ne, beq_iff_eq] at h21)
         have hfin : FitB e r y := by
          rcases h21 with (h | h) | h
          ·exact n2.out (by simpa using h)
          ·exact n2.stop (.inr h)
          ·exact n2.stop (.inl h)
         refine r_exit ?_
         refine r_end (y) hfin rfl rs0 rfl [0, 1, 2, 3, 4] [] rfl rfl rfl
       ·have q5 : ¬ t.kind = 5 := of_decide_eq_false h10
        rw [if_neg q5] at hr
        refine r_seq (r_region ?_)
        refine r_p (p_bin rfl rfl b_eq) rfl ?_
        refine r_p (p_assign rfl) rfl (r_nil ?_)
        refine r_cond rfl (fun h28 => ?_) (fun h28 => ?_)
        ·have q6 : t.kind = 6 := of_decide_eq_true h28
         rw [if_pos q6] at hr
         refine r_seq (r_region (r_p (p_move rfl) rfl (r_p (p_nilCheck rfl) rfl ?_)))
         refine r_p (p_field0 fo139_3 rfl) rfl ?_
         refine r_store_row (k := 2) t4 rfl rfl rfl rfl rfl rfl rfl rfl ?_
         refine r_nil (r_region (r_p (p_move rfl) rfl (r_p (p_move rfl) rfl (r_p (p_nilCheck rfl) rfl ?_))))
         refine r_p (p_field0 fo139_4 rfl) rfl ?_
         refine r_store_row (k := 2) t36 rfl rfl rfl rfl rfl rfl rfl rfl ?_
         refine r_nil ?_
         refine r_end (⟨fr, vN, vV, true, v, xS e s2 vo2⟩) (.inl ⟨vs, some v, s2, vo2, (Option.some.inj hr).symm, rfl, hk.f, by dsimp only; omega, rfl, rfl⟩) rfl rs0 rfl [0, 1, 2, 3, 4] [] rfl rfl rfl
        ·have q6 : ¬ t.kind = 6 := of_decide_eq_false h28
         rw [if_neg q6] at hr
         refine r_seq (r_region ?_)
         refine r_p (p_bin rfl rfl b_eq) rfl ?_
         refine r_p (p_assign rfl) rfl (r_nil ?_)
         refine r_cond rfl (fun h29 => ?_) (fun h29 => ?_)
         ·have q7 : t.kind = 7 := of_decide_eq_true h29
          rw [if_pos q7] at hr
          refine r_region (r_p (p_move rfl) rfl (r_p (p_move rfl) rfl (r_p (p_nilCheck rfl) rfl ?_)))
          refine r_p (p_field0 fo117_2 rfl) rfl ?_
          refine r_p (p_load1 t23 rfl rfl (g_row1 (k := 0) rfl rfl)) rfl ?_
          refine r_p (p_move rfl) rfl ?_
          refine r_bslice1 eU _ Tryz.underlying23 t36 rfl (by decide) (by decide) rfl rfl rfl rfl fun v129 => ?_
          refine r_append 1 Tryz.underlying23 t36 rfl (by decide) (fun _ => rfl) (fun _ => rfl) rfl rfl rfl (hs_own (k := 129) rfl) (by have hn : (xS e s2 vo2).out.length = s2.out.length := rfl; rw [List.length_singleton, hn]; omega) (by have hn : (xS e s2 vo2).out.length = s2.out.length := rfl; unfold maxLen; rw [List.length_singleton, hn]; omega) rfl fun v130 => ?_
          refine r_p (p_nilCheck rfl) rfl ?_
          refine r_p (p_field0 fo117_2 rfl) rfl ?_
          refine r_store_row (k := 0) t23 rfl rfl rfl rfl rfl rfl rfl xC_setOut ?_
          refine r_nil ?_
          refine r_end (⟨fr, vN, vV, false, 0, xS e { s2 with out := s2.out ++ [v] } v130⟩) (.inl ⟨vs, none, _, v130, (Option.some.inj hr).symm, rfl, hk.f, by dsimp only; omega, rfl, rfl⟩) rfl rs0 rfl [0, 1, 2, 3, 4] [] rfl rfl rfl
         ·have q7 : ¬ t.kind = 7 := of_decide_eq_false h29
          rw [if_neg q7] at hr
          refine r_skip ?_
          refine r_end (⟨fr, vN, vV, false, 0, xS e s2 vo2⟩) (.inl ⟨vs, none, s2, vo2, (Option.some.inj hr).symm, rfl, hk.f, by dsimp only; omega, rfl, rfl⟩) rfl rs0 rfl [0, 1, 2, 3, 4] [] rfl rfl rfl
theorem h8_all {e : Rn} (hF : VF e.fs) (hfu1 : -1000000000000000000 ≤ e.fu) (hfu2 : e.fu ≤ 1000000000000000000) (hfl : e.fs.length ≤ 1000000) : ∀ g, ∀ k, k ≤ g → HX8 e k ∧ HC8 e k ∧ HB8 e k ∧ HS8 e k
 | 0, k, hk => by
  obtain rfl : k = 0 := by omega
  exact ⟨x8_zero, fun nm f d va al s vo r _ _ _ _ _ hr => by simp [evC] at hr, fun l v d b vN vV fr vs s vo r _ _ _ _ hr => by simp [evB] at hr, fun t d b vN vV fr vs s vo r _ _ _ hr => by simp [evS] at hr⟩
 | g + 1, k, hk => by
  have ih := h8_all hF hfu1 hfu2 hfl g
  by_cases h : k ≤ g
  ·exact ih k h
  ·obtain rfl : k = g + 1 := by omega
   refine ⟨x8_step hF hfu1 hfu2 hfl (fun j hj => (ih j hj).1) (fun j hj => (ih j hj).2.1), fun nm f d va al s vo r h1 h2 h3 h4 h5 hr => ?_, fun l v d b vN vV fr vs s vo r h1 h2 h3 h4 hr => b8_step e g hF (fun j hj => (ih j hj).2.2.2) l v d b vN vV fr vs s vo r h1 h2 h3 h4 hr, fun t d b vN vV fr vs s vo r h1 h2 h3 hr => ?_⟩
   ·by_cases h12 : d = 12
    ·exact c8_deep e g hF hfl (ih g (Nat.le_refl g)).2.2.1 nm f d va al s vo r h1 h2 h3 h4 h5 hr h12
    ·exact c8_ok e g hF hfl (ih g (Nat.le_refl g)).2.2.1 nm f d va al s vo r h1 h2 h3 h4 h5 hr h12
   ·by_cases hfu : s.fuel ≤ 0
    ·exact s8_no e g hF hfu1 hfu2 (fun j hj => (ih j hj).1) (fun j hj => (ih j hj).2.2.1) t d b vN vV fr vs s vo r h1 h2 h3 hr hfu
    ·exact s8_ok e g hF hfu1 hfu2 (fun j hj => (ih j hj).1) (fun j hj => (ih j hj).2.2.1) t d b vN vV fr vs s vo r h1 h2 h3 hr hfu
theorem hc8_all {e : Rn} (hF : VF e.fs) (hfu1 : -1000000000000000000 ≤ e.fu) (hfu2 : e.fu ≤ 1000000000000000000) (hfl : e.fs.length ≤ 1000000) (g : Nat) : HC8 e g := (h8_all hF hfu1 hfu2 hfl g g (Nat.le_refl g)).2.1
/-- More gas changes nothing. -/
structure Mono (fs : List Tf) (g : Nat) : Prop where
 x : ∀ d vs t s r, evX g fs d vs t s = some r → evX (g + 1) fs d vs t s = some r
 k : ∀ d vs acc l s r, evK g fs d vs acc l s = some r → evK (g + 1) fs d vs acc l s = some r
 c : ∀ d f al s r, evC g fs d f al s = some r → evC (g + 1) fs d f al s = some r
 b : ∀ d vs l s r, evB g fs d vs l s = some r → evB (g + 1) fs d vs l s = some r
 s : ∀ d vs t s r, evS g fs d vs t s = some r → evS (g + 1) fs d vs t s = some r
 w : ∀ d vs e l v s r, evW g fs d vs e l v s = some r → evW (g + 1) fs d vs e l v s = some r
theorem mono (fs : List Tf) : ∀ g, Mono fs g
 | 0 => ⟨fun _ _ _ _ _ h => by simp [evX] at h, fun _ _ _ _ _ _ h => by simp [evK] at h, fun _ _ _ _ _ h => by simp [evC] at h, fun _ _ _ _ _ h => by simp [evB] at h, fun _ _ _ _ _ h => by simp [evS] at h, fun _ _ _ _ _ _ _ h => by simp [evW] at h⟩
 | g + 1 => by
  have ih := mono fs g
  refine ⟨fun d vs t s r h => ?_, fun d vs acc l s r h => ?_, fun d f al s r h => ?_, fun d vs l s r h => ?_, fun d vs t s r h => ?_, fun d vs e l v s r h => ?_⟩
  ·rw [evX] at h ⊢
   by_cases hf : s.fuel ≤ 0
   ·rw [if_pos hf] at h ⊢; exact h
   ·rw [if_neg hf] at h ⊢
    cases hk : evK g fs d vs [] t.kids { s with fuel := s.fuel - 1 } with
    | none => rw [hk] at h; simp at h
    | some q =>
     rw [hk] at h
     rw [ih.k _ _ _ _ _ _ hk]
     cases q with
     | err z => exact h
     | ok ks s1 =>
      dsimp only at h ⊢
      by_cases q1 : t.kind = 1
      ·rw [if_pos q1] at h ⊢; exact h
      rw [if_neg q1] at h ⊢
      by_cases q2 : t.kind = 2
      ·rw [if_pos q2] at h ⊢; exact h
      rw [if_neg q2] at h ⊢
      by_cases q4 : t.kind = 4
      ·rw [if_pos q4] at h ⊢; exact h
      rw [if_neg q4] at h ⊢
      by_cases q5 : t.kind = 5
      ·rw [if_pos q5] at h ⊢; exact h
      rw [if_neg q5] at h ⊢
      by_cases q6 : t.kind = 6
      ·rw [if_pos q6] at h ⊢; exact h
      rw [if_neg q6] at h ⊢
      by_cases q7 : t.kind = 7
      ·rw [if_pos q7] at h ⊢; exact h
      rw [if_neg q7] at h ⊢
      cases hf : ffind fs t.name with
      | none => rw [hf] at h; simp at h
      | some f => rw [hf] at h; exact ih.c _ _ _ _ _ h
  ·cases l with
   | nil => rw [evK] at h ⊢; exact h
   | cons t l =>
    rw [evK] at h ⊢
    cases hx : evX g fs d vs t s with
    | none => rw [hx] at h; simp at h
    | some q =>
     rw [hx] at h
     rw [ih.x _ _ _ _ _ hx]
     cases q with
     | err z => exact h
     | ok v s1 => exact ih.k _ _ _ _ _ _ h
  ·rw [evC] at h ⊢
   by_cases hd : d = 12
   ·rw [if_pos hd] at h ⊢; exact h
   ·rw [if_neg hd] at h ⊢
    cases hb : evB g fs (d + 1) (vbind [] f.ps al) f.body s with
    | none => rw [hb] at h; simp at h
    | some q => rw [hb] at h; rw [ih.b _ _ _ _ _ hb]; exact h
  ·cases l with
   | nil => rw [evB] at h ⊢; exact h
   | cons t l =>
    rw [evB] at h ⊢
    cases hx : evS g fs d vs t s with
    | none => rw [hx] at h; simp at h
    | some q =>
     rw [hx] at h
     rw [ih.s _ _ _ _ _ hx]
     cases q with
     | err z => exact h
     | ok p s1 =>
      obtain ⟨vs1, ro⟩ := p
      cases ro with
      | some y => exact h
      | none => exact ih.b _ _ _ _ _ h
  ·rw [evS] at h ⊢
   by_cases hf : s.fuel ≤ 0
   ·rw [if_pos hf] at h ⊢; exact h
   ·rw [if_neg hf] at h ⊢
    cases he : t.es with
    | nil => rw [he] at h; simp at h
    | cons e es =>
     rw [he] at h
     dsimp only at h ⊢
     cases hx : evX g fs d vs e { s with fuel := s.fuel - 1 } with
     | none => rw [hx] at h; simp at h
     | some q =>
      rw [hx] at h
      rw [ih.x _ _ _ _ _ hx]
      cases q with
      | err z => exact h
      | ok v s1 =>
       dsimp only at h ⊢
       by_cases q1 : t.kind = 1 ∨ t.kind = 2
       ·rw [if_pos q1] at h ⊢; exact h
       rw [if_neg q1] at h ⊢
       by_cases q3 : t.kind = 3
       ·rw [if_pos q3] at h ⊢
        cases es with
        | nil => simp at h
        | cons e2 es =>
         dsimp only at h ⊢
         cases hy : evX g fs d vs e2 s1 with
         | none => rw [hy] at h; simp at h
         | some q => rw [hy] at h; rw [ih.x _ _ _ _ _ hy]; exact h
       rw [if_neg q3] at h ⊢
       by_cases q4 : t.kind = 4
       ·rw [if_pos q4] at h ⊢; exact ih.b _ _ _ _ _ h
       rw [if_neg q4] at h ⊢
       by_cases q5 : t.kind = 5
       ·rw [if_pos q5] at h ⊢; exact ih.w _ _ _ _ _ _ _ h
       rw [if_neg q5] at h ⊢
       exact h
  ·rw [evW] at h ⊢
   by_cases hv : v = 0
   ·rw [if_pos hv] at h ⊢; exact h
   ·rw [if_neg hv] at h ⊢
    cases hb : evB g fs d vs l s with
    | none => rw [hb] at h; simp at h
    | some q =>
     rw [hb] at h
     rw [ih.b _ _ _ _ _ hb]
     cases q with
     | err z => exact h
     | ok p s1 =>
      obtain ⟨vs1, ro⟩ := p
      cases ro with
      | some y => exact h
      | none =>
       dsimp only at h ⊢
       cases hx : evX g fs d vs1 e s1 with
       | none => rw [hx] at h; simp at h
       | some q =>
        rw [hx] at h
        rw [ih.x _ _ _ _ _ hx]
        cases q with
        | err z => exact h
        | ok w s2 => exact ih.w _ _ _ _ _ _ _ h
theorem mono_x {fs : List Tf} {g g' : Nat} (h : g ≤ g') {d vs t s r} (hr : evX g fs d vs t s = some r) : evX g' fs d vs t s = some r := by
 induction h with
 | refl => exact hr
 | step _ ih => exact (mono fs _).x _ _ _ _ _ ih
theorem mono_k {fs : List Tf} {g g' : Nat} (h : g ≤ g') {d vs acc l s r} (hr : evK g fs d vs acc l s = some r) : evK g' fs d vs acc l s = some r := by
 induction h with
 | refl => exact hr
 | step _ ih => exact (mono fs _).k _ _ _ _ _ _ ih
theorem mono_c {fs : List Tf} {g g' : Nat} (h : g ≤ g') {d f al s r} (hr : evC g fs d f al s = some r) : evC g' fs d f al s = some r := by
 induction h with
 | refl => exact hr
 | step _ ih => exact (mono fs _).c _ _ _ _ _ ih
theorem mono_b {fs : List Tf} {g g' : Nat} (h : g ≤ g') {d vs l s r} (hr : evB g fs d vs l s = some r) : evB g' fs d vs l s = some r := by
 induction h with
 | refl => exact hr
 | step _ ih => exact (mono fs _).b _ _ _ _ _ ih
theorem mono_s {fs : List Tf} {g g' : Nat} (h : g ≤ g') {d vs t s r} (hr : evS g fs d vs t s = some r) : evS g' fs d vs t s = some r := by
 induction h with
 | refl => exact hr
 | step _ ih => exact (mono fs _).s _ _ _ _ _ ih
theorem mono_w {fs : List Tf} {g g' : Nat} (h : g ≤ g') {d vs e l v s r} (hr : evW g fs d vs e l v s = some r) : evW g' fs d vs e l v s = some r := by
 induction h with
 | refl => exact hr
 | step _ ih => exact (mono fs _).w _ _ _ _ _ _ _ ih
/-- An expression costs at least one unit. -/
theorem evX_cost {fs : List Tf} (hF : VF fs) {g d vs t s v s'} (ht : VX fs t) (hv : okVs vs) (hs : okMs s) (h : evX g fs d vs t s = some (.ok v s')) : s'.fuel + 1 ≤ s.fuel := by
 cases g with
 | zero => simp [evX] at h
 | succ g =>
  rw [evX] at h
  by_cases hf : s.fuel ≤ 0
  ·rw [if_pos hf] at h; simp at h
  ·rw [if_neg hf] at h
   have hp := Kp.pay hs hf
   cases hk : evK g fs d vs [] t.kids { s with fuel := s.fuel - 1 } with
   | none => rw [hk] at h; simp at h
   | some q =>
    rw [hk] at h
    cases q with
    | err z => simp at h
    | ok ks s1 =>
     obtain ⟨k1, _, k3⟩ := (ev_ok hF g).k d vs [] t.kids _ ks s1 (by cases t; exact ht.2.2.2.2.2.2) hv hp.ok (by simp) hk
     have h3 := k3.fl
     dsimp only at h3 h
     have fin : ∀ {a : Int} {s2 : Ms}, some (Re.ok a s2) = some (Re.ok v s') → s2.fuel = s1.fuel → s'.fuel + 1 ≤ s.fuel := fun h hs2 => by
      simp only [Option.some.injEq, Re.ok.injEq] at h
      obtain ⟨-, rfl⟩ := h
      omega
     split at h
     ·exact fin h rfl
     ·split at h
      ·exact fin h rfl
      ·split at h
       ·exact fin h rfl
       ·split at h
        ·split at h
         ·exact fin h rfl
         ·exact fin h rfl
        ·split at h
         ·exact fin h rfl
         ·split at h
          ·exact fin h rfl
          ·split at h
           ·simp at h
           ·rename_i f hff
            have := ((ev_ok hF g).c d f ks s1 v s' (ffind_mem hff) k1 k3.ok h).2.fl
            omega
/-- With at most n units, everything ends. -/
structure Tot (fs : List Tf) (n : Nat) : Prop where
 x : ∀ d vs t s, VX fs t → okVs vs → okMs s → s.fuel ≤ (n : Int) → ∃ g r, evX g fs d vs t s = some r
 k : ∀ d vs l acc s, VXs fs l → okVs vs → okMs s → s.fuel ≤ (n : Int) → ∃ g r, evK g fs d vs acc l s = some r
 b : ∀ d vs l s, VYs fs l → okVs vs → okMs s → s.fuel ≤ (n : Int) → ∃ g r, evB g fs d vs l s = some r
 c : ∀ d f al s, f ∈ fs → (∀ a ∈ al, oW a) → okMs s → s.fuel ≤ (n : Int) → ∃ g r, evC g fs d f al s = some r
 w : ∀ d vs e l v s, VX fs e → VYs fs l → okVs vs → okMs s → s.fuel ≤ (n : Int) → ∃ g r, evW g fs d vs e l v s = some r
theorem tot_k {fs : List Tf} (hF : VF fs) {n : Nat} (hx : ∀ d vs t s, VX fs t → okVs vs → okMs s → s.fuel ≤ (n : Int) → ∃ g r, evX g fs d vs t s = some r) :
  ∀ d vs l acc s, VXs fs l → okVs vs → okMs s → s.fuel ≤ (n : Int) → ∃ g r, evK g fs d vs acc l s = some r
 | d, vs, [], acc, s, _, _, _, _ => ⟨1, .ok acc s, by rw [evK]⟩
 | d, vs, t :: l, acc, s, hl, hv, hs, hn => by
  obtain ⟨g1, r1, h1⟩ := hx d vs t s hl.1 hv hs hn
  cases r1 with
  | err z => exact ⟨g1 + 1, .err z, by rw [evK, h1]⟩
  | ok v s1 =>
   have hk := ((ev_ok hF g1).x d vs t s v s1 hl.1 hv hs h1).2
   obtain ⟨g2, r2, h2⟩ := tot_k hF hx d vs l (acc ++ [v]) s1 hl.2 hv hk.ok (Int.le_trans hk.fl hn)
   refine ⟨g1 + g2 + 1, r2, ?_⟩
   rw [evK, mono_x (by omega : g1 ≤ g1 + g2) h1]
   exact mono_k (by omega : g2 ≤ g1 + g2) h2
theorem tot_b {fs : List Tf} (hF : VF fs) {n : Nat} (hx : ∀ d vs t s, VY fs t → okVs vs → okMs s → s.fuel ≤ (n : Int) → ∃ g r, evS g fs d vs t s = some r) :
  ∀ d vs l s, VYs fs l → okVs vs → okMs s → s.fuel ≤ (n : Int) → ∃ g r, evB g fs d vs l s = some r
 | d, vs, [], s, _, _, _, _ => ⟨1, .ok (vs, none) s, by rw [evB]⟩
 | d, vs, t :: l, s, hl, hv, hs, hn => by
  obtain ⟨g1, r1, h1⟩ := hx d vs t s hl.1 hv hs hn
  cases r1 with
  | err z => exact ⟨g1 + 1, .err z, by rw [evB, h1]⟩
  | ok p s1 =>
   obtain ⟨vs1, ro⟩ := p
   obtain ⟨k1, _, hk⟩ := (ev_ok hF g1).s d vs t s _ s1 hl.1 hv hs h1
   cases ro with
   | some y => exact ⟨g1 + 1, .ok (vs1, some y) s1, by rw [evB, h1]⟩
   | none =>
    obtain ⟨g2, r2, h2⟩ := tot_b hF hx d vs1 l s1 hl.2 k1 hk.ok (Int.le_trans hk.fl hn)
    refine ⟨g1 + g2 + 1, r2, ?_⟩
    rw [evB, mono_s (by omega : g1 ≤ g1 + g2) h1]
    exact mono_b (by omega : g2 ≤ g1 + g2) h2
theorem tot_x {fs : List Tf} (hF : VF fs) {n : Nat} (hT : ∀ k, n = k + 1 → Tot fs k) (d : Nat) (vs : Vs) (t : Tx) (s : Ms) (ht : VX fs t) (hv : okVs vs) (hs : okMs s) (hn : s.fuel ≤ (n : Int)) : ∃ g r, evX g fs d vs t s = some r := by
 by_cases hf : s.fuel ≤ 0
 ·exact ⟨1, .err 25, by rw [evX, if_pos hf]⟩
 ·obtain ⟨k, rfl⟩ : ∃ k, n = k + 1 := ⟨n - 1, by omega⟩
  have T := hT k rfl
  have hp := Kp.pay hs hf
  obtain ⟨g1, r1, h1⟩ := T.k d vs t.kids [] _ (VX_kids ht) hv hp.ok (by dsimp only; omega)
  cases r1 with
  | err z => exact ⟨g1 + 1, .err z, by rw [evX, if_neg hf, h1]⟩
  | ok ks s1 =>
   obtain ⟨k1, _, k3⟩ := (ev_ok hF g1).k d vs [] t.kids _ ks s1 (VX_kids ht) hv hp.ok (by simp) h1
   have k4 := k3.fl
   dsimp only at k4
   by_cases q1 : t.kind = 1
   ·exact ⟨g1 + 1, _, by rw [evX, if_neg hf, h1]; dsimp only; rw [if_pos q1]⟩
   by_cases q2 : t.kind = 2
   ·exact ⟨g1 + 1, _, by rw [evX, if_neg hf, h1]; dsimp only; rw [if_neg q1, if_pos q2]⟩
   by_cases q4 : t.kind = 4
   ·exact ⟨g1 + 1, _, by rw [evX, if_neg hf, h1]; dsimp only; rw [if_neg q1, if_neg q2, if_pos q4]⟩
   by_cases q5 : t.kind = 5
   ·cases hi : s1.inp with
    | nil => exact ⟨g1 + 1, _, by rw [evX, if_neg hf, h1]; dsimp only; rw [if_neg q1, if_neg q2, if_neg q4, if_pos q5, hi]⟩
    | cons a r => exact ⟨g1 + 1, _, by rw [evX, if_neg hf, h1]; dsimp only; rw [if_neg q1, if_neg q2, if_neg q4, if_pos q5, hi]⟩
   by_cases q6 : t.kind = 6
   ·exact ⟨g1 + 1, _, by rw [evX, if_neg hf, h1]; dsimp only; rw [if_neg q1, if_neg q2, if_neg q4, if_neg q5, if_pos q6]⟩
   by_cases q7 : t.kind = 7
   ·exact ⟨g1 + 1, _, by rw [evX, if_neg hf, h1]; dsimp only; rw [if_neg q1, if_neg q2, if_neg q4, if_neg q5, if_neg q6, if_pos q7]⟩
   obtain ⟨f, hff, _⟩ := VX_call ht q1 q2 q4 q5 q6 q7
   obtain ⟨g2, r2, h2⟩ := T.c d f ks s1 (ffind_mem hff) k1 k3.ok (by omega)
   refine ⟨g1 + g2 + 1, r2, ?_⟩
   rw [evX, if_neg hf, mono_k (by omega : g1 ≤ g1 + g2) h1]
   dsimp only
   rw [if_neg q1, if_neg q2, if_neg q4, if_neg q5, if_neg q6, if_neg q7, hff]
   exact mono_c (by omega : g2 ≤ g1 + g2) h2
theorem tot_s {fs : List Tf} (hF : VF fs) {n : Nat} (hT : ∀ k, n = k + 1 → Tot fs k) (d : Nat) (vs : Vs) (t : Ty) (s : Ms) (ht : VY fs t) (hv : okVs vs) (hs : okMs s) (hn : s.fuel ≤ (n : Int)) : ∃ g r, evS g fs d vs t s = some r := by
 by_cases hf : s.fuel ≤ 0
 ·exact ⟨1, .err 25, by rw [evS, if_pos hf]⟩
 ·obtain ⟨k, rfl⟩ : ∃ k, n = k + 1 := ⟨n - 1, by omega⟩
  have T := hT k rfl
  have hp := Kp.pay hs hf
  obtain ⟨v1, v2, v3, v4⟩ := VY_es ht
  cases hes : t.es with
  | nil => rw [hes] at v1; simp at v1
  | cons e es =>
   rw [hes] at v4 v3
   obtain ⟨g1, r1, h1⟩ := T.x d vs e _ v4.1 hv hp.ok (by dsimp only; omega)
   cases r1 with
   | err z => exact ⟨g1 + 1, .err z, by rw [evS, if_neg hf, hes]; dsimp only; rw [h1]⟩
   | ok v s1 =>
    obtain ⟨k1, k3⟩ := (ev_ok hF g1).x d vs e _ v s1 v4.1 hv hp.ok h1
    have k4 := k3.fl
    dsimp only at k4
    by_cases q1 : t.kind = 1 ∨ t.kind = 2
    ·exact ⟨g1 + 1, _, by rw [evS, if_neg hf, hes]; dsimp only; rw [h1]; dsimp only; rw [if_pos q1]⟩
    by_cases q3 : t.kind = 3
    ·cases es with
     | nil => have := v3 q3; simp at this
     | cons e2 es =>
      obtain ⟨g2, r2, h2⟩ := T.x d vs e2 s1 v4.2.1 hv k3.ok (by omega)
      cases r2 with
      | err z => exact ⟨g1 + g2 + 1, .err z, by rw [evS, if_neg hf, hes]; dsimp only; rw [mono_x (by omega : g1 ≤ g1 + g2) h1]; dsimp only; rw [if_neg q1, if_pos q3, mono_x (by omega : g2 ≤ g1 + g2) h2]⟩
      | ok w s2 => exact ⟨g1 + g2 + 1, _, by rw [evS, if_neg hf, hes]; dsimp only; rw [mono_x (by omega : g1 ≤ g1 + g2) h1]; dsimp only; rw [if_neg q1, if_pos q3, mono_x (by omega : g2 ≤ g1 + g2) h2]⟩
    by_cases q4 : t.kind = 4
    ·obtain ⟨g2, r2, h2⟩ := T.b d vs (if v = 0 then t.els else t.body) s1 (by split; exact (VY_els ht).2; exact (VY_body ht).2) hv k3.ok (by omega)
     refine ⟨g1 + g2 + 1, r2, ?_⟩
     rw [evS, if_neg hf, hes]; dsimp only; rw [mono_x (by omega : g1 ≤ g1 + g2) h1]; dsimp only; rw [if_neg q1, if_neg q3, if_pos q4]
     exact mono_b (by omega : g2 ≤ g1 + g2) h2
    by_cases q5 : t.kind = 5
    ·obtain ⟨g2, r2, h2⟩ := T.w d vs e t.body v s1 v4.1 (VY_body ht).2 hv k3.ok (by omega)
     refine ⟨g1 + g2 + 1, r2, ?_⟩
     rw [evS, if_neg hf, hes]; dsimp only; rw [mono_x (by omega : g1 ≤ g1 + g2) h1]; dsimp only; rw [if_neg q1, if_neg q3, if_neg q4, if_pos q5]
     exact mono_w (by omega : g2 ≤ g1 + g2) h2
    by_cases q6 : t.kind = 6
    ·exact ⟨g1 + 1, _, by rw [evS, if_neg hf, hes]; dsimp only; rw [h1]; dsimp only; rw [if_neg q1, if_neg q3, if_neg q4, if_neg q5, if_pos q6]⟩
    by_cases q7 : t.kind = 7
    ·exact ⟨g1 + 1, _, by rw [evS, if_neg hf, hes]; dsimp only; rw [h1]; dsimp only; rw [if_neg q1, if_neg q3, if_neg q4, if_neg q5, if_neg q6, if_pos q7]⟩
    exact ⟨g1 + 1, _, by rw [evS, if_neg hf, hes]; dsimp only; rw [h1]; dsimp only; rw [if_neg q1, if_neg q3, if_neg q4, if_neg q5, if_neg q6, if_neg q7]⟩
theorem tot_w {fs : List Tf} (hF : VF fs) {n : Nat} (hT : ∀ k, n = k + 1 → Tot fs k) (hb : ∀ d vs l s, VYs fs l → okVs vs → okMs s → s.fuel ≤ (n : Int) → ∃ g r, evB g fs d vs l s = some r) (d : Nat) (vs : Vs) (e : Tx) (l : List Ty) (v : Int) (s : Ms) (he : VX fs e) (hl : VYs fs l) (hv : okVs vs) (hs : okMs s) (hn : s.fuel ≤ (n : Int)) : ∃ g r, evW g fs d vs e l v s = some r := by
 by_cases q : v = 0
 ·exact ⟨1, _, by rw [evW, if_pos q]⟩
 ·obtain ⟨g1, r1, h1⟩ := hb d vs l s hl hv hs hn
  cases r1 with
  | err z => exact ⟨g1 + 1, .err z, by rw [evW, if_neg q, h1]⟩
  | ok p s1 =>
   obtain ⟨vs1, ro⟩ := p
   obtain ⟨k1, _, k3⟩ := (ev_ok hF g1).b d vs l s _ s1 hl hv hs h1
   cases ro with
   | some y => exact ⟨g1 + 1, .ok (vs1, some y) s1, by rw [evW, if_neg q, h1]⟩
   | none =>
    obtain ⟨g2, r2, h2⟩ := tot_x hF hT d vs1 e s1 he k1 k3.ok (Int.le_trans k3.fl hn)
    cases r2 with
    | err z => exact ⟨g1 + g2 + 1, .err z, by rw [evW, if_neg q, mono_b (by omega : g1 ≤ g1 + g2) h1]; dsimp only; rw [mono_x (by omega : g2 ≤ g1 + g2) h2]⟩
    | ok w s2 =>
     have hc := evX_cost hF he k1 k3.ok h2
     have k5 := k3.fl
     by_cases hz : s2.fuel ≤ 0 ∧ n = 0
     ·exfalso
      have h3 := hz.2
      -- with no units left the condition would have failed
      cases g2 with
      | zero => simp [evX] at h2
      | succ g2 => rw [evX, if_pos (by omega)] at h2; simp at h2
     ·by_cases hn0 : n = 0
      ·exfalso
       cases g2 with
       | zero => simp [evX] at h2
       | succ g2 => rw [evX, if_pos (by omega)] at h2; simp at h2
      ·obtain ⟨k, rfl⟩ : ∃ k, n = k + 1 := ⟨n - 1, by omega⟩
       obtain ⟨g3, r3, h3⟩ := (hT k rfl).w d vs1 e l w s2 he hl k1 ((ev_ok hF g2).x d vs1 e s1 w s2 he k1 k3.ok h2).2.ok (by omega)
       refine ⟨g1 + g2 + g3 + 1, r3, ?_⟩
       rw [evW, if_neg q, mono_b (by omega : g1 ≤ g1 + g2 + g3) h1]
       dsimp only
       rw [mono_x (by omega : g2 ≤ g1 + g2 + g3) h2]
       exact mono_w (by omega : g3 ≤ g1 + g2 + g3) h3
theorem tot_of {fs : List Tf} (hF : VF fs) {n : Nat} (hT : ∀ k, n = k + 1 → Tot fs k) : Tot fs n := by
 have hx := tot_x hF hT
 have hb := tot_b hF (n := n) (tot_s hF hT)
 refine ⟨hx, tot_k hF hx, hb, fun d f al s hf ha hs hn => ?_, tot_w hF hT hb⟩
 by_cases hd : d = 12
 ·exact ⟨1, .err 26, by rw [evC, if_pos hd]⟩
 ·obtain ⟨g1, r1, h1⟩ := hb (d + 1) (vbind [] f.ps al) f.body s (hF f hf).2.2 (okVs.bind _ _ (fun p hp => by simp at hp) ha) hs hn
  cases r1 with
  | err z => exact ⟨g1 + 1, .err z, by rw [evC, if_neg hd, h1]⟩
  | ok p s1 => exact ⟨g1 + 1, _, by rw [evC, if_neg hd, h1]⟩
/-- Everything ends. -/
theorem tot {fs : List Tf} (hF : VF fs) : ∀ n, Tot fs n
 | 0 => tot_of hF fun k h => by omega
 | n + 1 => tot_of hF fun k h => by
  obtain rfl : k = n := by omega
  exact tot hF k
/-- A frame with more deferred calls. -/
def more (ds : List Deferred) (a : Act) : Act := { a with defers := a.defers ++ ds }
theorem more_put (ds : List Deferred) (a : Act) (d : Option Nat) (v : Value) : (more ds a).put d v = more ds (a.put d v) := by
 unfold more Act.put
 cases d <;> rfl
theorem upon_more (P : Program) (ds : List Deferred) (o : Oper) (a : Act) (next : Act → World → Prop) (Q : Exit → Act → World → Prop) (r : Result Next)
  (h : o.upon P a (fun a w => next (more ds a) w) (fun e a w => Q e (more ds a) w) r) : o.upon P (more ds a) next Q r := by
 unfold Oper.upon at h ⊢
 split at h
 ·rw [more_put]; exact h
 ·rw [more_put]; exact h
 ·rename_i d w'
  rw [← more_put] at h
  exact h
 ·refine h.mono ?_
  intro e w' he
  cases e with
  | returned v => dsimp only at he ⊢; rw [more_put]; exact he
  | panicked c => exact he
  | outgrown =>
   obtain ⟨a', w'', hq⟩ := he
   exact ⟨_, w'', hq⟩
 ·simpa only [more_put] using h
 ·exact h
 ·exact h
theorem wpOps_more (P : Program) (ds : List Deferred) (ops : Array Oper) (Q : Exit → Act → World → Prop) : ∀ (l : List Nat) (a : Act) (w : World), wpOps P ops (fun e a w => Q e (more ds a) w) l a w → wpOps P ops Q l (more ds a) w
 | [], a, w, h => h
 | i :: rest, a, w, h => by
  unfold wpOps at h ⊢
  split at h
  ·rename_i hn
   exact wpOps_more P ds ops Q rest a w h
  ·rename_i o ho
   split at h
   ·rename_i hw
    have hw' : Region.wanted o (yielded ops (more ds a).tmps) = true := hw
    rw [if_pos hw']
    rcases h with h | ⟨h1, a', w', h2⟩
    ·left
     have himp : ∀ a w, wpOps P ops (fun e a w => Q e (more ds a) w) rest a w → wpOps P ops Q rest (more ds a) w := wpOps_more P ds ops Q rest
     exact upon_more P ds o a _ Q _ (Oper.wp_mono himp h)
    ·right
     exact ⟨h1, _, w', h2⟩
   ·rename_i hw
    have hw' : ¬ Region.wanted o (yielded ops (more ds a).tmps) = true := hw
    rw [if_neg hw', more_put]
    exact wpOps_more P ds ops Q rest _ w h
section
variable {P : Program} {N : Nat} {w0 : World} {M H : Nat → Prop} {E : Env} {Γ R : Ctx} {Q : Exit → Act → World → Prop} {ds : List Deferred}
/-- The same as At, for a frame that has deferred calls. -/
def AtD (ds : List Deferred) (N : Nat) (w0 : World) (M H : Nat → Prop) (E : Env) (Γ R : Ctx) (Rel : Act → World → Prop) : Prop :=
 At N w0 M H E Γ R fun a w => Rel (more ds a) w
theorem wpOps_of_list {l : List Oper} {a : Act} {w : World} (h : wpList P l.toArray Q l a w) : wpOps P l.toArray Q (List.range l.toArray.size) a w := by
 have := wpOps_eq_wpList (P := P) (ops := l.toArray) (Q := Q) l 0 (fun j => by simp)
 rw [List.range_eq_range', List.size_toArray, this]
 exact h
theorem r_regionD {id : Nat} {l : List Oper} (h : At N w0 M H E Γ R (wpList P l.toArray (fun e a w => Q e (more ds a) w) l)) : AtD ds N w0 M H E Γ R ((Code.region id l.toArray false).wp P Q) := fun a w hE hC =>
 wp_region (wpOps_more P ds l.toArray Q _ a w (wpOps_of_list (h a w hE hC)))
theorem r_seqD {x y : Code} (h : AtD ds N w0 M H E Γ R (x.wp P (XT (y.wp P Q) Q))) : AtD ds N w0 M H E Γ R ((Code.seq x y).wp P Q) := fun a w hE hC => by
 have := h a w hE hC
 refine wp_seq (Code.wp_mono (fun e a w hq => ?_) this)
 cases e <;> exact hq
/-- A call of a closure is deferred. -/
theorem r_defer {ops : Array Oper} {rest : List Oper} {T : TypeId} {ps : String} {af : Array Edge} {f : Operand} {n : Nat} {cap : Array Value} (hf : ev E f = some (.func (.func n) #[] cap)) (k : AtD [{ target := .fn (.func n) cap, args := #[] }] N w0 M H E Γ R (Q .normal)) :
  At N w0 M H E Γ R (wpList P ops Q [⟨none, .defer { callee := .value f, args := #[], argTypes := #[] }, T, ps, af, none⟩]) := by
 intro a w hE hC
 unfold wpList
 rw [if_pos (by simp [Region.wanted])]
 left
 unfold Oper.wp
 have hrun : (execOp a.eval ⟨none, .defer { callee := .value f, args := #[], argTypes := #[] }, T, ps, af, none⟩).run P w = .ok (.defer { target := .fn (.func n) cap, args := #[] }) w := by
  simp [execOp, resolve, hE.ev hf, Deferred.ofValue]
 rw [hrun]
 have := k a w hE hC
 show Q .normal ({ a with defers := _ :: a.defers } : Act) w
 have hd := hE.defers
 rw [hd]
 have hm : more [{ target := Target.fn (Fn.func n) cap, args := #[] }] a = { a with defers := [{ target := Target.fn (Fn.func n) cap, args := #[] }] } := by
  unfold more
  rw [hd]
  rfl
 dsimp only at this
 rw [hm] at this
 exact this
/-- A return before anything was deferred. -/
theorem r_ret0D {fn : Func} {rv : Array ResultVar} {u : Value} {X : Type} {φ : X → Prop} {v : X → Fin} {L' R' : X → List Asn} (x : X) (hφ : φ x) (hr : fn.results = rv) (hrs : RS P N w0 M H E Γ R rv u) (hu : .ret u = v x)
  (ks : List Nat) (rs : List Nat) (hnd : ndB ks = true) (hL : cgets Γ ks = somes (L' x)) (hR : cgets R rs = somes (R' x)) : At N w0 M H E Γ R (bodyPostD P fn (RetE w0 M H φ v L' R') .ret) := fun a w hE hC => by
 show Leaves P fn a.tmps _ a.defers .returning w
 rw [hE.defers]
 exact ⟨u, hrs fn a w hr hE hC, x, hφ, by rw [← hu]; rfl, hC.toL ks hnd hL rs hR⟩
/-- A return, where one closure is deferred that turns nothing then. -/
theorem r_ret1D {fn : Func} {n : Nat} {cap : Array Value} {rv : Array ResultVar} {u : Value} {X : Type} {φ : X → Prop} {v : X → Fin} {L' R' : X → List Asn} (hcl : ∀ w, COk w0 M H Γ R w → CallsD P n cap .returning w fun e u' w' => u' = .returning ∧ e = .returned (.tuple #[]) ∧ COk w0 M H Γ R w') (hcb : Cb P n)
  (x : X) (hφ : φ x) (hr : fn.results = rv) (hrs : RS P N w0 M H E Γ R rv u) (hu : .ret u = v x)
  (ks : List Nat) (rs : List Nat) (hnd : ndB ks = true) (hL : cgets Γ ks = somes (L' x)) (hR : cgets R rs = somes (R' x)) : AtD [{ target := .fn (.func n) cap, args := #[] }] N w0 M H E Γ R (bodyPostD P fn (RetE w0 M H φ v L' R') .ret) := fun a w hE hC => by
 show Leaves P fn (more _ a).tmps _ (more _ a).defers .returning w
 unfold more
 rw [hE.defers]
 refine ⟨by simp, .func n, cap, n, cap, rfl, ?_, ?_⟩
 ·simp [invoke, run_callFunc hcb]
 ·have h := hcl w hC
  intro c cs hc
  obtain ⟨e, u', w', fr, ⟨h1, h2, h3⟩, h4, h5, h6⟩ := h c cs hc
  refine ⟨e, u', w', fr, ?_, h4, h5, h6⟩
  subst h1 h2
  exact ⟨u, hrs fn a w' hr hE h3, x, hφ, by rw [← hu]; rfl, h3.toL ks hnd hL rs hR⟩
/-- A panic, where one closure is deferred that recovers it. -/
theorem r_out1D {fn : Func} {n : Nat} {cap : Array Value} {pv : Value} {rv : Array ResultVar} {u : Value} {X : Type} {φ : X → Prop} {v : X → Fin} {L' R' : X → List Asn} {Γ' : Ctx}
  (hcl : ∀ w, COk w0 M H Γ R w → CallsD P n cap (.panicking [{ v := pv, recovered := false }]) w fun e u' w' => u' = .panicking [{ v := pv, recovered := true }] ∧ e = .returned (.tuple #[]) ∧ COk w0 M H Γ' R w') (hcb : Cb P n)
  (x : X) (hφ : φ x) (hr : fn.results = rv) (hrs : RS P N w0 M H E Γ' R rv u) (hu : .ret u = v x)
  (ks : List Nat) (rs : List Nat) (hnd : ndB ks = true) (hL : cgets Γ' ks = somes (L' x)) (hR : cgets R rs = somes (R' x)) : AtD [{ target := .fn (.func n) cap, args := #[] }] N w0 M H E Γ R (bodyPostD P fn (RetE w0 M H φ v L' R') (.panic [{ v := pv, recovered := false }])) := fun a w hE hC => by
 show Leaves P fn (more _ a).tmps _ (more _ a).defers (.panicking _) w
 unfold more
 rw [hE.defers]
 refine ⟨by simp, .func n, cap, n, cap, rfl, ?_, ?_⟩
 ·simp [invoke, run_callFunc hcb]
 ·have h := hcl w hC
  intro c cs hc
  obtain ⟨e, u', w', fr, ⟨h1, h2, h3⟩, h4, h5, h6⟩ := h c cs hc
  refine ⟨e, u', w', fr, ?_, h4, h5, h6⟩
  subst h1 h2
  exact ⟨u, hrs fn a w' hr hE h3, x, hφ, by rw [← hu]; rfl, h3.toL ks hnd hL rs hR⟩
end
theorem of_at {P : Program} {N : Nat} {w0 : World} {M H : Nat → Prop} {E : Env} {Γ R : Ctx} {c : Code} {Q : Exit → Act → World → Prop} {a : Act} {w : World} (hE : EOk N E a) (hC : COk w0 M H Γ R w) (h : At N w0 M H E Γ R (c.wp P Q)) : c.wp P Q a w := h a w hE hC
section
variable {N : Nat} {w0 : World} {M H : Nat → Prop} {E : Env} {Γ R : Ctx}
theorem p_nilIs {S' : TypeId} {x : Operand} (hx : ev E x = some .nilIface) : PR Tryz.prog N w0 M H E Γ R (.binOp .eql 20 x (.const .nilIface) S') (.bool true) := fun _ _ _ a w hE _ _ _ => by
 have h : (do eqGuard .eql 20 x (.const .nilIface) .nilIface .nilIface; binOp .eql 20 .nilIface .nilIface : Sem Value).run Tryz.prog w = .ok (.bool true) w := by
  have h2 : (Op.equal 20 .nilIface .nilIface).run Tryz.prog w = .ok true w := by kernel_rfl
  simp [eqGuard, binOp, h2]
 simp only [execOp, hE.ev hx, hE.ev (x := .const .nilIface) rfl, Sem.run_bind] at h ⊢
 rw [h]; rfl
theorem p_nilNot {S' T : TypeId} {v : Value} {x : Operand} (hx : ev E x = some (.iface T v)) : PR Tryz.prog N w0 M H E Γ R (.binOp .eql 20 x (.const .nilIface) S') (.bool false) := fun _ _ _ a w hE _ _ _ => by
 have h : (do eqGuard .eql 20 x (.const .nilIface) (.iface T v) .nilIface; binOp .eql 20 (.iface T v) .nilIface : Sem Value).run Tryz.prog w = .ok (.bool false) w := by
  have h2 : (Op.equal 20 (.iface T v) .nilIface).run Tryz.prog w = .ok false w := by kernel_rfl
  simp [eqGuard, binOp, h2]
 simp only [execOp, hE.ev hx, hE.ev (x := .const .nilIface) rfl, Sem.run_bind] at h ⊢
 rw [h]; rfl
end
set_option maxHeartbeats 4000000 in
set_option maxRecDepth 100000 in
theorem run1_ret {w0 : World} {M H : Nat → Prop} {Γ R : Ctx} (b6 b7 b8 : Nat) (w : World) (hC : COk w0 M H Γ R w) : CallsD Tryz.prog 44 #[.pointer (some ⟨b6, 0, none⟩), .pointer (some ⟨b7, 0, none⟩), .pointer (some ⟨b8, 0, none⟩)] .returning w fun e u' w' => u' = .returning ∧ e = .returned (.tuple #[]) ∧ COk w0 M H Γ R w' := by
 refine callsD_of_wpS Tryz.func44 rfl fun c₀ cs hu => ?_
 apply wpS_seq
 apply wpS_region
 simp [wpOpsS, go_sem, recoverD, hu, Tryz.ntmps44, Exit.thenS]
 refine wpS_of_wp ?_
 refine of_at (N := 19) (E := [(3, .nilIface)]) ⟨rfl, by simp, fun t u ht => ?_⟩ hC ?_
 ·simp only [eget] at ht
  cases hb : Nat.beq 3 t with
  | true =>
   rw [hb] at ht
   have := Nat.eq_of_beq_eq_true hb
   subst this
   simp at ht
   subst ht
   rfl
  | false => rw [hb] at ht; simp at ht
 refine r_seq (r_seq (r_region (r_p (p_move rfl) rfl ?_)))
 refine r_p (p_nilIs rfl) rfl ?_
 refine r_nil ?_
 refine r_cond rfl (fun h1 => ?_) (fun h1 => absurd h1 (by simp))
 refine r_cret ?_
 intro a w' hE hC'
 show a.defers = [] ∧ _
 refine ⟨hE.defers, c₀.mode, rfl, .tuple #[], ?_, hu, rfl, hC'⟩
 exact results_none rfl _ _ _
section
variable {N : Nat} {w0 : World} {M H : Nat → Prop} {E : Env} {Γ R : Ctx}
theorem r_forget (k : Nat) {A : Asn} {Rel : Act → World → Prop} (hk : cget Γ k = some A) (h : At N w0 M H E ((k, emp) :: Γ) R Rel) : At N w0 M H E Γ R Rel :=
 h.weak (fun _ h => h) fun w hC => hC.upd hk fun G hG hlt => ⟨fun _ => False, fun _ h => h, fun _ h => h.elim, Touch.refl _ _⟩
theorem p_assertOk {v : Value} {x : Operand} (hx : ev E x = some (.iface 103 v)) : PR Tryz.prog N w0 M H E Γ R (.typeAssert x 20 103 true) (.tuple #[v, .bool true]) := fun _ _ _ a w hE _ _ _ => by
 have h : (Instr.typeAssert (.iface 103 v) 20 103 true).run Tryz.prog w = .ok (.tuple #[v, .bool true]) w := by kernel_rfl
 simp [execOp, hE.ev hx, h]
end
set_option maxHeartbeats 8000000 in
set_option maxRecDepth 100000 in
theorem run1_pan {w0 : World} {M H : Nat → Prop} {R : Ctx} (b6 b7 b8 : Nat) (c6 c7 c8 : Value) (Γ : Ctx) (z : Int) (w : World) (hC : COk w0 M H ((6, row b6 23 [c6]) :: (7, row b7 23 [c7]) :: (8, row b8 40 [c8]) :: Γ) R w) : CallsD Tryz.prog 44 #[.pointer (some ⟨b6, 0, none⟩), .pointer (some ⟨b7, 0, none⟩), .pointer (some ⟨b8, 0, none⟩)] (.panicking [{ v := fail z, recovered := false }]) w fun e u' w' => u' = .panicking [{ v := fail z, recovered := true }] ∧ e = .returned (.tuple #[]) ∧ COk w0 M H ((4, emp) :: (8, row b8 40 [.int .i64 z]) :: (7, row b7 23 [sv nilS]) :: (6, row b6 23 [sv nilS]) :: Γ) R w' := by
 refine callsD_of_wpS Tryz.func44 rfl fun c₀ cs hu => ?_
 apply wpS_seq
 apply wpS_region
 simp [wpOpsS, go_sem, recoverD, hu, Tryz.ntmps44, Exit.thenS]
 refine wpS_of_wp ?_
 refine of_at (N := 19) (E := [(3, fail z), (0, .pointer (some ⟨b6, 0, none⟩)), (1, .pointer (some ⟨b7, 0, none⟩)), (2, .pointer (some ⟨b8, 0, none⟩))]) ⟨rfl, by simp, fun t u ht => ?_⟩ hC ?_
 ·simp only [eget] at ht
  cases q3 : Nat.beq 3 t with
  | true => rw [q3] at ht; have := Nat.eq_of_beq_eq_true q3; subst this; simp at ht; subst ht; rfl
  | false =>
   rw [q3] at ht
   cases q0 : Nat.beq 0 t with
   | true => rw [q0] at ht; have := Nat.eq_of_beq_eq_true q0; subst this; simp at ht; subst ht; rfl
   | false =>
    rw [q0] at ht
    cases q1 : Nat.beq 1 t with
    | true => rw [q1] at ht; have := Nat.eq_of_beq_eq_true q1; subst this; simp at ht; subst ht; rfl
    | false =>
     rw [q1] at ht
     cases q2 : Nat.beq 2 t with
     | true => rw [q2] at ht; have := Nat.eq_of_beq_eq_true q2; subst this; simp at ht; subst ht; rfl
     | false => rw [q2] at ht; simp at ht
 refine r_seq (r_seq (r_region (r_p (p_move rfl) rfl ?_)))
 refine r_p (p_nilNot rfl) rfl ?_
 refine r_nil ?_
 refine r_cond rfl (fun h1 => ?_) (fun h1 => ?_)
 ·exact absurd h1 (by simp)
 ·(try simp only [decide_eq_true_eq, decide_eq_false_iff_not, Bool.and_eq_true, Bool.or_eq_true, Bool.and_eq_false_iff, Bool.or_eq_false_iff, Bool.not_eq_true, Bool.not_eq_false, Bool.not_eq_true', Bool.not_eq_false', Bool.not_not, bne_iff_ne, beq_iff_eq] at h1)
  refine r_skip (r_seq (r_region (r_p (p_move rfl) rfl ?_)))
  refine r_p (p_assertOk rfl) rfl ?_
  refine r_p (p_move rfl) rfl ?_
  refine r_p (p_extract rfl rfl) rfl ?_
  refine r_p (p_extract rfl rfl) rfl ?_
  refine r_alloc t103 rfl rfl fun b4 => ?_
  refine r_store_all (k := 4) t103 rfl rfl rfl rfl rfl rfl ?_
  refine r_p (p_assign rfl) rfl (r_nil (r_seq (r_seq (r_region (r_p (p_move rfl) rfl ?_)))))
  refine r_p (p_not rfl) rfl ?_
  refine r_nil ?_
  refine r_cond rfl (fun h2 => ?_) (fun h2 => ?_)
  ·exact absurd h2 (by simp)
  ·(try simp only [decide_eq_true_eq, decide_eq_false_iff_not, Bool.and_eq_true, Bool.or_eq_true, Bool.and_eq_false_iff, Bool.or_eq_false_iff, Bool.not_eq_true, Bool.not_eq_false, Bool.not_eq_true', Bool.not_eq_false', Bool.not_not, bne_iff_ne, beq_iff_eq] at h2)
   refine r_skip ?_
   refine r_drawM [0, 1, 2, 3, 4] [2, 3, 0, 1, 4] [17, 18] _ rfl rfl rfl (stg_mem0 (V := [(0, 17, _), (1, 18, _)]) [0, 1] 2 [2] [] (fun _ => []) rfl rfl (prs_cons (pri rfl (p_field0 fo103_0 rfl)) (prs_cons (pri rfl (p_load1 t40 rfl rfl (g_row1 (k := 4) rfl rfl))) prs_nil)) rfl rfl rfl rfl rfl rfl rfl rfl rfl (fun _ _ => rfl) rfl (ms_store_row (k := 6) t23 rfl rfl rfl rfl rfl rfl rfl rfl) (fun _ _ => stg_mem0 [0, 1] 3 [3, 2] [] (fun _ => []) rfl rfl (prs_cons (pri rfl (p_field0 fo103_0 rfl)) (prs_cons (pri rfl (p_load1 t40 rfl rfl (g_row1 (k := 4) rfl rfl))) prs_nil)) rfl rfl rfl rfl rfl rfl rfl rfl rfl (fun _ _ => rfl) rfl (ms_store_row (k := 7) t23 rfl rfl rfl rfl rfl rfl rfl rfl) (fun _ _ => stg_mem0 [0, 1] 4 [4, 3, 2, 1, 0] [] (fun _ => []) rfl rfl (prs_cons (pri rfl (p_field0 fo103_0 rfl)) (prs_cons (pri rfl (p_load1 t40 rfl rfl (g_row1 (k := 4) rfl rfl))) prs_nil)) rfl rfl rfl rfl rfl rfl rfl rfl rfl (fun _ _ => rfl) rfl (ms_store_row (k := 8) t40 rfl rfl rfl rfl rfl rfl rfl rfl) (fun _ _ => stg_end [] rfl rfl prs_nil rfl rfl rfl ?_))))
   refine r_forget 4 rfl ?_
   intro a w2 hE hC2
   have hg : cget ((4, emp) :: (8, row b8 40 [.int .i64 z]) :: (7, row b7 23 [sv nilS]) :: (6, row b6 23 [sv nilS]) :: (4, row b4 103 [.int .i64 z]) :: (4, row b4 103 [.int .i64 0]) :: (6, row b6 23 [c6]) :: (7, row b7 23 [c7]) :: (8, row b8 40 [c8]) :: Γ) = cget ((4, emp) :: (8, row b8 40 [.int .i64 z]) :: (7, row b7 23 [sv nilS]) :: (6, row b6 23 [sv nilS]) :: Γ) := by
    funext k
    simp only [cget]
    cases Nat.beq 4 k <;> cases Nat.beq 8 k <;> cases Nat.beq 7 k <;> cases Nat.beq 6 k <;> rfl
   have hC3 : COk w0 M H ((4, emp) :: (8, row b8 40 [.int .i64 z]) :: (7, row b7 23 [sv nilS]) :: (6, row b6 23 [sv nilS]) :: (4, row b4 103 [.int .i64 z]) :: (4, row b4 103 [.int .i64 0]) :: (6, row b6 23 [c6]) :: (7, row b7 23 [c7]) :: (8, row b8 40 [c8]) :: Γ) R w2 := hC2
   unfold COk at hC3
   rw [hg] at hC3
   exact ⟨hE.defers, .panicking [{ v := fail z, recovered := true }], rfl, .tuple #[], results_none rfl _ _ _, rfl, rfl, hC3⟩
theorem bin_some {nm : ByteArray} (h : isBin nm = true) (a b : Int) : (biF nm a b).isSome = true := by
 unfold isBin at h
 obtain ⟨p, hp⟩ := Option.isSome_iff_exists.1 h
 have h1 := List.mem_of_find?_eq_some hp
 have h2 := List.find?_some hp
 have h2 : p.1 = nm := by simpa using h2
 subst h2
 simp only [lvL, List.mem_cons, List.not_mem_nil, or_false] at h1
 rcases h1 with rfl | rfl | rfl | rfl | rfl | rfl | rfl | rfl | rfl | rfl | rfl | rfl | rfl | rfl | rfl | rfl <;> rfl
theorem un_some {nm : ByteArray} (h : memB nm unL = true) (a : Int) : (unF nm a).isSome = true := by
 unfold memB at h
 obtain ⟨p, h1, h2⟩ := List.any_eq_true.1 h
 have h2 : nm = p := by simpa using h2
 subst h2
 simp only [unL, List.mem_cons, List.not_mem_nil, or_false] at h1
 rcases h1 with rfl | rfl | rfl <;> rfl
theorem okX_cases {k : Int} {nm : ByteArray} {n : Nat} (h : okX k nm n = true) : (k = 1 ∧ n = 0) ∨ (k = 5 ∧ n = 0) ∨ (k = 2 ∧ n = 0) ∨ k = 3 ∨ (k = 4 ∧ n = 1) ∨ (k = 6 ∧ memB nm unL = true ∧ n = 1) ∨ (k = 7 ∧ isBin nm = true ∧ n = 2) := by
 unfold okX at h
 split at h
 ·rename_i hk
  simp only [Bool.and_eq_true, decide_eq_true_eq] at h
  rcases hk with hk | hk
  ·exact .inl ⟨hk, h.2⟩
  ·exact .inr (.inl ⟨hk, h.2⟩)
 ·split at h
  ·rename_i hk
   simp only [Bool.and_eq_true, decide_eq_true_eq] at h
   exact .inr (.inr (.inl ⟨hk, h.2⟩))
  ·split at h
   ·rename_i hk
    exact .inr (.inr (.inr (.inl hk)))
   ·split at h
    ·rename_i hk
     simp only [Bool.and_eq_true, decide_eq_true_eq] at h
     exact .inr (.inr (.inr (.inr (.inl ⟨hk, h.2⟩))))
    ·split at h
     ·rename_i hk
      simp only [Bool.and_eq_true, decide_eq_true_eq] at h
      exact .inr (.inr (.inr (.inr (.inr (.inl ⟨hk, h.1, h.2⟩)))))
     ·split at h
      ·rename_i hk
       simp only [Bool.and_eq_true, decide_eq_true_eq] at h
       exact .inr (.inr (.inr (.inr (.inr (.inr ⟨hk, h.1, h.2⟩)))))
      ·cases h
theorem call_fits {fs : List Tf} {ns : List ByteArray} {t : Tx} (h : nE fs ns t = 0) (hk : t.kind = 3) : ∃ f, ffind fs t.name = some f ∧ f.ps.length = t.kids.length := by
 cases hf : ffind fs t.name with
 | none => rw [nE_none hk hf] at h; cases h
 | some f =>
  rw [nE_some hk hf] at h
  refine ⟨f, rfl, ?_⟩
  split at h
  ·assumption
  ·cases h
mutual
theorem vx_of {fs : List Tf} {ns : List ByteArray} : ∀ t : Tx, GX t → rX t = true → eX fs ns t = 0 → VX fs t
 | .mk k n nm v kids, hg, hr, he => by
  have hr2 : (okX k nm kids.length && (decide (k = 1) || decide (n = 0)) && rXs kids) = true := hr
  simp only [Bool.and_eq_true] at hr2
  obtain ⟨⟨h1, _⟩, h3⟩ := hr2
  have he2 := eX_eq fs ns (.mk k n nm v kids)
  rw [he] at he2
  obtain ⟨e1, e2⟩ := fst_eq_zero.1 he2.symm
  have hc := okX_cases h1
  refine ⟨hg.1, hg.2.2.1, fun hk => by omega, fun hk => ?_, fun hk => ?_, fun k1 k2 k4 k5 k6 k7 => ?_, vxs_of kids hg.2.2.2 h3 e2⟩
  ·have : memB nm unL = true ∧ kids.length = 1 := by
    rcases hc with hc | hc | hc | hc | hc | ⟨_, hc, hn⟩ | hc
    ·omega
    ·omega
    ·omega
    ·omega
    ·omega
    ·exact ⟨hc, hn⟩
    ·omega
   exact ⟨by omega, un_some this.1⟩
  ·have : isBin nm = true ∧ kids.length = 2 := by
    rcases hc with hc | hc | hc | hc | hc | hc | ⟨_, hc, hn⟩
    ·omega
    ·omega
    ·omega
    ·omega
    ·omega
    ·omega
    ·exact ⟨hc, hn⟩
   exact ⟨by omega, bin_some this.1⟩
  ·have hk : k = 3 := by omega
   obtain ⟨f, hf1, hf2⟩ := call_fits e1 hk
   exact ⟨f, hf1, by rw [hf2]; exact Nat.le_refl _⟩
theorem vxs_of {fs : List Tf} {ns : List ByteArray} : ∀ l : List Tx, GXs l → rXs l = true → eXs fs ns l = 0 → VXs fs l
 | [], _, _, _ => trivial
 | t :: r, hg, hr, he => by
  have hr2 : (rX t && rXs r) = true := hr
  rw [Bool.and_eq_true] at hr2
  obtain ⟨e1, e2⟩ := fst_eq_zero.1 he
  exact ⟨vx_of t hg.1 hr2.1 e1, vxs_of r hg.2 hr2.2 e2⟩
end
theorem okY_es {k : Int} {nm : ByteArray} {ne nb nl : Nat} (h : okY k nm ne nb nl = true) : 1 ≤ k ∧ k ≤ 8 ∧ ne = (if k = 3 then 2 else 1) ∧ (k = 4 ∨ k = 5 ∨ nb = 0) ∧ (k = 4 ∨ nl = 0) := by
 unfold okY at h
 simp only [Bool.and_eq_true, Bool.or_eq_true, decide_eq_true_eq] at h
 obtain ⟨⟨⟨⟨⟨h1, h2⟩, h3⟩, h4⟩, h5⟩, h6⟩ := h
 exact ⟨h1, h2, h3, by rcases h5 with (h | h) | h; exact .inl h; exact .inr (.inl h); exact .inr (.inr h), h6⟩
mutual
theorem vy_of {fs : List Tf} : ∀ (ns : List ByteArray) (t : Ty), GY t → rY t = true → (bY fs ns t).2 = 0 → VY fs t
 | ns, .mk k nm ve es vb body vl els, hg, hr, he => by
  have hr2 : (okY k nm es.length body.length els.length && rXs es && rYs body && rYs els) = true := hr
  simp only [Bool.and_eq_true] at hr2
  obtain ⟨⟨⟨h1, h2⟩, h3⟩, h4⟩ := hr2
  have hk := okY_es h1
  rw [bY_eq] at he
  obtain ⟨e1, he⟩ := fst_eq_zero.1 he
  obtain ⟨e2, he⟩ := fst_eq_zero.1 he
  obtain ⟨e3, he⟩ := fst_eq_zero.1 he
  obtain ⟨e4, e5⟩ := fst_eq_zero.1 he
  have hes : es.length = if k = 3 then 2 else 1 := hk.2.2.1
  exact ⟨⟨by rw [hes]; split <;> omega, hg.2.1.1, fun h3 => by rw [hes, if_pos h3]; exact Nat.le_refl _, vxs_of es hg.2.1.2 h2 e2⟩, ⟨hg.2.2.1.1, vys_of _ body hg.2.2.1.2 h3 e4⟩, hg.2.2.2.1, vys_of _ els hg.2.2.2.2 h4 e5⟩
theorem vys_of {fs : List Tf} : ∀ (ns : List ByteArray) (l : List Ty), GYs l → rYs l = true → (bYs fs ns l).2 = 0 → VYs fs l
 | _, [], _, _, _ => trivial
 | ns, t :: r, hg, hr, he => by
  have hr2 : (rY t && rYs r) = true := hr
  rw [Bool.and_eq_true] at hr2
  obtain ⟨e1, e2⟩ := fst_eq_zero.1 he
  exact ⟨vy_of ns t hg.1 hr2.1 e1, vys_of _ r hg.2 hr2.2 e2⟩
end
theorem chkFs_mem {fs : List Tf} : ∀ {l : List Tf}, chkFs fs l = 0 → ∀ f ∈ l, chkF fs f = 0
 | [], _, f, hf => by simp at hf
 | g :: r, h, f, hf => by
  obtain ⟨h1, h2⟩ := fst_eq_zero.1 h
  rcases List.mem_cons.1 hf with rfl | hf
  ·exact h1
  ·exact chkFs_mem h2 f hf
/-- What follows from a check without an error. -/
structure Fine (fs : List Tf) (f : Tf) : Prop where
 vf : VF fs
 main : ffind fs nMain = some f
 noP : f.ps = []
 len : fs.length ≤ 16
 once : ∀ (i : Nat) (f : Tf), fs[i]? = some f → fix fs f.name = (i : Int)
 each : ∀ f ∈ fs, chkF fs f = 0
theorem chk_fine {fs : List Tf} (hg : GP fs) (h : chk fs = 0) : ∃ f, Fine fs f := by
 unfold chk at h
 split at h
 ·cases h
 ·rename_i h1
  split at h
  ·cases h
  ·rename_i h2
   split at h
   ·cases h
   ·rename_i h3
    split at h
    ·cases h
    ·rename_i f hf
     split at h
     ·cases h
     ·rename_i h4
      have h1 : rP fs = true := by simpa using h1
      have h3 : once fs = true := by simpa using h3
      have hr := List.all_eq_true.1 h1
      have he := chkFs_mem h
      refine ⟨f, fun g hgm => ?_, hf, List.eq_nil_of_length_eq_zero (by omega), by omega, once_iff.1 h3, he⟩
      obtain ⟨g1, g2, g3, g4, g5, g6⟩ := hg.2 g hgm
      have hrg := hr g hgm
      unfold rF at hrg
      simp only [Bool.and_eq_true] at hrg
      have heg := he g hgm
      rw [chkF_eq] at heg
      have h6 := (fst_eq_zero.1 (fst_eq_zero.1 heg).2).2
      exact ⟨g3, g4, vys_of _ g.body g5 hrg.2 h6⟩
/-- The first state. -/
def ms0 (ins : List Int) (fuel : Int) : Ms := ⟨ins, [], fun _ => 0, fuel⟩
theorem ms0_ok {ins : List Int} {fuel : Int} (hi : ∀ x ∈ ins, oW x) (hf : fuel ≤ 1000000000000) : okMs (ms0 ins fuel) := ⟨hi, fun _ => oW0, by show fuel < _; omega, by show ((0 : Nat) : Int) + max fuel 0 ≤ _; omega⟩
/-- What Run gives: the error, the outputs, mem. -/
structure Ru where
 err : Int
 out : List Int
 mem : List Int
def ruOf : Re Int → Ru
 | .ok _ s => ⟨0, s.out, (List.range 256).map s.mem⟩
 | .err z => ⟨z, [], []⟩
/-- The result of Run. -/
inductive RunIs (fs : List Tf) (ins : List Int) (fuel : Int) : Ru → Prop where
 | bad (h : chk fs ≠ 0) : RunIs fs ins fuel ⟨chk fs, [], []⟩
 | run (f : Tf) (g : Nat) (r : Re Int) (h : chk fs = 0) (hf : ffind fs nMain = some f) (he : evC g fs 0 f [] (ms0 ins fuel) = some r) : RunIs fs ins fuel (ruOf r)
theorem runIs_ex {fs : List Tf} (hg : GP fs) {ins : List Int} {fuel : Int} (hi : ∀ x ∈ ins, oW x) (hf : fuel ≤ 1000000000000) : ∃ r, RunIs fs ins fuel r := by
 by_cases h : chk fs = 0
 ·obtain ⟨f, hfn⟩ := chk_fine hg h
  have ht := tot hfn.vf fuel.toNat
  obtain ⟨g, r, hr⟩ := ht.c 0 f [] (ms0 ins fuel) (ffind_mem hfn.main) (by simp) (ms0_ok hi hf) (by show fuel ≤ _; omega)
  exact ⟨_, .run f g r h hfn.main hr⟩
 ·exact ⟨_, .bad h⟩
theorem runIs_fun {fs : List Tf} {ins : List Int} {fuel : Int} {r r' : Ru} (h : RunIs fs ins fuel r) (h' : RunIs fs ins fuel r') : r = r' := by
 cases h with
 | bad h =>
  cases h' with
  | bad => rfl
  | run f g q h2 => exact absurd h2 h
 | run f g q h hf he =>
  cases h' with
  | bad h2 => exact absurd h h2
  | run f2 g2 q2 h2 hf2 he2 =>
   rw [hf] at hf2
   cases hf2
   have h3 := mono_c (Nat.le_max_left g g2) he
   have h4 := mono_c (Nat.le_max_right g g2) he2
   rw [h3] at h4
   cases h4
   rfl
section
variable {P : Program} {N : Nat} {w0 : World} {M H : Nat → Prop} {E : Env} {Γ R : Ctx} {Q : Exit → Act → World → Prop} {ds : List Deferred}
theorem r_drawMD {id : Nat} {l : List Oper} (rt rg : List Nat) (dl : List Nat) (V : Vals) (h1 : topoM .any rt l = true) (h2 : topoM .text rt l = true) (h3 : topoM .gc rg l = true) (h : Stg P N w0 M H (edel dl E) Γ R l (fun e a w => Q e (more ds a) w) V []) : AtD ds N w0 M H E Γ R ((Code.region id l.toArray true).wp P Q) := by
 intro a w hE hC
 refine wp_region_draw fun t => wpOps_more P ds l.toArray Q _ a _ (h _ (fun _ => false) a _ (sched_ordM _ l rt rg h1 h2 h3 t) ⟨(fun i hi => by cases hi), (fun i hi => by simp at hi), (fun i o _ hi => by cases hi), hE.del dl, (fun i d v _ hi => by cases hi), hC.stay ⟨rfl, rfl, rfl, Nat.le_refl _, fun _ _ _ => rfl⟩⟩)
theorem r_cretD (h : AtD ds N w0 M H E Γ R (Q .ret)) : AtD ds N w0 M H E Γ R (Code.ret.wp P Q) := fun a w hE hC => wp_ret (h a w hE hC)
theorem r_enterD {n : Nat} {fn : Func} {c : Code} {vs : List Value} {L R0 : List Asn} {X : Type} {φ : X → Prop} {v : X → Fin} {L' R' : X → List Asn} (hf : P.funcs[n]? = some fn) (hb : fn.body = some c) (hN : fn.ntmps = N) (hv : Nat.ble vs.length N = true)
  (h : ∀ w0 M H, At N w0 M H (aenv 0 vs) (cenv 0 L) (cenv 0 R0) (c.wp P (bodyPostD P fn (RetE w0 M H φ v L' R')))) : SpecE P n vs L R0 φ v L' R' := by
 intro w M H hL
 have key : ∀ (K : Ending → World → Prop), At N w M H (aenv 0 vs) (cenv 0 L) (cenv 0 R0) (c.wp P (bodyPostD P fn K)) → Calls P n vs.toArray w K := fun K hK => by
  refine calls_of_wp_defers hf hb (hK _ _ ⟨rfl, ?_, fun t u ht => ?_⟩ ?_)
  ·simp only [Array.size_append, Array.size_replicate]
   have := Nat.le_of_ble_eq_true hv
   simp only [List.size_toArray]
   omega
  ·obtain ⟨h1, h2⟩ := aenv_get ht
   simp only [Nat.sub_zero] at h2
   rw [Array.getElem?_append_left (by have := (List.getElem?_eq_some_iff.1 h2).1; simpa using this)]
   simpa using h2
  ·obtain ⟨F, hF⟩ := hL
   refine ⟨F, hF.touch, fun k A hk => hF.has k A ?_, hF.lt, hF.mine, hF.apart, fun k A hk => hF.ro k A ?_⟩
   ·simpa using (cenv_get hk).2
   ·simpa using (cenv_get hk).2
 exact key _ (h w M H)
end
theorem flat_eU : ∀ l : List Int, l.flatMap eU = l.map fun x => Value.int .u32 x
 | [] => rfl
 | a :: r => by rw [List.flatMap_cons, flat_eU r]; rfl
theorem mC_sl {mf mu mb : Nat} {vi vo : SV} {mem : Nat → Int} {fuel d : Int} {rt : Bool} {val : Int} : ((mC mf mu mb vi vo mem fuel d rt val).drop 5).take (((List.range 256).map mem).flatMap eU).length = ((List.range 256).map mem).flatMap eU := by
 rw [flat_eU, List.map_map]
 show List.take _ ((List.range 256).map (fun i => Value.int .u32 (mem i)) ++ _) = _
 rw [List.take_append_of_le_length (by simp), List.take_of_length_le (by simp)]
 rfl
theorem perm_new {l : List Tf} {f : Tf} {i : Nat} (hu : ∀ (j : Nat) (f : Tf), l[j]? = some f → fix l f.name = (j : Int)) (hi : l[i]? = some f) : (f :: (l.take i).filter fun a => decide (a.name ≠ f.name)).Perm (l.take (i + 1)) := by
 have h1 : (l.take i).filter (fun a => decide (a.name ≠ f.name)) = l.take i := by
  rw [List.filter_eq_self]
  intro a ha
  obtain ⟨j, hj, rfl⟩ := List.mem_iff_getElem.1 ha
  rw [List.length_take] at hj
  rw [List.getElem_take]
  have hj2 : l[j]? = some l[j] := List.getElem?_eq_getElem (by omega)
  have e1 := hu j _ hj2
  have e2 := hu i _ hi
  simp only [ne_eq, decide_eq_true_eq]
  intro e
  rw [e] at e1
  omega
 rw [h1, take_snoc hi]
 exact List.perm_append_comm (l₁ := [f])
set_option maxHeartbeats 16000000 in
set_option maxRecDepth 100000 in
theorem run_bad (vp vin : SV) (fs : List Tf) (ins : List Int) (fuel : Int) (hg : GP fs) (hi : ∀ x ∈ ins, oW x) (hil : ins.length ≤ 1000000) (hf : -9000000000000000000 ≤ fuel ∧ fuel ≤ 1000000000000) (hc : chk fs ≠ 0) :
  SpecE Tryz.prog 15 [.agg #[sv vp], sv vin, .int .i64 fuel] [] [tfsA vp fs, sl 1 eU (sv vin) ins] (X := SV × SV) (fun _ => True) (fun x => .ret (.tuple #[sv x.1, sv x.2, .int .i64 (⟨chk fs, [], []⟩ : Ru).err])) (fun x => [own 36 1 eU (sv x.1) (⟨chk fs, [], []⟩ : Ru).out, own 36 1 eU (sv x.2) (⟨chk fs, [], []⟩ : Ru).mem]) (fun _ => []) := by
 refine r_enterD Tryz.func15 rfl Tryz.ntmps15 rfl fun w0 M H => ?_
 refine r_seq (r_region ?_)
 refine r_boxA rfl rfl fun b3 => ?_
 refine r_alloc t23 rfl rfl fun b6 => ?_
 refine r_alloc t23 rfl rfl fun b7 => ?_
 refine r_alloc t40 rfl rfl fun b8 => ?_
 refine r_nil (r_seq (r_region ?_))
 refine r_p (p_loadA t29 rfl rfl rfl (g_all (k := 3) rfl)) rfl ?_
 refine r_call (xs := [.tmp 12]) (check_spec vp fs hg) cb41 [] [(false, 0)] [] [] rfl rfl rfl rfl rfl rfl rfl rfl (fun _ _ => rfl) (fun _ _ _ => rfl) rfl (fun _ _ => ?_)
 refine r_store_row (k := 8) t40 rfl rfl rfl rfl rfl rfl rfl rfl ?_
 refine r_nil (r_seq (r_seq (r_region ?_)))
 refine r_p (p_load1 t40 rfl rfl (g_row1 (k := 8) rfl rfl)) rfl ?_
 refine r_p (p_bin rfl rfl b_ne) rfl ?_
 refine r_nil ?_
 refine r_cond rfl (fun h1 => ?_) (fun h1 => ?_)
 ·(try simp only [decide_eq_true_eq, decide_eq_false_iff_not, Bool.and_eq_true, Bool.or_eq_true, Bool.and_eq_false_iff, Bool.or_eq_false_iff, Bool.not_eq_true, Bool.not_eq_false, Bool.not_eq_true', Bool.not_eq_false', Bool.not_not, bne_iff_ne, beq_iff_eq] at h1)
  refine r_seq ?_
  refine r_drawM [0, 1, 2, 3] [0, 1, 2, 3] [16] _ rfl rfl rfl (stg_mem0 (V := [(0, 16, _)]) [0] 1 [1] [] (fun _ => []) rfl rfl (prs_cons (pri rfl (p_load1 t40 rfl rfl (g_row1 (k := 8) rfl rfl))) prs_nil) rfl rfl rfl rfl rfl rfl rfl rfl rfl (fun _ _ => rfl) rfl (ms_store_row (k := 6) t23 rfl rfl rfl rfl rfl rfl rfl rfl) (fun _ _ => stg_mem0 [0] 2 [2, 1] [] (fun _ => []) rfl rfl (prs_cons (pri rfl (p_load1 t40 rfl rfl (g_row1 (k := 8) rfl rfl))) prs_nil) rfl rfl rfl rfl rfl rfl rfl rfl rfl (fun _ _ => rfl) rfl (ms_store_row (k := 7) t23 rfl rfl rfl rfl rfl rfl rfl rfl) (fun _ _ => stg_mem0 [0] 3 [3, 2, 1, 0] [] (fun _ => []) rfl rfl (prs_cons (pri rfl (p_load1 t40 rfl rfl (g_row1 (k := 8) rfl rfl))) prs_nil) rfl rfl rfl rfl rfl rfl rfl rfl rfl (fun _ _ => rfl) rfl (ms_store_row (k := 8) t40 rfl rfl rfl rfl rfl rfl rfl rfl) (fun _ _ => stg_end [] rfl rfl prs_nil rfl rfl rfl ?_))))
  refine r_cret ?_
  refine r_nilown 20 (α := Int) (S := 36) (s := 1) (enc := eU) ?_
  refine r_nilown 21 (α := Int) (S := 36) (s := 1) (enc := eU) ?_
  refine r_ret0D (nilS, nilS) trivial rfl (rs3 (rv_cell1 t23 rfl rfl (g_row1 (k := 6) rfl rfl)) (rv_cell1 t23 rfl rfl (g_row1 (k := 7) rfl rfl)) (rv_cell1 t40 rfl rfl (g_row1 (k := 8) rfl rfl))) rfl [20, 21] [] rfl rfl rfl
 ·exact absurd (by simpa using h1) hc
theorem mR_0 (m mf mu mb : Nat) (vin : SV) (ins : List Int) (fs : List Tf) (fuel : Int) : mR ⟨m, mf, mu, mb, vin, ins, fs⟩ (ms0 ins fuel) nilS 0 false 0 = mC mf mu mb vin nilS (fun _ => 0) fuel 0 false 0 := by
 unfold mR ms0
 dsimp only
 rw [Nat.sub_self]
 rfl
set_option maxHeartbeats 16000000 in
set_option maxRecDepth 100000 in
theorem run_ok (vp vin : SV) (fs : List Tf) (ins : List Int) (fuel : Int) (hg : GP fs) (hi : ∀ x ∈ ins, oW x) (hil : ins.length ≤ 1000000) (hf : -9000000000000000000 ≤ fuel ∧ fuel ≤ 1000000000000) (hc : chk fs = 0) (f : Tf) (hm : Fine fs f) (g : Nat) (r : Re Int) (hr : evC g fs 0 f [] (ms0 ins fuel) = some r) :
  SpecE Tryz.prog 15 [.agg #[sv vp], sv vin, .int .i64 fuel] [] [tfsA vp fs, sl 1 eU (sv vin) ins] (X := SV × SV) (fun _ => True) (fun x => .ret (.tuple #[sv x.1, sv x.2, .int .i64 (ruOf r).err])) (fun x => [own 36 1 eU (sv x.1) (ruOf r).out, own 36 1 eU (sv x.2) (ruOf r).mem]) (fun _ => []) := by
 refine r_enterD Tryz.func15 rfl Tryz.ntmps15 rfl fun w0 M H => ?_
 refine r_more 0 2 rfl tfs_sl ?_
 have hfl := hg.1
 refine r_seq (r_region ?_)
 refine r_boxA rfl rfl fun b3 => ?_
 refine r_alloc t23 rfl rfl fun b6 => ?_
 refine r_alloc t23 rfl rfl fun b7 => ?_
 refine r_alloc t40 rfl rfl fun b8 => ?_
 refine r_nil (r_seq (r_region ?_))
 refine r_p (p_loadA t29 rfl rfl rfl (g_all (k := 3) rfl)) rfl ?_
 refine r_call (xs := [.tmp 12]) (check_spec vp fs hg) cb41 [] [(false, 0)] [] [] rfl rfl rfl rfl rfl rfl rfl rfl (fun _ _ => rfl) (fun _ _ _ => rfl) rfl (fun _ _ => ?_)
 refine r_store_row (k := 8) t40 rfl rfl rfl rfl rfl rfl rfl rfl ?_
 refine r_nil (r_seq (r_seq (r_region ?_)))
 refine r_p (p_load1 t40 rfl rfl (g_row1 (k := 8) rfl rfl)) rfl ?_
 refine r_p (p_bin rfl rfl b_ne) rfl ?_
 refine r_nil ?_
 refine r_cond rfl (fun h1 => ?_) (fun h1 => ?_)
 ·exact absurd hc (by simpa using h1)
 ·(try simp only [decide_eq_true_eq, decide_eq_false_iff_not, Bool.and_eq_true, Bool.or_eq_true, Bool.and_eq_false_iff, Bool.or_eq_false_iff, Bool.not_eq_true, Bool.not_eq_false, Bool.not_eq_true', Bool.not_eq_false', Bool.not_not, bne_iff_ne, beq_iff_eq] at h1)
  refine r_skip (r_seq (r_region ?_))
  refine r_makeMap Tf.name mkS tfV rfl fun b17 => ?_
  refine r_call (xs := []) unaries_spec cb42 [] [] [18] [] rfl rfl rfl rfl rfl rfl rfl rfl (fun _ _ => rfl) (fun _ _ _ => rfl) rfl (fun bu _ => ?_)
  refine r_call (xs := []) binaries_spec cb43 [] [] [19] [] rfl rfl rfl rfl rfl rfl rfl rfl (fun _ _ => rfl) (fun _ _ _ => rfl) rfl (fun bb _ => ?_)
  refine r_p (p_move rfl) rfl (r_p (p_move rfl) rfl ?_)
  refine r_p (p_build (cs := (mC b17 bu bb vin nilS (fun _ => 0) fuel 0 false 0).toArray) (parts := [(0, .tmp 17), (1, .tmp 18), (2, .tmp 19), (3, .tmp 20), (6, .tmp 21)]) t101 pl101 rfl (by kernel_rfl)) rfl ?_
  refine r_boxA rfl rfl fun b23 => ?_
  refine r_p (p_assign rfl) rfl (r_nil (r_seq (r_seq (r_region ?_))))
  refine r_p (p_field0 fo29_0 rfl) rfl ?_
  refine r_p (p_load1 t27 rfl rfl (g_row1 (k := 3) rfl rfl)) rfl ?_
  refine r_p (p_len_sl Tryz.underlying27 rfl (hs_sl (k := 2) rfl)) rfl ?_
  refine r_p (p_move rfl) rfl (r_nil (r_block ?_))
  refine r_loop (X := Nat) (fun i => i ≤ fs.length) (fun i => [(3, .pointer (some ⟨b3, 0, none⟩)), (6, .pointer (some ⟨b6, 0, none⟩)), (7, .pointer (some ⟨b7, 0, none⟩)), (8, .pointer (some ⟨b8, 0, none⟩)), (9, .pointer (some ⟨b23, 0, none⟩)), (25, sv vp), (26, .int .i64 (fs.length : Int)), (27, .int .i64 (i : Int))]) (fun i => [(3, row b3 29 [sv vp]), (6, row b6 23 [sv nilS]), (7, row b7 23 [sv nilS]), (8, row b8 40 [.int .i64 (chk fs)]), (17, mp mkS Tf.name tfV (some b17) (fs.take i)), (18, mp mkS Prod.fst vF (some bu) uL), (19, mp mkS Prod.fst vF (some bb) bL), (23, row b23 101 (mC b17 bu bb vin nilS (fun _ => 0) fuel 0 false 0))]) (fun i => [(0, tfsA vp fs), (1, sl 1 eU (sv vin) ins), (2, sl 3 eTf (sv vp) fs)]) (fun i => fs.length - i) 0 (Nat.zero_le _) rfl rfl rfl (fun i n1 => ?_)
  refine r_seq (r_region ?_)
  refine r_p (p_bin rfl rfl b_lt) rfl ?_
  refine r_nil (r_seq ?_)
  refine r_cond rfl (fun h2 => ?_) (fun h2 => ?_)
  ·(try simp only [decide_eq_true_eq, decide_eq_false_iff_not, Bool.and_eq_true, Bool.or_eq_true, Bool.and_eq_false_iff, Bool.or_eq_false_iff, Bool.not_eq_true, Bool.not_eq_false, Bool.not_eq_true', Bool.not_eq_false', Bool.not_not, bne_iff_ne, beq_iff_eq] at h2)
   have hi2 : i < fs.length := by omega
   obtain ⟨f2, hst⟩ : ∃ k, fs[i]? = some k := ⟨_, List.getElem?_eq_getElem hi2⟩
   refine r_skip (r_seq (r_block (r_seq (r_region ?_))))
   refine r_p (p_idx_sl (j := i) Tryz.underlying27 t63 rfl rfl (hs_sl (k := 2) rfl) (by first | rfl | omega) (by first | omega | (simp; done) | (simp; omega))) rfl ?_
   refine r_p (p_loadA t63 rfl rfl rfl (g_el' (hs_sl (k := 2) rfl) (by intro _; rfl) hst (by rfl))) rfl ?_
   refine r_alloc t63 rfl rfl fun b11 => ?_
   refine r_store_all (k := 11) t63 rfl rfl rfl rfl rfl rfl ?_
   refine r_nil ?_
   refine r_draw [31, 32, 33, 34, 35, 36, 37] _ rfl (stg_mem0 (V := [(0, 31, _), (1, 32, _), (2, 33, _), (3, 34, _), (4, 35, _), (5, 36, _), (6, 37, _)]) [0, 1, 2, 3, 4, 5, 6] 7 [7, 6, 5, 4, 3, 2, 1, 0] [] (fun _ => []) rfl rfl (prs_cons (pri rfl (p_move rfl)) (prs_cons (pri rfl (p_nilCheck rfl)) (prs_cons (pri rfl (p_field0 fo101_0 rfl)) (prs_cons (pri rfl (p_load1 t94 rfl rfl (g_row1 (k := 23) rfl rfl))) (prs_cons (pri rfl (p_field0 fo63_0 rfl)) (prs_cons (pri rfl (p_load1 t9 rfl rfl (g_row1 (k := 11) rfl rfl))) (prs_cons (pri rfl (p_loadA t63 rfl rfl rfl (g_all (k := 11) rfl))) prs_nil))))))) rfl rfl rfl rfl rfl rfl rfl rfl rfl (fun _ _ => rfl) rfl (ms_mapUpdate (k := 17) f2 (fs.take (i + 1)) Tryz.underlying94 keyS rfl rfl rfl rfl (perm_new hm.once hst)) (fun _ _ => stg_end [] rfl rfl prs_nil rfl rfl rfl ?_))
   refine r_region ?_
   refine r_p (p_bin rfl rfl (b_add (by first | exact w_i64 (by omega) (by omega) | rfl))) rfl ?_
   refine r_p (p_move rfl) rfl (r_nil ?_)
   refine r_here (i + 1) ⟨by omega, by omega⟩ rfl rfl rfl
  ·(try simp only [decide_eq_true_eq, decide_eq_false_iff_not, Bool.and_eq_true, Bool.or_eq_true, Bool.and_eq_false_iff, Bool.or_eq_false_iff, Bool.not_eq_true, Bool.not_eq_false, Bool.not_eq_true', Bool.not_eq_false', Bool.not_not, bne_iff_ne, beq_iff_eq] at h2)
   have hi2 : i = fs.length := by omega
   subst hi2
   rw [List.take_length]
   refine r_exit (r_seq (r_region ?_))
   refine r_p (p_makeFunc (first := []) (cap := [.tmp 6, .tmp 7, .tmp 8]) rfl rfl) rfl ?_
   refine r_defer (rest := []) rfl ?_
   refine r_seqD ?_
   refine r_regionD ?_
   refine r_p (p_move rfl) rfl (r_p (p_move rfl) rfl (r_p (p_nilCheck rfl) rfl ?_))
   refine r_p (p_field0 fo101_0 rfl) rfl ?_
   refine r_p (p_load1 t94 rfl rfl (g_row1 (k := 23) rfl rfl)) rfl ?_
   refine r_p (p_lookup Tryz.underlying94 keyS t63 rfl rfl (hm_own (k := 17) rfl) hm.main) rfl ?_
   refine r_more 0 4 rfl tfs_fns ?_
   refine r_more 0 5 rfl (tfs_f (ffind_mem hm.main)) ?_
   refine r_nilsl 30 (α := Int) (s := 1) (enc := eU) ?_
   refine r_nilown 22 (α := Int) (S := 36) (s := 1) (enc := eU) ?_
   refine r_conva (k := 23) (A' := row b23 101 (mR (⟨b23, b17, bu, bb, vin, ins, fs⟩ : En) (ms0 ins fuel) nilS 0 false 0)) rfl (fun _ _ h => by rw [mR_0]; exact h) ?_
   refine r_callE (xs := [.tmp 40, .tmp 45, .const (.slice Option.none 0 0)]) (hc_all (e := (⟨b23, b17, bu, bb, vin, ins, fs⟩ : En)) hm.vf g f 0 nilS [] (ms0 ins fuel) nilS r (ffind_mem hm.main) (by simp) (by simp) (by omega) (ms0_ok hi hf.2) ⟨0, Nat.zero_le _, rfl⟩ hr) cb45 [23, 22] [(false, 30), (false, 5), (false, 4), (true, 17), (true, 18), (true, 19), (false, 1)] [23, 22] [] rfl rfl rfl rfl rfl rfl rfl rfl (fun o _ => lX_len o) (fun _ _ _ => rfl) rfl (fun o ho => ?_)
   rcases o with ⟨a, s, vo2⟩ | ⟨z, c, vo2, l⟩
   rotate_left
   ·refine aft_pan ?_
    have hq : r = .err z := ho
    subst hq
    dsimp only [ruOf]
    refine r_nilown 20 (α := Int) (S := 36) (s := 1) (enc := eU) ?_
    refine r_nilown 21 (α := Int) (S := 36) (s := 1) (enc := eU) ?_
    refine r_norm [(6, .pointer (some ⟨b6, 0, none⟩)), (7, .pointer (some ⟨b7, 0, none⟩)), (8, .pointer (some ⟨b8, 0, none⟩))] [(6, row b6 23 [sv nilS]), (7, row b7 23 [sv nilS]), (8, row b8 40 [.int .i64 (chk fs)]), (20, own 36 1 eU (sv nilS) []), (21, own 36 1 eU (sv nilS) [])] [] rfl rfl rfl ?_
    show AtD [{ target := .fn (.func 44) #[.pointer (some ⟨b6, 0, none⟩), .pointer (some ⟨b7, 0, none⟩), .pointer (some ⟨b8, 0, none⟩)], args := #[] }] _ _ _ _ _ _ _ (bodyPostD Tryz.prog Tryz.f15 _ (.panic _))
    refine r_out1D (fun w hC => run1_pan b6 b7 b8 _ _ _ _ z w hC) cb44 (nilS, nilS) trivial rfl (rs3 (rv_cell1 t23 rfl rfl (g_row1 (k := 6) rfl rfl)) (rv_cell1 t23 rfl rfl (g_row1 (k := 7) rfl rfl)) (rv_cell1 t40 rfl rfl (g_row1 (k := 8) rfl rfl))) rfl [20, 21] [] rfl rfl rfl
   refine aft_ret ?_
   have hq : r = .ok a s := ho
   subst hq
   refine r_freeze 23 40 rfl (fun _ _ h => h) ?_
   refine r_more 40 41 rfl (row_sl (o := 5) (s := 1) (enc := eU) (n := 256) (l := (List.range 256).map s.mem) (by simp) (by unfold maxLen; omega) mC_sl) ?_
   refine r_nil ?_
   refine r_seqD ?_
   refine r_drawMD [0, 1, 2, 3, 4, 5, 6, 7, 8, 9, 10, 11] [0, 1, 2, 3, 4, 5, 6, 7, 8, 9, 10, 11] [47, 48, 49, 50, 51, 52, 53, 54, 55] _ rfl rfl rfl (stg_mem (V := [(0, 47, _), (1, 48, _), (2, 49, _), (3, 50, _), (4, 51, _), (5, 52, _), (6, 53, _), (7, 54, _)]) [0, 1, 2, 3, 4, 5, 6, 7] 8 [8, 7, 6, 5, 4] [] (fun v55 => []) rfl rfl (prs_cons (pri rfl (p_move rfl)) (prs_cons (pri rfl (p_nilCheck rfl)) (prs_cons (pri rfl (p_field0 fo101_4 rfl)) (prs_cons (pri rfl (p_load1 t23 rfl rfl (g_row1R (k := 40) rfl rfl))) (prs_cons (pri rfl (p_move rfl)) (prs_cons (pri rfl (p_nilCheck rfl)) (prs_cons (pri rfl (p_field0 fo101_5 rfl)) (prs_cons (pri rfl (p_slice_arr Tryz.underlying99 t36 rfl (by decide))) prs_nil)))))))) rfl rfl rfl rfl rfl rfl rfl rfl rfl rfl rfl (fun _ _ => rfl) rfl (ms_call (xs := [.tmp 54]) (clone_spec ⟨some ⟨b23, 5, none⟩, 256, 256⟩ ((List.range 256).map s.mem) (by simp)) cb46 [] [(false, 41)] [55] [] rfl rfl rfl rfl rfl rfl rfl rfl (fun _ _ => rfl) (fun _ _ _ => rfl)) (fun v55 _ => stg_mem0 [0, 1, 2, 3] 9 [9, 8, 7, 6, 5, 4, 3, 2, 1, 0] [] (fun _ => []) rfl rfl (prs_cons (pri rfl (p_move rfl)) (prs_cons (pri rfl (p_nilCheck rfl)) (prs_cons (pri rfl (p_field0 fo101_4 rfl)) (prs_cons (pri rfl (p_load1 t23 rfl rfl (g_row1R (k := 40) rfl rfl))) prs_nil)))) rfl rfl rfl rfl rfl rfl rfl rfl rfl (fun _ _ => rfl) rfl (ms_store_row (k := 6) t23 rfl rfl rfl rfl rfl rfl rfl rfl) (fun _ _ => stg_mem0 [] 10 [10, 9, 8, 7, 6, 5, 4, 3, 2, 1, 0] [] (fun _ => []) rfl rfl prs_nil rfl rfl rfl rfl rfl rfl rfl rfl rfl (fun _ _ => rfl) rfl (ms_store_row (k := 7) t23 rfl rfl rfl rfl rfl rfl rfl rfl) (fun _ _ => stg_mem0 [] 11 [11, 10, 9, 8, 7, 6, 5, 4, 3, 2, 1, 0] [] (fun _ => []) rfl rfl prs_nil rfl rfl rfl rfl rfl rfl rfl rfl rfl (fun _ _ => rfl) rfl (ms_store_row (k := 8) t40 rfl rfl rfl rfl rfl rfl rfl rfl) (fun _ _ => stg_end [] rfl rfl prs_nil rfl rfl rfl ?_)))))
   refine r_cretD ?_
   refine r_ret1D (fun w hC => run1_ret b6 b7 b8 w hC) cb44 (vo2, v55) trivial rfl (rs3 (rv_cell1 t23 rfl rfl (g_row1 (k := 6) rfl rfl)) (rv_cell1 t23 rfl rfl (g_row1 (k := 7) rfl rfl)) (rv_cell1 t40 rfl rfl (g_row1 (k := 8) rfl rfl))) rfl [22, 55] [] rfl rfl rfl
theorem run_spec (vp vin : SV) (fs : List Tf) (ins : List Int) (fuel : Int) (hg : GP fs) (hi : ∀ x ∈ ins, oW x) (hil : ins.length ≤ 1000000) (hf : -9000000000000000000 ≤ fuel ∧ fuel ≤ 1000000000000) (ru : Ru) (hru : RunIs fs ins fuel ru) :
  Spec Tryz.prog 15 [.agg #[sv vp], sv vin, .int .i64 fuel] [] [tfsA vp fs, sl 1 eU (sv vin) ins] (X := SV × SV) (fun _ => True) (fun x => .tuple #[sv x.1, sv x.2, .int .i64 ru.err]) (fun x => [own 36 1 eU (sv x.1) ru.out, own 36 1 eU (sv x.2) ru.mem]) (fun _ => []) := by
 cases hru with
 | bad h => exact (run_bad vp vin fs ins fuel hg hi hil hf h).toSpec _ fun _ _ => rfl
 | run f g r h hfm he =>
  obtain ⟨f2, hf2⟩ := chk_fine hg h
  have : f2 = f := by
   have := hf2.main
   rw [hfm] at this
   exact (Option.some.inj this).symm
  subst this
  exact (run_ok vp vin fs ins fuel hg hi hil hf h f2 hf2 g r he).toSpec _ fun _ _ => rfl
end Go.Proofs.YtdcbbkpdlcojfaaGreat
namespace Go.Proofs.YtdcbbkpdlcojfaaGreat
set_option linter.unusedVariables false
/-- The entries of some operations, in the order of their numbers. -/
def vsel (is : List Nat) (V : Vals) : Vals := is.flatMap fun i => V.filter fun p => Nat.beq i p.1
theorem vpick_in {is : List Nat} : ∀ {V : Vals} {p : Nat × Nat × Value}, p ∈ vpick is V → p ∈ V ∧ is.any (Nat.beq p.1) = true
 | [], p, h => by simp [vpick] at h
 | (i, d, v) :: r, p, h => by
  simp only [vpick] at h
  cases hb : is.any (Nat.beq i) with
  | true =>
   rw [hb] at h
   rcases List.mem_cons.1 h with rfl | h
   ·exact ⟨List.mem_cons_self .., hb⟩
   ·exact ⟨List.mem_cons_of_mem _ (vpick_in h).1, (vpick_in h).2⟩
  | false =>
   rw [hb] at h
   exact ⟨List.mem_cons_of_mem _ (vpick_in h).1, (vpick_in h).2⟩
section
variable {P : Program} {N : Nat} {w0 : World} {M H : Nat → Prop} {E : Env} {Γ R : Ctx} {Q : Exit → Act → World → Prop}
theorem prs_all {l : List Oper} {V : Vals} : ∀ {I : Vals}, (∀ i d v, (i, d, v) ∈ I → PRi P N w0 M H E Γ R l V i d v) → PRs P N w0 M H E Γ R l V I
 | [], _ => trivial
 | (i, d, v) :: r, h => ⟨h i d v (List.mem_cons_self ..), prs_all fun i d v hm => h i d v (List.mem_cons_of_mem _ hm)⟩
theorem prs_sel {l : List Oper} {V I : Vals} {is : List Nat} (h0 : vsel is V = I) (h : PRs P N w0 M H E Γ R l V I) : PRs P N w0 M H E Γ R l V (vpick is V) := prs_all fun i d v hm => by
 obtain ⟨h1, h2⟩ := vpick_in hm
 refine h.get i d v ?_
 rw [← h0]
 obtain ⟨j, hj1, hj2⟩ := List.any_eq_true.1 h2
 refine List.mem_flatMap.2 ⟨j, hj1, List.mem_filter.2 ⟨h1, ?_⟩⟩
 have := Nat.eq_of_beq_eq_true hj2
 dsimp only at this ⊢
 rw [this]
 exact Nat.beq_refl _
theorem stg_is {l : List Oper} {V : Vals} (C : List Nat) (h : Stg P N w0 M H E Γ R l Q V C) : Stg P N w0 M H E Γ R l Q V C := h
theorem stg_memJ {l : List Oper} {V : Vals} {C : List Nat} (is : List Nat) {I : Vals} (c : Nat) (C' Jx : List Nat) {X : Type} {φ : X → Prop} {v : X → Value} {Γ' R' : X → Ctx} {d : Nat} {o : Oper} (J' : X → Vals) (hI0 : vsel is V = I) (hst : stOk N E V = true) (hI : PRs P N w0 M H E Γ R l V I) (hcov : covOk V is C = true)
  (hcls : clsOk l (vidx V ++ C) (some c) = true) (ho : l[c]? = some o) (hdst : o.dst = some d) (hgd : o.guard = none) (hd : Nat.blt d N = true) (hdE : eget E d = none) (hdV : inB (vslots V) d = false) (hcV : inB (vidx V ++ C) c = false)
  (hcl : clOk l C c [] C' = true) (hCC0 : C.all (inB C') = true) (hJ : ∀ x, φ x → vidx (J' x) = Jx) (hJx : Jx.all (fun j => !(inB (vidx V ++ C) j) && !(Nat.beq j c)) = true) (hms : MS P N w0 M H (vpre (preds o) V ++ E) Γ R o φ v Γ' R')
  (hJp : ∀ x, φ x → PRs P N w0 M H E (Γ' x) (R' x) l (J' x ++ (c, d, v x) :: V) (J' x))
  (k : ∀ x, φ x → Stg P N w0 M H E (Γ' x) (R' x) l Q (J' x ++ (c, d, v x) :: V) C') : Stg P N w0 M H E Γ R l Q V C :=
 stg_mem is c C' Jx J' rfl hst (prs_sel hI0 hI) hcov hcls ho hdst hgd hd hdE hdV hcV hcl hCC0 hJ hJx hms k
theorem stg_mem0J {l : List Oper} {V : Vals} {C : List Nat} (is : List Nat) {I : Vals} (c : Nat) (C' Jx : List Nat) {X : Type} {φ : X → Prop} {v : X → Value} {Γ' R' : X → Ctx} {o : Oper} (J' : X → Vals) (hI0 : vsel is V = I) (hst : stOk N E V = true) (hI : PRs P N w0 M H E Γ R l V I) (hcov : covOk V is C = true)
  (hcls : clsOk l (vidx V ++ C) (some c) = true) (ho : l[c]? = some o) (hdst : o.dst = none) (hgd : o.guard = none) (hcC' : inB C' c = true) (hcV : inB (vidx V ++ C) c = false)
  (hcl : clOk l C c [] C' = true) (hCC0 : C.all (inB C') = true) (hJ : ∀ x, φ x → vidx (J' x) = Jx) (hJx : Jx.all (fun j => !(inB (vidx V ++ C) j) && !(Nat.beq j c)) = true) (hms : MS P N w0 M H (vpre (preds o) V ++ E) Γ R o φ v Γ' R')
  (hJp : ∀ x, φ x → PRs P N w0 M H E (Γ' x) (R' x) l (J' x ++ V) (J' x))
  (k : ∀ x, φ x → Stg P N w0 M H E (Γ' x) (R' x) l Q (J' x ++ V) C') : Stg P N w0 M H E Γ R l Q V C :=
 stg_mem0 is c C' Jx J' rfl hst (prs_sel hI0 hI) hcov hcls ho hdst hgd hcC' hcV hcl hCC0 hJ hJx hms k
theorem nx_memJ {l : List Oper} {V : Vals} {C : List Nat} (c : Nat) (C' Jx : List Nat) {X : Type} {φ : X → Prop} {v : X → Value} {Γ' R' : X → Ctx} {d : Nat} {o : Oper} (J' : X → Vals)
  (ho : l[c]? = some o) (hdst : o.dst = some d) (hgd : o.guard = none) (hd : Nat.blt d N = true) (hdE : eget E d = none) (hdV : inB (vslots V) d = false) (hcV : inB (vidx V ++ C) c = false)
  (hcl : clOk l C c [] C' = true) (hCC0 : C.all (inB C') = true) (hJ : ∀ x, φ x → vidx (J' x) = Jx) (hJx : Jx.all (fun j => !(inB (vidx V ++ C) j) && !(Nat.beq j c)) = true) (hms : MS P N w0 M H (vpre (preds o) V ++ E) Γ R o φ v Γ' R')
  (hJp : ∀ x, φ x → PRs P N w0 M H E (Γ' x) (R' x) l (J' x ++ (c, d, v x) :: V) (J' x))
  (k : ∀ x, φ x → Stg P N w0 M H E (Γ' x) (R' x) l Q (J' x ++ (c, d, v x) :: V) C') : Nx P N w0 M H E Γ R l Q V C c :=
 nx_mem c C' Jx J' ho hdst hgd hd hdE hdV hcV hcl hCC0 hJ hJx hms k
theorem stg_altsJ {l : List Oper} {V : Vals} {C : List Nat} (is : List Nat) {I : Vals} (hI0 : vsel is V = I) (hst : stOk N E V = true) (hI : PRs P N w0 M H E Γ R l V I) (hcov : covOk V is C = true) (cs : List Nat)
  (hcls : clsOkL l (vidx V ++ C) cs = true) (hne : (match cs with | c :: _ => Nat.blt c l.length && !(inB (vidx V ++ C) c) | [] => false) = true) (hmem : NxAll P N w0 M H E Γ R l Q V C cs) :
  Stg P N w0 M H E Γ R l Q V C :=
 stg_alts is rfl hst (prs_sel hI0 hI) hcov cs hcls hne hmem
theorem stg_endJ {l : List Oper} {V : Vals} {C : List Nat} (is : List Nat) {I : Vals} (hI0 : vsel is V = I) (hst : stOk N E V = true) (hI : PRs P N w0 M H E Γ R l V I) (hcov : covOk V is C = true) (hcls : clsOk l (vidx V ++ C) none = true)
  (hall : (vidx V).all (fun i => Nat.blt i l.length) = true) (k : At N w0 M H (venv V ++ E) Γ R (Q .normal)) : Stg P N w0 M H E Γ R l Q V C :=
 stg_end is rfl hst (prs_sel hI0 hI) hcov hcls hall k
end
end Go.Proofs.YtdcbbkpdlcojfaaGreat
namespace Go.Proofs.YtdcbbkpdlcojfaaGreat
set_option linter.unusedSimpArgs false
set_option linter.unusedVariables false
open Go.RowKit
abbrev tNum (n : Int) : Tx := .mk 1 n oNil nilS []
abbrev tName (s : ByteArray) : Tx := .mk 2 0 s nilS []
abbrev tIn : Tx := .mk 5 0 oNil nilS []
abbrev tBin (op : ByteArray) (v : SV) (a b : Tx) : Tx := .mk 7 0 op v [a, b]
abbrev yOut (v : SV) (t : Tx) : Ty := .mk 7 oNil v [t] nilS [] nilS []
abbrev fMain (vb : SV) (l : List Ty) : Tf := ⟨nMain, nilS, [], vb, l⟩
def nX1 : ByteArray := ⟨#[120]⟩
set_option maxRecDepth 100000 in
theorem num_spec (n : Int) :
  Spec Tryz.prog 22 [.int .u32 n] [] [] (X := Unit) (fun _ => True) (fun _ => xV (tNum n)) (fun _ => []) (fun _ => []) := by
 refine r_enter Tryz.func22 rfl Tryz.ntmps22 rfl fun w0 M H => ?_
 refine r_seq (r_region ?_)
 refine r_alloc t48 rfl rfl fun b2 => ?_
 refine r_nil (r_seq (r_region (r_p (p_move rfl) rfl ?_)))
 refine r_p (p_build (parts := [(0, .const (.int .i64 1)), (1, .tmp 3)]) t48 pl48 rfl rfl) rfl ?_
 refine r_store_all (k := 2) t48 rfl rfl rfl rfl rfl rfl ?_
 refine r_nil (r_cret ?_)
 refine r_ret () trivial rfl (rs1 (rv_cellA t48 rfl rfl rfl (g_all (k := 2) rfl))) rfl [] [] rfl rfl rfl
set_option maxRecDepth 100000 in
theorem name_spec (s : ByteArray) :
  Spec Tryz.prog 23 [.string s] [] [] (X := Unit) (fun _ => True) (fun _ => xV (tName s)) (fun _ => []) (fun _ => []) := by
 refine r_enter Tryz.func23 rfl Tryz.ntmps23 rfl fun w0 M H => ?_
 refine r_seq (r_region ?_)
 refine r_alloc t48 rfl rfl fun b2 => ?_
 refine r_nil (r_seq (r_region (r_p (p_move rfl) rfl ?_)))
 refine r_p (p_build (parts := [(0, .const (.int .i64 2)), (2, .tmp 3)]) t48 pl48 rfl rfl) rfl ?_
 refine r_store_all (k := 2) t48 rfl rfl rfl rfl rfl rfl ?_
 refine r_nil (r_cret ?_)
 refine r_ret () trivial rfl (rs1 (rv_cellA t48 rfl rfl rfl (g_all (k := 2) rfl))) rfl [] [] rfl rfl rfl
set_option maxRecDepth 100000 in
theorem output_spec (t : Tx) :
  Spec Tryz.prog 19 [xV t] [] [] (X := SV) (fun _ => True) (fun v => yV (yOut v t)) (fun v => [own 48 4 eTx (sv v) [t]]) (fun _ => []) := by
 refine r_enter Tryz.func19 rfl Tryz.ntmps19 rfl fun w0 M H => ?_
 refine r_seq (r_region ?_)
 refine r_boxA rfl rfl fun b1 => ?_
 refine r_alloc t53 rfl rfl fun b2 => ?_
 refine r_nil (r_seq (r_region ?_))
 refine r_p (p_loadA t48 rfl rfl rfl (g_all (k := 1) rfl)) rfl ?_
 refine r_bslice1 eTx t Tryz.underlying46 t48 rfl (by decide) (by decide) rfl rfl rfl rfl fun v4 => ?_
 refine r_p (p_build (parts := [(0, .const (.int .i64 7)), (2, .tmp 4)]) t53 pl53 rfl rfl) rfl ?_
 refine r_store_all (k := 2) t53 rfl rfl rfl rfl rfl rfl ?_
 refine r_nil (r_cret ?_)
 refine r_ret v4 trivial rfl (rs1 (rv_cellA t53 rfl rfl rfl (g_all (k := 2) rfl))) rfl [4] [] rfl rfl rfl
set_option maxRecDepth 100000 in
theorem main_spec (vb : SV) (l : List Ty) :
  Spec Tryz.prog 18 [sv vb] [] [] (X := SV) (fun _ => True) (fun v => .agg #[sv v]) (fun v => [own 63 3 eTf (sv v) [fMain vb l]]) (fun _ => []) := by
 refine r_enter Tryz.func18 rfl Tryz.ntmps18 rfl fun w0 M H => ?_
 refine r_seq (r_region ?_)
 refine r_alloc t29 rfl rfl fun b2 => ?_
 refine r_nil (r_seq (r_region (r_p (p_move rfl) rfl ?_)))
 refine r_p (p_build (parts := [(0, .const (.string (ByteArray.mk #[109, 97, 105, 110]))), (2, .tmp 3)]) t63 pl63 rfl rfl) rfl ?_
 refine r_bslice1 eTf (fMain vb l) Tryz.underlying27 t63 rfl (by decide) (by decide) rfl rfl rfl rfl fun v5 => ?_
 refine r_p (p_build (parts := [(0, .tmp 5)]) t29 pl29 rfl rfl) rfl ?_
 refine r_store_all (k := 2) t29 rfl rfl rfl rfl rfl rfl ?_
 refine r_nil (r_cret ?_)
 refine r_ret v5 trivial rfl (rs1 (rv_cellA t29 rfl rfl rfl (g_all (k := 2) rfl))) rfl [5] [] rfl rfl rfl
set_option maxRecDepth 100000 in
theorem binary_spec9 (op : ByteArray) (a b : Tx) :
  Spec Tryz.prog 26 [.string op, xV a, xV b] [] [] (X := SV) (fun _ => True) (fun v => xV (tBin op v a b)) (fun v => [own 48 4 eTx (sv v) [a, b]]) (fun _ => []) := by
 refine r_enter Tryz.func26 rfl Tryz.ntmps26 rfl fun w0 M H => ?_
 refine r_seq (r_region ?_)
 refine r_boxA rfl rfl fun b4 => ?_
 refine r_boxA rfl rfl fun b5 => ?_
 refine r_alloc t48 rfl rfl fun b6 => ?_
 refine r_nil (r_seq (r_region (r_p (p_move rfl) rfl ?_)))
 refine r_p (p_loadA t48 rfl rfl rfl (g_all (k := 4) rfl)) rfl ?_
 refine r_p (p_loadA t48 rfl rfl rfl (g_all (k := 5) rfl)) rfl ?_
 refine r_bslice eTx [a, b] (parts := [(0, .tmp 8), (1, .tmp 9)]) Tryz.underlying46 t48 rfl (by decide) (by intro _; rfl) rfl (by decide) (by decide) rfl rfl rfl rfl fun v10 => ?_
 refine r_p (p_build (parts := [(0, .const (.int .i64 7)), (2, .tmp 7), (3, .tmp 10)]) t48 pl48 rfl rfl) rfl ?_
 refine r_store_all (k := 6) t48 rfl rfl rfl rfl rfl rfl ?_
 refine r_nil (r_cret ?_)
 refine r_ret v10 trivial rfl (rs1 (rv_cellA t48 rfl rfl rfl (g_all (k := 6) rfl))) rfl [10] [] rfl rfl rfl
/-- The program that counts down. -/
abbrev lpWhile (v1 v2 v3 v4 v5 : SV) : Ty := .mk 5 oNil v1 [tName nX1] v2 [yOut v3 (tName nX1), .mk 2 nX1 v4 [tBin oSub v5 (tName nX1) (tNum 1)] nilS [] nilS []] nilS []
abbrev lpBody (n : Int) (v0 v1 v2 v3 v4 v5 : SV) : List Ty := [.mk 1 nX1 v0 [tNum n] nilS [] nilS [], lpWhile v1 v2 v3 v4 v5]
abbrev lpP (n : Int) (v0 v1 v2 v3 v4 v5 v6 : SV) : List Tf := [fMain v6 (lpBody n v0 v1 v2 v3 v4 v5)]
structure Lv where
 v0 : SV
 v1 : SV
 v2 : SV
 v3 : SV
 v4 : SV
 v5 : SV
 v6 : SV
 v7 : SV
abbrev Lv.p (x : Lv) (n : Int) : List Tf := lpP n x.v0 x.v1 x.v2 x.v3 x.v4 x.v5 x.v6
theorem loop_all {n : Int} {v0 v1 v2 v3 v4 v5 v6 v7 : SV} (w : World) (F : Nat → Prop) (h : AllIn w F [own 48 4 eTx (sv v0) [tNum n], own 48 4 eTx (sv v1) [tName nX1], own 53 5 eTy (sv v2) [yOut v3 (tName nX1), .mk 2 nX1 v4 [tBin oSub v5 (tName nX1) (tNum 1)] nilS [] nilS []], own 48 4 eTx (sv v3) [tName nX1],
   own 48 4 eTx (sv v4) [tBin oSub v5 (tName nX1) (tNum 1)], own 48 4 eTx (sv v5) [tName nX1, tNum 1], own 53 5 eTy (sv v6) (lpBody n v0 v1 v2 v3 v4 v5), own 63 3 eTf (sv v7) (lpP n v0 v1 v2 v3 v4 v5 v6)]) : (tfsA v7 (lpP n v0 v1 v2 v3 v4 v5 v6)).pred w F := by
 obtain ⟨⟨_, a0, b0⟩, ⟨_, a1, b1⟩, ⟨_, a2, b2⟩, ⟨_, a3, b3⟩, ⟨_, a4, b4⟩, ⟨_, a5, b5⟩, ⟨_, a6, b6⟩, ⟨_, a7, b7⟩, _⟩ := h
 have hx : TxIn w F (tName nX1) := ⟨nil_in, trivial⟩
 have hn : ∀ n, TxIn w F (tNum n) := fun _ => ⟨nil_in, trivial⟩
 have hb : TxIn w F (tBin oSub v5 (tName nX1) (tNum 1)) := ⟨own_in a5 b5, hx, hn 1, trivial⟩
 have hny : SlIn' w F 5 eTy (sv nilS) [] ∧ TysIn w F [] := ⟨nil_in, trivial⟩
 have y1 : TyIn w F (.mk 1 nX1 v0 [tNum n] nilS [] nilS []) := ⟨⟨own_in a0 b0, hn n, trivial⟩, hny, hny⟩
 have y2 : TyIn w F (yOut v3 (tName nX1)) := ⟨⟨own_in a3 b3, hx, trivial⟩, hny, hny⟩
 have y3 : TyIn w F (.mk 2 nX1 v4 [tBin oSub v5 (tName nX1) (tNum 1)] nilS [] nilS []) := ⟨⟨own_in a4 b4, hb, trivial⟩, hny, hny⟩
 have y4 : TyIn w F (lpWhile v1 v2 v3 v4 v5) := ⟨⟨own_in a1 b1, hx, trivial⟩, ⟨own_in a2 b2, y2, y3, trivial⟩, hny⟩
 refine ⟨own_in a7 b7, fun f hf => ?_⟩
 rw [List.mem_singleton.1 hf]
 exact ⟨nil_in, own_in a6 b6, y1, y4, trivial⟩
set_option maxHeartbeats 4000000 in
set_option maxRecDepth 100000 in
theorem loop_spec (n : Int) :
  Spec Tryz.prog 27 [.int .u32 n] [] [] (X := Lv) (fun _ => True) (fun x => .agg #[sv x.v7]) (fun x => [tfsA x.v7 (x.p n)]) (fun _ => []) := by
 refine r_enter Tryz.func27 rfl Tryz.ntmps27 rfl fun w0 M H => ?_
 refine r_seq (r_region ?_)
 refine r_alloc t29 rfl rfl fun b2 => ?_
 refine r_nil (r_seq (r_region ?_))
 refine r_call (xs := [.const (.string (ByteArray.mk #[120]))]) (name_spec nX1) cb23 [] [] [] [] rfl rfl rfl rfl rfl rfl rfl rfl (fun _ _ => rfl) (fun _ _ _ => rfl) rfl (fun _ _ => ?_)
 refine r_alloc t48 rfl rfl fun b3 => ?_
 refine r_store_all (k := 3) t48 rfl rfl rfl rfl rfl rfl ?_
 refine r_nil ?_
 refine r_seq_cut (X := Nat × SV × SV) (fun _ => True) (fun y => [(0, .int .u32 n), (2, .pointer (some ⟨b2, 0, none⟩)), (3, .pointer (some ⟨b3, 0, none⟩)), (4, .pointer (some ⟨y.1, 0, none⟩))]) (fun y => [(2, row b2 29 [.slice none 0 0]), (3, row b3 48 (eTx (tName nX1))), (4, row y.1 53 (eTy (.mk 2 nX1 y.2.2 [tBin oSub y.2.1 (tName nX1) (tNum 1)] nilS [] nilS []))), (8, own 48 4 eTx (sv y.2.1) [tName nX1, tNum 1]), (9, own 48 4 eTx (sv y.2.2) [tBin oSub y.2.1 (tName nX1) (tNum 1)])]) (fun y => []) ?_ (fun ⟨b4, v8, v9⟩ _ => ?_)
 ·refine r_draw [6, 7, 8, 9, 10, 4] _ rfl (stg_alts (V := [(0, 6, _)]) [0] rfl rfl (prs_cons (pri rfl (p_loadA t48 rfl rfl rfl (g_all (k := 3) rfl))) prs_nil) rfl [1, 5] rfl rfl (nx_cons (nx_mem 1 [1] [] (fun _ => []) rfl rfl rfl rfl rfl rfl rfl rfl rfl (fun _ _ => rfl) rfl (ms_call (xs := [.const (.int .u32 1)]) (num_spec 1) cb22 [] [] [] [] rfl rfl rfl rfl rfl rfl rfl rfl (fun _ _ => rfl) (fun _ _ _ => rfl)) (fun _ _ => stg_alts [0] rfl rfl (prs_cons (pri rfl (p_loadA t48 rfl rfl rfl (g_all (k := 3) rfl))) prs_nil) rfl [2, 5] rfl rfl (nx_cons (nx_mem 2 [2, 1, 0] [] (fun v8 => []) rfl rfl rfl rfl rfl rfl rfl rfl rfl (fun _ _ => rfl) rfl (ms_call (xs := [.const (.string (ByteArray.mk #[45])), .tmp 6, .tmp 7]) (binary_spec9 oSub (tName nX1) (tNum 1)) cb26 [] [] [8] [] rfl rfl rfl rfl rfl rfl rfl rfl (fun _ _ => rfl) (fun _ _ _ => rfl)) (fun v8 _ => stg_alts [] rfl rfl prs_nil rfl [3, 5] rfl rfl (nx_cons (nx_mem 3 [3, 2, 1, 0] [4] (fun v9 => [(4, 10, _)]) rfl rfl rfl rfl rfl rfl rfl rfl rfl (fun _ _ => rfl) rfl (ms_bslice1 eTx (tBin oSub v8 (tName nX1) (tNum 1)) Tryz.underlying46 t48 rfl (by decide) (by decide) rfl rfl rfl) (fun v9 _ => stg_mem [4] 5 [5, 3, 2, 1, 0] [] (fun b4 => []) rfl rfl (prs_cons (pri rfl (p_build (parts := [(0, .const (.int .i64 2)), (1, .const (.string (ByteArray.mk #[120]))), (2, .tmp 9)]) t53 pl53 rfl rfl)) prs_nil) rfl rfl rfl rfl rfl rfl rfl rfl rfl rfl rfl (fun _ _ => rfl) rfl (ms_alloc t53 rfl) (fun b4 _ => stg_mem0 [4] 6 [6, 5, 4, 3, 2, 1, 0] [] (fun _ => []) rfl rfl (prs_cons (pri rfl (p_build (parts := [(0, .const (.int .i64 2)), (1, .const (.string (ByteArray.mk #[120]))), (2, .tmp 9)]) t53 pl53 rfl rfl)) prs_nil) rfl rfl rfl rfl rfl rfl rfl rfl rfl (fun _ _ => rfl) rfl (ms_store_all (k := 4) t53 rfl rfl rfl rfl rfl rfl) (fun _ _ => stg_end [] rfl rfl prs_nil rfl rfl rfl ?_)))) (nx_cons (nx_mem 5 [5, 2, 1, 0] [] (fun b4 => []) rfl rfl rfl rfl rfl rfl rfl rfl rfl (fun _ _ => rfl) rfl (ms_alloc t53 rfl) (fun b4 _ => stg_mem [] 3 [5, 3, 2, 1, 0] [4] (fun v9 => [(4, 10, _)]) rfl rfl prs_nil rfl rfl rfl rfl rfl rfl rfl rfl rfl rfl rfl (fun _ _ => rfl) rfl (ms_bslice1 eTx (tBin oSub v8 (tName nX1) (tNum 1)) Tryz.underlying46 t48 rfl (by decide) (by decide) rfl rfl rfl) (fun v9 _ => stg_mem0 [4] 6 [6, 5, 4, 3, 2, 1, 0] [] (fun _ => []) rfl rfl (prs_cons (pri rfl (p_build (parts := [(0, .const (.int .i64 2)), (1, .const (.string (ByteArray.mk #[120]))), (2, .tmp 9)]) t53 pl53 rfl rfl)) prs_nil) rfl rfl rfl rfl rfl rfl rfl rfl rfl (fun _ _ => rfl) rfl (ms_store_all (k := 4) t53 rfl rfl rfl rfl rfl rfl) (fun _ _ => stg_end [] rfl rfl prs_nil rfl rfl rfl ?_)))) nx_nil)))) (nx_cons (nx_mem 5 [5, 1] [] (fun b4 => []) rfl rfl rfl rfl rfl rfl rfl rfl rfl (fun _ _ => rfl) rfl (ms_alloc t53 rfl) (fun b4 _ => stg_mem [0] 2 [5, 2, 1, 0] [] (fun v8 => []) rfl rfl (prs_cons (pri rfl (p_loadA t48 rfl rfl rfl (g_all (k := 3) rfl))) prs_nil) rfl rfl rfl rfl rfl rfl rfl rfl rfl rfl rfl (fun _ _ => rfl) rfl (ms_call (xs := [.const (.string (ByteArray.mk #[45])), .tmp 6, .tmp 7]) (binary_spec9 oSub (tName nX1) (tNum 1)) cb26 [] [] [8] [] rfl rfl rfl rfl rfl rfl rfl rfl (fun _ _ => rfl) (fun _ _ _ => rfl)) (fun v8 _ => stg_mem [] 3 [5, 3, 2, 1, 0] [4] (fun v9 => [(4, 10, _)]) rfl rfl prs_nil rfl rfl rfl rfl rfl rfl rfl rfl rfl rfl rfl (fun _ _ => rfl) rfl (ms_bslice1 eTx (tBin oSub v8 (tName nX1) (tNum 1)) Tryz.underlying46 t48 rfl (by decide) (by decide) rfl rfl rfl) (fun v9 _ => stg_mem0 [4] 6 [6, 5, 4, 3, 2, 1, 0] [] (fun _ => []) rfl rfl (prs_cons (pri rfl (p_build (parts := [(0, .const (.int .i64 2)), (1, .const (.string (ByteArray.mk #[120]))), (2, .tmp 9)]) t53 pl53 rfl rfl)) prs_nil) rfl rfl rfl rfl rfl rfl rfl rfl rfl (fun _ _ => rfl) rfl (ms_store_all (k := 4) t53 rfl rfl rfl rfl rfl rfl) (fun _ _ => stg_end [] rfl rfl prs_nil rfl rfl rfl ?_))))) nx_nil)))) (nx_cons (nx_mem 5 [5] [] (fun b4 => []) rfl rfl rfl rfl rfl rfl rfl rfl rfl (fun _ _ => rfl) rfl (ms_alloc t53 rfl) (fun b4 _ => stg_mem [0] 1 [5, 1] [] (fun _ => []) rfl rfl (prs_cons (pri rfl (p_loadA t48 rfl rfl rfl (g_all (k := 3) rfl))) prs_nil) rfl rfl rfl rfl rfl rfl rfl rfl rfl rfl rfl (fun _ _ => rfl) rfl (ms_call (xs := [.const (.int .u32 1)]) (num_spec 1) cb22 [] [] [] [] rfl rfl rfl rfl rfl rfl rfl rfl (fun _ _ => rfl) (fun _ _ _ => rfl)) (fun _ _ => stg_mem [0] 2 [5, 2, 1, 0] [] (fun v8 => []) rfl rfl (prs_cons (pri rfl (p_loadA t48 rfl rfl rfl (g_all (k := 3) rfl))) prs_nil) rfl rfl rfl rfl rfl rfl rfl rfl rfl rfl rfl (fun _ _ => rfl) rfl (ms_call (xs := [.const (.string (ByteArray.mk #[45])), .tmp 6, .tmp 7]) (binary_spec9 oSub (tName nX1) (tNum 1)) cb26 [] [] [8] [] rfl rfl rfl rfl rfl rfl rfl rfl (fun _ _ => rfl) (fun _ _ _ => rfl)) (fun v8 _ => stg_mem [] 3 [5, 3, 2, 1, 0] [4] (fun v9 => [(4, 10, _)]) rfl rfl prs_nil rfl rfl rfl rfl rfl rfl rfl rfl rfl rfl rfl (fun _ _ => rfl) rfl (ms_bslice1 eTx (tBin oSub v8 (tName nX1) (tNum 1)) Tryz.underlying46 t48 rfl (by decide) (by decide) rfl rfl rfl) (fun v9 _ => stg_mem0 [4] 6 [6, 5, 4, 3, 2, 1, 0] [] (fun _ => []) rfl rfl (prs_cons (pri rfl (p_build (parts := [(0, .const (.int .i64 2)), (1, .const (.string (ByteArray.mk #[120]))), (2, .tmp 9)]) t53 pl53 rfl rfl)) prs_nil) rfl rfl rfl rfl rfl rfl rfl rfl rfl (fun _ _ => rfl) rfl (ms_store_all (k := 4) t53 rfl rfl rfl rfl rfl rfl) (fun _ _ => stg_end [] rfl rfl prs_nil rfl rfl rfl ?_)))))) nx_nil)))
  ·refine r_here (b4, v8, v9) trivial rfl rfl rfl
  ·refine r_here (b4, v8, v9) trivial rfl rfl rfl
  ·refine r_here (b4, v8, v9) trivial rfl rfl rfl
  ·refine r_here (b4, v8, v9) trivial rfl rfl rfl
 ·dsimp only
  refine r_seq ?_
  refine r_draw [11, 12, 13, 14, 15, 16, 17, 18, 19, 20, 21, 22, 23] _ rfl (stg_altsJ (V := [(0, 11, _), (4, 15, _), (6, 17, _), (8, 19, _)]) [0, 4, 6, 8] rfl rfl (prs_cons (pri rfl (p_move rfl)) (prs_cons (pri rfl (p_loadA t48 rfl rfl rfl (g_all (k := 3) rfl))) (prs_cons (pri rfl (p_loadA t48 rfl rfl rfl (g_all (k := 3) rfl))) (prs_cons (pri rfl (p_loadA t53 rfl rfl rfl (g_all (k := 4) rfl))) prs_nil)))) rfl [1, 5] rfl rfl (nx_cons (nx_memJ 1 [1, 0] [] (fun _ => []) rfl rfl rfl rfl rfl rfl rfl rfl rfl (fun _ _ => rfl) rfl (ms_call (xs := [.tmp 11]) (num_spec n) cb22 [] [] [] [] rfl rfl rfl rfl rfl rfl rfl rfl (fun _ _ => rfl) (fun _ _ _ => rfl)) (fun _ _ => prs_nil) (fun _ _ => ?_)) (nx_cons (nx_memJ 5 [5, 4] [] (fun v16 => []) rfl rfl rfl rfl rfl rfl rfl rfl rfl (fun _ _ => rfl) rfl (ms_bslice1 eTx (tName nX1) Tryz.underlying46 t48 rfl (by decide) (by decide) rfl rfl rfl) (fun v16 _ => prs_nil) (fun v16 _ => ?_)) nx_nil)))
  all_goals first | refine stg_altsJ [4, 6, 8] rfl rfl (prs_cons (pri rfl (p_loadA t48 rfl rfl rfl (g_all (k := 3) rfl))) (prs_cons (pri rfl (p_loadA t48 rfl rfl rfl (g_all (k := 3) rfl))) (prs_cons (pri rfl (p_loadA t53 rfl rfl rfl (g_all (k := 4) rfl))) prs_nil))) rfl [2, 5, 7] rfl rfl (nx_cons (nx_memJ 2 [2, 1, 0] [3] (fun v13 => [(3, 14, _)]) rfl rfl rfl rfl rfl rfl rfl rfl rfl (fun _ _ => rfl) rfl (ms_bslice1 eTx (tNum n) Tryz.underlying46 t48 rfl (by decide) (by decide) rfl rfl rfl) (fun v13 _ => (prs_cons (pri rfl (p_build (parts := [(0, .const (.int .i64 1)), (1, .const (.string (ByteArray.mk #[120]))), (2, .tmp 13)]) t53 pl53 rfl rfl)) prs_nil)) (fun v13 _ => ?_)) (nx_cons (nx_memJ 5 [5, 4, 1, 0] [] (fun v16 => []) rfl rfl rfl rfl rfl rfl rfl rfl rfl (fun _ _ => rfl) rfl (ms_bslice1 eTx (tName nX1) Tryz.underlying46 t48 rfl (by decide) (by decide) rfl rfl rfl) (fun v16 _ => prs_nil) (fun v16 _ => ?_)) (nx_cons (nx_memJ 7 [7, 6, 1, 0] [] (fun v18 => []) rfl rfl rfl rfl rfl rfl rfl rfl rfl (fun _ _ => rfl) rfl (ms_call (xs := [.tmp 17]) (output_spec (tName nX1)) cb19 [] [] [18] [] rfl rfl rfl rfl rfl rfl rfl rfl (fun _ _ => rfl) (fun _ _ _ => rfl)) (fun v18 _ => prs_nil) (fun v18 _ => ?_)) nx_nil))) | refine stg_memJ [0, 6, 8] 1 [5, 4, 1, 0] [] (fun _ => []) rfl rfl (prs_cons (pri rfl (p_move rfl)) (prs_cons (pri rfl (p_loadA t48 rfl rfl rfl (g_all (k := 3) rfl))) (prs_cons (pri rfl (p_loadA t53 rfl rfl rfl (g_all (k := 4) rfl))) prs_nil))) rfl rfl rfl rfl rfl rfl rfl rfl rfl rfl rfl (fun _ _ => rfl) rfl (ms_call (xs := [.tmp 11]) (num_spec n) cb22 [] [] [] [] rfl rfl rfl rfl rfl rfl rfl rfl (fun _ _ => rfl) (fun _ _ _ => rfl)) (fun _ _ => prs_nil) (fun _ _ => ?_)
  all_goals first | refine stg_altsJ [3, 4, 6, 8] rfl rfl (prs_cons (pri rfl (p_build (parts := [(0, .const (.int .i64 1)), (1, .const (.string (ByteArray.mk #[120]))), (2, .tmp 13)]) t53 pl53 rfl rfl)) (prs_cons (pri rfl (p_loadA t48 rfl rfl rfl (g_all (k := 3) rfl))) (prs_cons (pri rfl (p_loadA t48 rfl rfl rfl (g_all (k := 3) rfl))) (prs_cons (pri rfl (p_loadA t53 rfl rfl rfl (g_all (k := 4) rfl))) prs_nil)))) rfl [5, 7] rfl rfl (nx_cons (nx_memJ 5 [5, 4, 2, 1, 0] [] (fun v16 => []) rfl rfl rfl rfl rfl rfl rfl rfl rfl (fun _ _ => rfl) rfl (ms_bslice1 eTx (tName nX1) Tryz.underlying46 t48 rfl (by decide) (by decide) rfl rfl rfl) (fun v16 _ => prs_nil) (fun v16 _ => ?_)) (nx_cons (nx_memJ 7 [7, 6, 2, 1, 0] [] (fun v18 => []) rfl rfl rfl rfl rfl rfl rfl rfl rfl (fun _ _ => rfl) rfl (ms_call (xs := [.tmp 17]) (output_spec (tName nX1)) cb19 [] [] [18] [] rfl rfl rfl rfl rfl rfl rfl rfl (fun _ _ => rfl) (fun _ _ _ => rfl)) (fun v18 _ => prs_nil) (fun v18 _ => ?_)) nx_nil)) | refine stg_altsJ [6, 8] rfl rfl (prs_cons (pri rfl (p_loadA t48 rfl rfl rfl (g_all (k := 3) rfl))) (prs_cons (pri rfl (p_loadA t53 rfl rfl rfl (g_all (k := 4) rfl))) prs_nil)) rfl [2, 7] rfl rfl (nx_cons (nx_memJ 2 [5, 4, 2, 1, 0] [3] (fun v13 => [(3, 14, _)]) rfl rfl rfl rfl rfl rfl rfl rfl rfl (fun _ _ => rfl) rfl (ms_bslice1 eTx (tNum n) Tryz.underlying46 t48 rfl (by decide) (by decide) rfl rfl rfl) (fun v13 _ => (prs_cons (pri rfl (p_build (parts := [(0, .const (.int .i64 1)), (1, .const (.string (ByteArray.mk #[120]))), (2, .tmp 13)]) t53 pl53 rfl rfl)) prs_nil)) (fun v13 _ => ?_)) (nx_cons (nx_memJ 7 [7, 6, 5, 4, 1, 0] [] (fun v18 => []) rfl rfl rfl rfl rfl rfl rfl rfl rfl (fun _ _ => rfl) rfl (ms_call (xs := [.tmp 17]) (output_spec (tName nX1)) cb19 [] [] [18] [] rfl rfl rfl rfl rfl rfl rfl rfl (fun _ _ => rfl) (fun _ _ _ => rfl)) (fun v18 _ => prs_nil) (fun v18 _ => ?_)) nx_nil)) | refine stg_altsJ [4, 8] rfl rfl (prs_cons (pri rfl (p_loadA t48 rfl rfl rfl (g_all (k := 3) rfl))) (prs_cons (pri rfl (p_loadA t53 rfl rfl rfl (g_all (k := 4) rfl))) prs_nil)) rfl [2, 5, 9] rfl rfl (nx_cons (nx_memJ 2 [7, 6, 2, 1, 0] [3] (fun v13 => [(3, 14, _)]) rfl rfl rfl rfl rfl rfl rfl rfl rfl (fun _ _ => rfl) rfl (ms_bslice1 eTx (tNum n) Tryz.underlying46 t48 rfl (by decide) (by decide) rfl rfl rfl) (fun v13 _ => (prs_cons (pri rfl (p_build (parts := [(0, .const (.int .i64 1)), (1, .const (.string (ByteArray.mk #[120]))), (2, .tmp 13)]) t53 pl53 rfl rfl)) prs_nil)) (fun v13 _ => ?_)) (nx_cons (nx_memJ 5 [7, 6, 5, 4, 1, 0] [] (fun v16 => []) rfl rfl rfl rfl rfl rfl rfl rfl rfl (fun _ _ => rfl) rfl (ms_bslice1 eTx (tName nX1) Tryz.underlying46 t48 rfl (by decide) (by decide) rfl rfl rfl) (fun v16 _ => prs_nil) (fun v16 _ => ?_)) (nx_cons (nx_memJ 9 [9, 8, 7, 6, 1, 0] [] (fun v20 => []) rfl rfl rfl rfl rfl rfl rfl rfl rfl (fun _ _ => rfl) rfl (ms_bslice eTy [yOut v18 (tName nX1), .mk 2 nX1 v9 [tBin oSub v8 (tName nX1) (tNum 1)] nilS [] nilS []] (parts := [(0, .tmp 18), (1, .tmp 19)]) Tryz.underlying51 t53 rfl (by decide) (by intro _; rfl) rfl (by decide) (by decide) rfl rfl rfl) (fun v20 _ => prs_nil) (fun v20 _ => ?_)) nx_nil)))
  all_goals first | refine stg_memJ [3, 6, 8] 7 [7, 6, 5, 4, 2, 1, 0] [] (fun v18 => []) rfl rfl (prs_cons (pri rfl (p_build (parts := [(0, .const (.int .i64 1)), (1, .const (.string (ByteArray.mk #[120]))), (2, .tmp 13)]) t53 pl53 rfl rfl)) (prs_cons (pri rfl (p_loadA t48 rfl rfl rfl (g_all (k := 3) rfl))) (prs_cons (pri rfl (p_loadA t53 rfl rfl rfl (g_all (k := 4) rfl))) prs_nil))) rfl rfl rfl rfl rfl rfl rfl rfl rfl rfl rfl (fun _ _ => rfl) rfl (ms_call (xs := [.tmp 17]) (output_spec (tName nX1)) cb19 [] [] [18] [] rfl rfl rfl rfl rfl rfl rfl rfl (fun _ _ => rfl) (fun _ _ _ => rfl)) (fun v18 _ => prs_nil) (fun v18 _ => ?_) | refine stg_altsJ [3, 4, 8] rfl rfl (prs_cons (pri rfl (p_build (parts := [(0, .const (.int .i64 1)), (1, .const (.string (ByteArray.mk #[120]))), (2, .tmp 13)]) t53 pl53 rfl rfl)) (prs_cons (pri rfl (p_loadA t48 rfl rfl rfl (g_all (k := 3) rfl))) (prs_cons (pri rfl (p_loadA t53 rfl rfl rfl (g_all (k := 4) rfl))) prs_nil))) rfl [5, 9] rfl rfl (nx_cons (nx_memJ 5 [7, 6, 5, 4, 2, 1, 0] [] (fun v16 => []) rfl rfl rfl rfl rfl rfl rfl rfl rfl (fun _ _ => rfl) rfl (ms_bslice1 eTx (tName nX1) Tryz.underlying46 t48 rfl (by decide) (by decide) rfl rfl rfl) (fun v16 _ => prs_nil) (fun v16 _ => ?_)) (nx_cons (nx_memJ 9 [9, 8, 7, 6, 2, 1, 0] [] (fun v20 => []) rfl rfl rfl rfl rfl rfl rfl rfl rfl (fun _ _ => rfl) rfl (ms_bslice eTy [yOut v18 (tName nX1), .mk 2 nX1 v9 [tBin oSub v8 (tName nX1) (tNum 1)] nilS [] nilS []] (parts := [(0, .tmp 18), (1, .tmp 19)]) Tryz.underlying51 t53 rfl (by decide) (by intro _; rfl) rfl (by decide) (by decide) rfl rfl rfl) (fun v20 _ => prs_nil) (fun v20 _ => ?_)) nx_nil)) | refine stg_altsJ [8] rfl rfl (prs_cons (pri rfl (p_loadA t53 rfl rfl rfl (g_all (k := 4) rfl))) prs_nil) rfl [2, 9] rfl rfl (nx_cons (nx_memJ 2 [7, 6, 5, 4, 2, 1, 0] [3] (fun v13 => [(3, 14, _)]) rfl rfl rfl rfl rfl rfl rfl rfl rfl (fun _ _ => rfl) rfl (ms_bslice1 eTx (tNum n) Tryz.underlying46 t48 rfl (by decide) (by decide) rfl rfl rfl) (fun v13 _ => (prs_cons (pri rfl (p_build (parts := [(0, .const (.int .i64 1)), (1, .const (.string (ByteArray.mk #[120]))), (2, .tmp 13)]) t53 pl53 rfl rfl)) prs_nil)) (fun v13 _ => ?_)) (nx_cons (nx_memJ 9 [9, 8, 7, 6, 5, 4, 1, 0] [10] (fun v20 => [(10, 21, _)]) rfl rfl rfl rfl rfl rfl rfl rfl rfl (fun _ _ => rfl) rfl (ms_bslice eTy [yOut v18 (tName nX1), .mk 2 nX1 v9 [tBin oSub v8 (tName nX1) (tNum 1)] nilS [] nilS []] (parts := [(0, .tmp 18), (1, .tmp 19)]) Tryz.underlying51 t53 rfl (by decide) (by intro _; rfl) rfl (by decide) (by decide) rfl rfl rfl) (fun v20 _ => (prs_cons (pri rfl (p_build (parts := [(0, .const (.int .i64 5)), (2, .tmp 16), (3, .tmp 20)]) t53 pl53 rfl rfl)) prs_nil)) (fun v20 _ => ?_)) nx_nil)) | refine stg_altsJ [4] rfl rfl (prs_cons (pri rfl (p_loadA t48 rfl rfl rfl (g_all (k := 3) rfl))) prs_nil) rfl [2, 5] rfl rfl (nx_cons (nx_memJ 2 [9, 8, 7, 6, 2, 1, 0] [3] (fun v13 => [(3, 14, _)]) rfl rfl rfl rfl rfl rfl rfl rfl rfl (fun _ _ => rfl) rfl (ms_bslice1 eTx (tNum n) Tryz.underlying46 t48 rfl (by decide) (by decide) rfl rfl rfl) (fun v13 _ => (prs_cons (pri rfl (p_build (parts := [(0, .const (.int .i64 1)), (1, .const (.string (ByteArray.mk #[120]))), (2, .tmp 13)]) t53 pl53 rfl rfl)) prs_nil)) (fun v13 _ => ?_)) (nx_cons (nx_memJ 5 [9, 8, 7, 6, 5, 4, 1, 0] [10] (fun v16 => [(10, 21, _)]) rfl rfl rfl rfl rfl rfl rfl rfl rfl (fun _ _ => rfl) rfl (ms_bslice1 eTx (tName nX1) Tryz.underlying46 t48 rfl (by decide) (by decide) rfl rfl rfl) (fun v16 _ => (prs_cons (pri rfl (p_build (parts := [(0, .const (.int .i64 5)), (2, .tmp 16), (3, .tmp 20)]) t53 pl53 rfl rfl)) prs_nil)) (fun v16 _ => ?_)) nx_nil))
  all_goals first | refine stg_memJ [3, 8] 9 [9, 8, 7, 6, 5, 4, 2, 1, 0] [10] (fun v20 => [(10, 21, _)]) rfl rfl (prs_cons (pri rfl (p_build (parts := [(0, .const (.int .i64 1)), (1, .const (.string (ByteArray.mk #[120]))), (2, .tmp 13)]) t53 pl53 rfl rfl)) (prs_cons (pri rfl (p_loadA t53 rfl rfl rfl (g_all (k := 4) rfl))) prs_nil)) rfl rfl rfl rfl rfl rfl rfl rfl rfl rfl rfl (fun _ _ => rfl) rfl (ms_bslice eTy [yOut v18 (tName nX1), .mk 2 nX1 v9 [tBin oSub v8 (tName nX1) (tNum 1)] nilS [] nilS []] (parts := [(0, .tmp 18), (1, .tmp 19)]) Tryz.underlying51 t53 rfl (by decide) (by intro _; rfl) rfl (by decide) (by decide) rfl rfl rfl) (fun v20 _ => (prs_cons (pri rfl (p_build (parts := [(0, .const (.int .i64 5)), (2, .tmp 16), (3, .tmp 20)]) t53 pl53 rfl rfl)) prs_nil)) (fun v20 _ => ?_) | refine stg_memJ [3, 4] 5 [9, 8, 7, 6, 5, 4, 2, 1, 0] [10] (fun v16 => [(10, 21, _)]) rfl rfl (prs_cons (pri rfl (p_build (parts := [(0, .const (.int .i64 1)), (1, .const (.string (ByteArray.mk #[120]))), (2, .tmp 13)]) t53 pl53 rfl rfl)) (prs_cons (pri rfl (p_loadA t48 rfl rfl rfl (g_all (k := 3) rfl))) prs_nil)) rfl rfl rfl rfl rfl rfl rfl rfl rfl rfl rfl (fun _ _ => rfl) rfl (ms_bslice1 eTx (tName nX1) Tryz.underlying46 t48 rfl (by decide) (by decide) rfl rfl rfl) (fun v16 _ => (prs_cons (pri rfl (p_build (parts := [(0, .const (.int .i64 5)), (2, .tmp 16), (3, .tmp 20)]) t53 pl53 rfl rfl)) prs_nil)) (fun v16 _ => ?_) | refine stg_memJ [10] 2 [9, 8, 7, 6, 5, 4, 2, 1, 0] [3] (fun v13 => [(3, 14, _)]) rfl rfl (prs_cons (pri rfl (p_build (parts := [(0, .const (.int .i64 5)), (2, .tmp 16), (3, .tmp 20)]) t53 pl53 rfl rfl)) prs_nil) rfl rfl rfl rfl rfl rfl rfl rfl rfl rfl rfl (fun _ _ => rfl) rfl (ms_bslice1 eTx (tNum n) Tryz.underlying46 t48 rfl (by decide) (by decide) rfl rfl rfl) (fun v13 _ => (prs_cons (pri rfl (p_build (parts := [(0, .const (.int .i64 1)), (1, .const (.string (ByteArray.mk #[120]))), (2, .tmp 13)]) t53 pl53 rfl rfl)) prs_nil)) (fun v13 _ => ?_)
  all_goals first | refine stg_memJ [3, 10] 11 [11, 10, 9, 8, 7, 6, 5, 4, 3, 2, 1, 0] [] (fun v22 => []) rfl rfl (prs_cons (pri rfl (p_build (parts := [(0, .const (.int .i64 1)), (1, .const (.string (ByteArray.mk #[120]))), (2, .tmp 13)]) t53 pl53 rfl rfl)) (prs_cons (pri rfl (p_build (parts := [(0, .const (.int .i64 5)), (2, .tmp 16), (3, .tmp 20)]) t53 pl53 rfl rfl)) prs_nil)) rfl rfl rfl rfl rfl rfl rfl rfl rfl rfl rfl (fun _ _ => rfl) rfl (ms_bslice eTy (lpBody n v13 v16 v20 v18 v9 v8) (parts := [(0, .tmp 14), (1, .tmp 21)]) Tryz.underlying51 t53 rfl (by decide) (by intro _; rfl) rfl (by decide) (by decide) rfl rfl rfl) (fun v22 _ => prs_nil) (fun v22 _ => ?_)
  all_goals first | refine stg_memJ [] 12 [12, 11, 10, 9, 8, 7, 6, 5, 4, 3, 2, 1, 0] [] (fun v23 => []) rfl rfl prs_nil rfl rfl rfl rfl rfl rfl rfl rfl rfl rfl rfl (fun _ _ => rfl) rfl (ms_call (xs := [.tmp 22]) (main_spec v22 (lpBody n v13 v16 v20 v18 v9 v8)) cb18 [] [] [23] [] rfl rfl rfl rfl rfl rfl rfl rfl (fun _ _ => rfl) (fun _ _ _ => rfl)) (fun v23 _ => prs_nil) (fun v23 _ => ?_)
  all_goals first | refine stg_mem0J [] 13 [13, 12, 11, 10, 9, 8, 7, 6, 5, 4, 3, 2, 1, 0] [] (fun _ => []) rfl rfl prs_nil rfl rfl rfl rfl rfl rfl rfl rfl rfl (fun _ _ => rfl) rfl (ms_store_all (k := 2) t29 rfl rfl rfl rfl rfl rfl) (fun _ _ => prs_nil) (fun _ _ => ?_)
  all_goals first | refine stg_endJ [] rfl rfl prs_nil rfl rfl rfl ?_
  all_goals
   refine r_cret ?_
   refine r_collect 50 [13, 16, 20, 18, 9, 8, 22, 23] rfl loop_all ?_
   refine r_end ⟨v13, v16, v20, v18, v9, v8, v22, v23⟩ trivial rfl (rs1 (rv_cellA t29 rfl rfl rfl (g_all (k := 2) rfl))) rfl [50] [] rfl rfl rfl
end Go.Proofs.YtdcbbkpdlcojfaaGreat
