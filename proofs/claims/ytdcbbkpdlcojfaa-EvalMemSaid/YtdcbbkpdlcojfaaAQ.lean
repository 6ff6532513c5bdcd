/-
  Well-formed programs. Condition: names are short and of bytes below 128.
-/
import Derived.Test.YtdcbbkpdlcojfaaAP
namespace Go.Proofs.Ytdcbbkpdlcojfaa
set_option linter.unusedSimpArgs false
set_option linter.unusedVariables false
open Go.RowKit

theorem rY_eq (t : Ty) : rY t = (decide (t.kind ≥ 1) && decide (t.kind ≤ 8) && decide ((t.es.length : Int) = if t.kind = 3 then 2 else 1) && ((decide (t.kind = 1) || decide (t.kind = 2)) && identB t.name || !(decide (t.kind = 1) || decide (t.kind = 2)) && (t.name == ⟨#[]⟩)) &&
      (decide ((if t.kind = 4 then 2 else if t.kind = 5 then 1 else 0 : Int) > 0) || decide ((t.body.length : Int) = 0)) && (decide ((if t.kind = 4 then 2 else if t.kind = 5 then 1 else 0 : Int) > 1) || decide ((t.els.length : Int) = 0)) && !(t.es.any fun u => !rX u) && t.body.all rY && t.els.all rY) := by
  rw [not_any_not]
  have e1 : decide ((t.es.length : Int) = if t.kind = 3 then 2 else 1) = decide (t.es.length = if t.kind = 3 then 2 else 1) := decide_eq_decide.2 (by split <;> omega)
  have e2 : ((decide (t.kind = 1) || decide (t.kind = 2)) && identB t.name || !(decide (t.kind = 1) || decide (t.kind = 2)) && (t.name == ⟨#[]⟩)) = (if t.kind = 1 ∨ t.kind = 2 then identB t.name else decide (t.name = oNil)) := by
    rw [ba_eq]
    by_cases h : t.kind = 1 ∨ t.kind = 2
    · rw [if_pos h]
      have : (decide (t.kind = 1) || decide (t.kind = 2)) = true := by simpa using h
      rw [this]
      simp
    · rw [if_neg h]
      have : (decide (t.kind = 1) || decide (t.kind = 2)) = false := by simpa using h
      rw [this]
      simp only [Bool.false_and, Bool.not_false, Bool.true_and, Bool.false_or]
      rfl
  have e3 : (decide ((if t.kind = 4 then 2 else if t.kind = 5 then 1 else 0 : Int) > 0) || decide ((t.body.length : Int) = 0)) = (decide (t.kind = 4) || decide (t.kind = 5) || decide (t.body.length = 0)) := by
    rw [show decide ((t.body.length : Int) = 0) = decide (t.body.length = 0) from decide_eq_decide.2 (by omega)]
    congr 1
    by_cases h4 : t.kind = 4
    · simp [h4]
    · by_cases h5 : t.kind = 5
      · simp [h5]
      · simp [h4, h5]
  have e4 : (decide ((if t.kind = 4 then 2 else if t.kind = 5 then 1 else 0 : Int) > 1) || decide ((t.els.length : Int) = 0)) = (decide (t.kind = 4) || decide (t.els.length = 0)) := by
    rw [show decide ((t.els.length : Int) = 0) = decide (t.els.length = 0) from decide_eq_decide.2 (by omega)]
    congr 1
    by_cases h4 : t.kind = 4
    · simp [h4]
    · by_cases h5 : t.kind = 5
      · simp [h5]
      · simp [h4, h5]
  rw [e1, e2, e3, e4]
  cases t
  rw [rY, rXs_all, rYs_all, rYs_all]
  rfl
theorem rF_eq (f : Tf) : (f.ps.any (fun s => !identB s) || !identB f.name || !(f.body.all rY)) = !rF f := by
  unfold rF
  rw [rYs_all, ← not_any_not identB f.ps]
  cases f.ps.any (fun s => !identB s) <;> cases identB f.name <;> cases f.body.all rY <;> rfl
theorem tfs_fns {v : SV} {l : List Tf} : ∀ w G, (tfsA v l).pred w G → (∀ b, G b → b < w.heap.size) → ∃ G', (fnsA l).pred w G' ∧ ∀ b, G' b → G b := fun w G h _ => ⟨G, h.2, fun _ hb => hb⟩
set_option maxRecDepth 100000 in
theorem ry1_spec (v : SV) (l : List Ty) (ih : ∀ u ∈ l, Spec Try.prog 95 [yV u] [] [txsA u.ve u.es, tysA u.vb u.body, tysA u.vl u.els] (X := Unit) (fun _ => True) (fun _ => .bool (rY u)) (fun _ => []) (fun _ => [])) (u : Ty) (hu : u ∈ l) :
    Spec Try.prog 94 [yV u] [] [tysA v l] (X := Unit) (fun _ => True) (fun _ => .bool (!rY u)) (fun _ => []) (fun _ => []) := by
  refine r_enter Try.func94 rfl Try.ntmps94 rfl fun w0 M H => ?_
  refine r_more 0 7 rfl (tys_es hu) ?_
  refine r_more 0 8 rfl (tys_body hu) ?_
  refine r_more 0 9 rfl (tys_els hu) ?_
  refine r_seq ?_
  refine r_region ?_
  refine r_boxA rfl rfl fun b1 => ?_
  refine r_p (p_assign rfl) rfl ?_
  refine r_nil ?_
  refine r_seq ?_
  refine r_region ?_
  refine r_p (p_loadA t54 rfl rfl rfl (g_all (k := 1) rfl)) rfl ?_
  refine r_call (xs := [.tmp 3]) (ih u hu) cb95 [] [(false, 7), (false, 8), (false, 9)] [] [] rfl rfl rfl rfl rfl rfl rfl rfl (fun _ _ => rfl) (fun _ _ _ => rfl) rfl (fun _ _ => ?_)
  refine r_p (p_not rfl) rfl ?_
  refine r_p (p_assign rfl) rfl ?_
  refine r_nil ?_
  refine r_cret ?_
  refine r_ret () trivial rfl (rs1 (rv_tmp rfl)) rfl [] [] rfl rfl rfl
set_option maxRecDepth 100000 in
theorem rblk_spec (v : SV) (l : List Ty) (hl : l.length ≤ 1000000) (ih : ∀ u ∈ l, Spec Try.prog 95 [yV u] [] [txsA u.ve u.es, tysA u.vb u.body, tysA u.vl u.els] (X := Unit) (fun _ => True) (fun _ => .bool (rY u)) (fun _ => []) (fun _ => [])) :
    Spec Try.prog 78 [sv v] [] [tysA v l] (X := Unit) (fun _ => True) (fun _ => .bool (l.all rY)) (fun _ => []) (fun _ => []) := by
  refine r_enter Try.func78 rfl Try.ntmps78 rfl fun w0 M H => ?_
  refine r_more 0 1 rfl tys_sl ?_
  refine r_seq ?_
  refine r_region ?_
  refine r_p (p_assign rfl) rfl ?_
  refine r_nil ?_
  refine r_seq ?_
  refine r_region ?_
  refine r_p (p_move rfl) rfl ?_
  refine r_call (xs := [.tmp 3, .func 94]) (cony_spec v l hl 94 [] (tysA v l) (fun u => !rY u) cb94 (fun u hu => ry1_spec v l ih u hu)) cb93 [] [(false, 1), (false, 0)] [] [] rfl rfl rfl rfl rfl rfl rfl rfl (fun _ _ => rfl) (fun _ _ _ => rfl) rfl (fun _ _ => ?_)
  refine r_p (p_not rfl) rfl ?_
  refine r_p (p_assign rfl) rfl ?_
  refine r_nil ?_
  refine r_cret ?_
  refine r_ret () trivial rfl (rs1 (rv_tmp rfl)) (congrArg Value.bool (not_any_not rY l)) [] [] rfl rfl rfl
set_option maxHeartbeats 8000000 in
set_option maxRecDepth 100000 in
theorem ry_step (t : Ty) (ht : GY t) (ihb : ∀ u ∈ t.body, Spec Try.prog 95 [yV u] [] [txsA u.ve u.es, tysA u.vb u.body, tysA u.vl u.els] (X := Unit) (fun _ => True) (fun _ => .bool (rY u)) (fun _ => []) (fun _ => [])) (ihl : ∀ u ∈ t.els, Spec Try.prog 95 [yV u] [] [txsA u.ve u.es, tysA u.vb u.body, tysA u.vl u.els] (X := Unit) (fun _ => True) (fun _ => .bool (rY u)) (fun _ => []) (fun _ => [])) :
    Spec Try.prog 95 [yV t] [] [txsA t.ve t.es, tysA t.vb t.body, tysA t.vl t.els] (X := Unit) (fun _ => True) (fun _ => .bool (rY t)) (fun _ => []) (fun _ => []) := by
  refine r_enter Try.func95 rfl Try.ntmps95 rfl fun w0 M H => ?_
  refine r_more 0 3 rfl txs_sl ?_
  refine r_more 1 4 rfl tys_sl ?_
  refine r_more 2 5 rfl tys_sl ?_
  have hnm := GY_name ht
  obtain ⟨hel, heg⟩ := GY_es ht
  obtain ⟨hbl, hbg⟩ := GY_body ht
  obtain ⟨hll, hlg⟩ := GY_els ht
  refine r_seq ?_
  refine r_region ?_
  refine r_boxA rfl rfl fun b1 => ?_
  refine r_p (p_assign rfl) rfl ?_
  refine r_nil ?_
  refine r_seq ?_
  refine r_region ?_
  refine r_p (p_field0 fo54_0 rfl) rfl ?_
  refine r_p (p_load1 t3 rfl rfl (g_row1 (k := 1) rfl rfl)) rfl ?_
  refine r_p (p_bin rfl rfl b_eq) rfl ?_
  refine r_p (p_move rfl) rfl ?_
  refine r_gp [] rfl rfl trivial (fun hg1 => p_field0 fo54_0 rfl) rfl ?_
  refine r_gp [(10, _)] rfl rfl ⟨rfl, trivial⟩ (fun hg2 => p_load1 t3 rfl rfl (g_row1 (k := 1) rfl rfl)) rfl ?_
  refine r_gp [(10, _), (11, _)] rfl rfl ⟨rfl, rfl, trivial⟩ (fun hg3 => p_bin rfl rfl b_eq) rfl ?_
  refine r_p (p_pick rfl rfl rfl (by first | exact pick_and | exact pick_or |  rfl)) rfl ?_
  refine r_p (p_assign rfl) rfl ?_
  refine r_nil ?_
  refine r_seq ?_
  refine r_region ?_
  refine r_p (p_assign rfl) rfl ?_
  refine r_nil ?_
  refine r_seq_cut (X := Unit) (fun _ => True) (fun _ => [(1, .pointer (some ⟨b1, 0, none⟩)), (3, .bool (decide (t.kind = 1) || decide (t.kind = 2))), (4, .int .i64 (if t.kind = 3 then 2 else 1))]) (fun _ => [(1, row b1 54 (eTy t))]) (fun _ => [(0, txsA t.ve t.es), (1, tysA t.vb t.body), (2, tysA t.vl t.els), (3, sl 4 eTx (sv t.ve) t.es), (4, sl 5 eTy (sv t.vb) t.body), (5, sl 5 eTy (sv t.vl) t.els)]) ?_ (fun _ _ => ?_)
  · refine r_seq ?_
    refine r_region ?_
    refine r_p (p_field0 fo54_0 rfl) rfl ?_
    refine r_p (p_load1 t3 rfl rfl (g_row1 (k := 1) rfl rfl)) rfl ?_
    refine r_p (p_bin rfl rfl b_eq) rfl ?_
    refine r_nil ?_
    refine r_cond rfl (fun h4 => ?_) (fun h4 => ?_)
    · have q3 : t.kind = 3 := of_decide_eq_true h4
      refine r_region ?_
      refine r_p (p_assign rfl) rfl ?_
      refine r_nil ?_
      refine r_here () trivial (by rw [if_pos q3]; rfl) rfl rfl
    · have q3 : ¬ t.kind = 3 := of_decide_eq_false h4
      refine r_skip ?_
      refine r_here () trivial (by rw [if_neg q3]; rfl) rfl rfl
  · refine r_seq ?_
    refine r_region ?_
    refine r_p (p_assign rfl) rfl ?_
    refine r_nil ?_
    refine r_seq_cut (X := Unit) (fun _ => True) (fun _ => [(1, .pointer (some ⟨b1, 0, none⟩)), (3, .bool (decide (t.kind = 1) || decide (t.kind = 2))), (4, .int .i64 (if t.kind = 3 then 2 else 1)), (5, .int .i64 (if t.kind = 4 then 2 else if t.kind = 5 then 1 else 0))]) (fun _ => [(1, row b1 54 (eTy t))]) (fun _ => [(0, txsA t.ve t.es), (1, tysA t.vb t.body), (2, tysA t.vl t.els), (3, sl 4 eTx (sv t.ve) t.es), (4, sl 5 eTy (sv t.vb) t.body), (5, sl 5 eTy (sv t.vl) t.els)]) ?_ (fun _ _ => ?_)
    · refine r_seq ?_
      refine r_region ?_
      refine r_p (p_field0 fo54_0 rfl) rfl ?_
      refine r_p (p_load1 t3 rfl rfl (g_row1 (k := 1) rfl rfl)) rfl ?_
      refine r_nil ?_
      refine r_block ?_
      refine r_seq ?_
      refine r_region ?_
      refine r_p (p_bin rfl rfl b_eq) rfl ?_
      refine r_p (p_assign rfl) rfl ?_
      refine r_nil ?_
      refine r_cond rfl (fun h5 => ?_) (fun h5 => ?_)
      · have q4 : t.kind = 4 := of_decide_eq_true h5
        refine r_region ?_
        refine r_p (p_assign rfl) rfl ?_
        refine r_nil ?_
        refine r_here () trivial (by rw [if_pos q4]; rfl) rfl rfl
      · have q4 : ¬ t.kind = 4 := of_decide_eq_false h5
        refine r_seq ?_
        refine r_region ?_
        refine r_p (p_bin rfl rfl b_eq) rfl ?_
        refine r_p (p_assign rfl) rfl ?_
        refine r_nil ?_
        refine r_cond rfl (fun h6 => ?_) (fun h6 => ?_)
        · have q5 : t.kind = 5 := of_decide_eq_true h6
          refine r_region ?_
          refine r_p (p_assign rfl) rfl ?_
          refine r_nil ?_
          refine r_here () trivial (by rw [if_neg q4, if_pos q5]; rfl) rfl rfl
        · have q5 : ¬ t.kind = 5 := of_decide_eq_false h6
          refine r_skip ?_
          refine r_here () trivial (by rw [if_neg q4, if_neg q5]; rfl) rfl rfl
    · refine r_seq ?_
      refine r_region ?_
      refine r_p (p_field0 fo54_0 rfl) rfl ?_
      refine r_p (p_load1 t3 rfl rfl (g_row1 (k := 1) rfl rfl)) rfl ?_
      refine r_p (p_bin rfl rfl b_ge) rfl ?_
      refine r_p (p_move rfl) rfl ?_
      refine r_gp [] rfl rfl trivial (fun hg7 => p_field0 fo54_0 rfl) rfl ?_
      refine r_gp [(27, _)] rfl rfl ⟨rfl, trivial⟩ (fun hg8 => p_load1 t3 rfl rfl (g_row1 (k := 1) rfl rfl)) rfl ?_
      refine r_gp [(27, _), (28, _)] rfl rfl ⟨rfl, rfl, trivial⟩ (fun hg9 => p_bin rfl rfl b_le) rfl ?_
      refine r_p (p_pick rfl rfl rfl (by first | exact pick_and | exact pick_or |  rfl)) rfl ?_
      refine r_p (p_move rfl) rfl ?_
      refine r_gp [] rfl rfl trivial (fun hg10 => p_field0 fo54_2 rfl) rfl ?_
      refine r_gp [(32, _)] rfl rfl ⟨rfl, trivial⟩ (fun hg11 => p_load1 t51 rfl rfl (g_row1 (k := 1) rfl rfl)) rfl ?_
      refine r_gp [(32, _), (33, _)] rfl rfl ⟨rfl, rfl, trivial⟩ (fun hg12 => p_len_sl Try.underlying51 rfl (hs_sl (k := 3) rfl)) rfl ?_
      refine r_gp [(32, _), (33, _), (34, _)] rfl rfl ⟨rfl, rfl, rfl, trivial⟩ (fun hg13 => p_move rfl) rfl ?_
      refine r_gp [(32, _), (33, _), (34, _), (35, _)] rfl rfl ⟨rfl, rfl, rfl, rfl, trivial⟩ (fun hg14 => p_bin rfl rfl b_eq) rfl ?_
      refine r_p (p_pick rfl rfl rfl (by first | exact pick_and | exact pick_or |  rfl)) rfl ?_
      refine r_p (p_move rfl) rfl ?_
      refine r_gp [] rfl rfl trivial (fun hg15 => p_move rfl) rfl ?_
      refine r_gp [(39, _)] rfl rfl ⟨rfl, trivial⟩ (fun hg16 => p_move rfl) rfl ?_
      refine r_gp2 [] [(39, _), (40, _)] rfl rfl trivial ⟨rfl, rfl, trivial⟩ (fun hg17 hg17' => p_field0 fo54_1 rfl) rfl ?_
      refine r_gp2 [(41, _)] [(39, _), (40, _)] rfl rfl ⟨rfl, trivial⟩ ⟨rfl, rfl, trivial⟩ (fun hg18 hg18' => p_load1 t9 rfl rfl (g_row1 (k := 1) rfl rfl)) rfl ?_
      refine r_gms2 [(41, _), (42, _)] [(39, _), (40, _)] rfl rfl ⟨rfl, rfl, trivial⟩ ⟨rfl, rfl, trivial⟩ (fun hg19 hg19' => ms_call (xs := [.tmp 42]) (ident_spec t.name hnm.1 hnm.2) cb77 [] [] [] [] rfl rfl rfl rfl rfl rfl rfl rfl (fun _ _ => rfl) (fun _ _ _ => rfl)) rfl ?_
      refine r_gp [(39, _), (40, _)] rfl rfl ⟨rfl, rfl, trivial⟩ (fun hg20 => p_pick rfl rfl rfl (by first | exact pick_and | exact pick_or | exact pick_and2 hg20 | exact pick_or2 hg20 | rfl)) rfl ?_
      refine r_gp [(39, _), (40, _), (44, _)] rfl rfl ⟨rfl, rfl, rfl, trivial⟩ (fun hg21 => p_move rfl) rfl ?_
      refine r_gp2 [] [(39, _), (40, _), (44, _), (45, _)] rfl rfl trivial ⟨rfl, rfl, rfl, rfl, trivial⟩ (fun hg22 hg22' => p_move rfl) rfl ?_
      refine r_gp2 [(46, _)] [(39, _), (40, _), (44, _), (45, _)] rfl rfl ⟨rfl, trivial⟩ ⟨rfl, rfl, rfl, rfl, trivial⟩ (fun hg23 hg23' => p_not rfl) rfl ?_
      refine r_gp2 [(46, _), (47, _)] [(39, _), (40, _), (44, _), (45, _)] rfl rfl ⟨rfl, rfl, trivial⟩ ⟨rfl, rfl, rfl, rfl, trivial⟩ (fun hg24 hg24' => p_move rfl) rfl ?_
      refine r_gp2 [] [(46, _), (47, _), (48, _)] rfl rfl trivial ⟨rfl, rfl, rfl, trivial⟩ (fun hg25 hg25' => p_field0 fo54_1 rfl) rfl ?_
      refine r_gp2 [(49, _)] [(46, _), (47, _), (48, _)] rfl rfl ⟨rfl, trivial⟩ ⟨rfl, rfl, rfl, trivial⟩ (fun hg26 hg26' => p_load1 t9 rfl rfl (g_row1 (k := 1) rfl rfl)) rfl ?_
      refine r_gp2 [(49, _), (50, _)] [(46, _), (47, _), (48, _)] rfl rfl ⟨rfl, rfl, trivial⟩ ⟨rfl, rfl, rfl, trivial⟩ (fun hg27 hg27' => p_bin rfl rfl b_seq) rfl ?_
      refine r_gp2 [(46, _), (47, _), (48, _)] [(39, _), (40, _), (44, _), (45, _)] rfl rfl ⟨rfl, rfl, rfl, trivial⟩ ⟨rfl, rfl, rfl, rfl, trivial⟩ (fun hg28 hg28' => p_pick rfl rfl rfl (by first | exact pick_and | exact pick_or | exact pick_and2 hg28 | exact pick_or2 hg28 |exact pick_and2 (band2 hg28 hg28') | exact pick_or2 (band2 hg28 hg28') | rfl)) rfl ?_
      refine r_gp [(39, _), (40, _), (44, _), (45, _)] rfl rfl ⟨rfl, rfl, rfl, rfl, trivial⟩ (fun hg29 => p_pick rfl rfl rfl (by first | exact pick_and | exact pick_or | exact pick_and2 hg29 | exact pick_or2 hg29 | rfl)) rfl ?_
      refine r_p (p_pick rfl rfl rfl (by first | exact pick_and | exact pick_or |  rfl)) rfl ?_
      refine r_p (p_move rfl) rfl ?_
      refine r_gp [] rfl rfl trivial (fun hg30 => p_move rfl) rfl ?_
      refine r_gp [(56, _)] rfl rfl ⟨rfl, trivial⟩ (fun hg31 => p_bin rfl rfl b_gt) rfl ?_
      refine r_gp [(56, _), (57, _)] rfl rfl ⟨rfl, rfl, trivial⟩ (fun hg32 => p_move rfl) rfl ?_
      refine r_gp2 [] [(56, _), (57, _), (58, _)] rfl rfl trivial ⟨rfl, rfl, rfl, trivial⟩ (fun hg33 hg33' => p_field0 fo54_3 rfl) rfl ?_
      refine r_gp2 [(59, _)] [(56, _), (57, _), (58, _)] rfl rfl ⟨rfl, trivial⟩ ⟨rfl, rfl, rfl, trivial⟩ (fun hg34 hg34' => p_load1 t52 rfl rfl (g_row1 (k := 1) rfl rfl)) rfl ?_
      refine r_gp2 [(59, _), (60, _)] [(56, _), (57, _), (58, _)] rfl rfl ⟨rfl, rfl, trivial⟩ ⟨rfl, rfl, rfl, trivial⟩ (fun hg35 hg35' => p_len_sl Try.underlying52 rfl (hs_sl (k := 4) rfl)) rfl ?_
      refine r_gp2 [(59, _), (60, _), (61, _)] [(56, _), (57, _), (58, _)] rfl rfl ⟨rfl, rfl, rfl, trivial⟩ ⟨rfl, rfl, rfl, trivial⟩ (fun hg36 hg36' => p_bin rfl rfl b_eq) rfl ?_
      refine r_gp [(56, _), (57, _), (58, _)] rfl rfl ⟨rfl, rfl, rfl, trivial⟩ (fun hg37 => p_pick rfl rfl rfl (by first | exact pick_and | exact pick_or | exact pick_and2 hg37 | exact pick_or2 hg37 | rfl)) rfl ?_
      refine r_p (p_pick rfl rfl rfl (by first | exact pick_and | exact pick_or |  rfl)) rfl ?_
      refine r_p (p_move rfl) rfl ?_
      refine r_gp [] rfl rfl trivial (fun hg38 => p_move rfl) rfl ?_
      refine r_gp [(66, _)] rfl rfl ⟨rfl, trivial⟩ (fun hg39 => p_bin rfl rfl b_gt) rfl ?_
      refine r_gp [(66, _), (67, _)] rfl rfl ⟨rfl, rfl, trivial⟩ (fun hg40 => p_move rfl) rfl ?_
      refine r_gp2 [] [(66, _), (67, _), (68, _)] rfl rfl trivial ⟨rfl, rfl, rfl, trivial⟩ (fun hg41 hg41' => p_field0 fo54_4 rfl) rfl ?_
      refine r_gp2 [(69, _)] [(66, _), (67, _), (68, _)] rfl rfl ⟨rfl, trivial⟩ ⟨rfl, rfl, rfl, trivial⟩ (fun hg42 hg42' => p_load1 t52 rfl rfl (g_row1 (k := 1) rfl rfl)) rfl ?_
      refine r_gp2 [(69, _), (70, _)] [(66, _), (67, _), (68, _)] rfl rfl ⟨rfl, rfl, trivial⟩ ⟨rfl, rfl, rfl, trivial⟩ (fun hg43 hg43' => p_len_sl Try.underlying52 rfl (hs_sl (k := 5) rfl)) rfl ?_
      refine r_gp2 [(69, _), (70, _), (71, _)] [(66, _), (67, _), (68, _)] rfl rfl ⟨rfl, rfl, rfl, trivial⟩ ⟨rfl, rfl, rfl, trivial⟩ (fun hg44 hg44' => p_bin rfl rfl b_eq) rfl ?_
      refine r_gp [(66, _), (67, _), (68, _)] rfl rfl ⟨rfl, rfl, rfl, trivial⟩ (fun hg45 => p_pick rfl rfl rfl (by first | exact pick_and | exact pick_or | exact pick_and2 hg45 | exact pick_or2 hg45 | rfl)) rfl ?_
      refine r_p (p_pick rfl rfl rfl (by first | exact pick_and | exact pick_or |  rfl)) rfl ?_
      refine r_p (p_move rfl) rfl ?_
      refine r_gp [] rfl rfl trivial (fun hg46 => p_field0 fo54_2 rfl) rfl ?_
      refine r_gp [(76, _)] rfl rfl ⟨rfl, trivial⟩ (fun hg47 => p_load1 t51 rfl rfl (g_row1 (k := 1) rfl rfl)) rfl ?_
      refine r_gms [(76, _), (77, _)] rfl rfl ⟨rfl, rfl, trivial⟩ (fun hg48 => ms_call (xs := [.tmp 77, .func 104]) (conx_spec t.ve t.es hel 104 [] (txsA t.ve t.es) (fun u => !rX u) cb104 (fun u hu => rx2_spec t.ve t.es (fun u hu => rx_spec u (heg.mem u hu)) u hu)) cb103 [] [(false, 3), (false, 0)] [] [] rfl rfl rfl rfl rfl rfl rfl rfl (fun _ _ => rfl) (fun _ _ _ => rfl)) rfl ?_
      refine r_gp [(76, _), (77, _), (78, _)] rfl rfl ⟨rfl, rfl, rfl, trivial⟩ (fun hg49 => p_not rfl) rfl ?_
      refine r_p (p_pick rfl rfl rfl (by first | exact pick_and | exact pick_or |  rfl)) rfl ?_
      refine r_p (p_move rfl) rfl ?_
      refine r_gp [] rfl rfl trivial (fun hg50 => p_field0 fo54_3 rfl) rfl ?_
      refine r_gp [(82, _)] rfl rfl ⟨rfl, trivial⟩ (fun hg51 => p_load1 t52 rfl rfl (g_row1 (k := 1) rfl rfl)) rfl ?_
      refine r_gms [(82, _), (83, _)] rfl rfl ⟨rfl, rfl, trivial⟩ (fun hg52 => ms_call (xs := [.tmp 83]) (rblk_spec t.vb t.body hbl ihb) cb78 [] [(false, 1)] [] [] rfl rfl rfl rfl rfl rfl rfl rfl (fun _ _ => rfl) (fun _ _ _ => rfl)) rfl ?_
      refine r_p (p_pick rfl rfl rfl (by first | exact pick_and | exact pick_or |  rfl)) rfl ?_
      refine r_p (p_move rfl) rfl ?_
      refine r_gp [] rfl rfl trivial (fun hg53 => p_field0 fo54_4 rfl) rfl ?_
      refine r_gp [(87, _)] rfl rfl ⟨rfl, trivial⟩ (fun hg54 => p_load1 t52 rfl rfl (g_row1 (k := 1) rfl rfl)) rfl ?_
      refine r_gms [(87, _), (88, _)] rfl rfl ⟨rfl, rfl, trivial⟩ (fun hg55 => ms_call (xs := [.tmp 88]) (rblk_spec t.vl t.els hll ihl) cb78 [] [(false, 2)] [] [] rfl rfl rfl rfl rfl rfl rfl rfl (fun _ _ => rfl) (fun _ _ _ => rfl)) rfl ?_
      refine r_p (p_pick rfl rfl rfl (by first | exact pick_and | exact pick_or |  rfl)) rfl ?_
      refine r_p (p_assign rfl) rfl ?_
      refine r_nil ?_
      refine r_cret ?_
      refine r_ret () trivial rfl (rs1 (rv_tmp rfl)) (congrArg Value.bool (rY_eq t).symm) [] [] rfl rfl rfl
theorem ry_all : ∀ (n : Nat) (t : Ty), SizeOf.sizeOf t < n → GY t → Spec Try.prog 95 [yV t] [] [txsA t.ve t.es, tysA t.vb t.body, tysA t.vl t.els] (X := Unit) (fun _ => True) (fun _ => .bool (rY t)) (fun _ => []) (fun _ => [])
  | 0, _, h, _ => absurd h (Nat.not_lt_zero _)
  | n + 1, t, h, ht => ry_step t ht (fun u hu => ry_all n u (by have := ty_lt (.inl hu); omega) ((GY_body ht).2.mem u hu)) (fun u hu => ry_all n u (by have := ty_lt (.inr hu); omega) ((GY_els ht).2.mem u hu))
theorem ry_spec (t : Ty) (ht : GY t) : Spec Try.prog 95 [yV t] [] [txsA t.ve t.es, tysA t.vb t.body, tysA t.vl t.els] (X := Unit) (fun _ => True) (fun _ => .bool (rY t)) (fun _ => []) (fun _ => []) := ry_all _ t (Nat.lt_succ_self _) ht
set_option maxRecDepth 100000 in
theorem right11_spec (s : ByteArray) (hs : nmB s) :
    Spec Try.prog 76 [.string s] [] [] (X := Unit) (fun _ => True) (fun _ => .bool (!identB s)) (fun _ => []) (fun _ => []) := by
  refine r_enter Try.func76 rfl Try.ntmps76 rfl fun w0 M H => ?_
  refine r_seq ?_
  refine r_region ?_
  refine r_p (p_assign rfl) rfl ?_
  refine r_nil ?_
  refine r_seq ?_
  refine r_region ?_
  refine r_p (p_move rfl) rfl ?_
  refine r_call (xs := [.tmp 3]) (ident_spec s hs.1 hs.2) cb77 [] [] [] [] rfl rfl rfl rfl rfl rfl rfl rfl (fun _ _ => rfl) (fun _ _ _ => rfl) rfl (fun _ _ => ?_)
  refine r_p (p_not rfl) rfl ?_
  refine r_p (p_assign rfl) rfl ?_
  refine r_nil ?_
  refine r_cret ?_
  refine r_ret () trivial rfl (rs1 (rv_tmp rfl)) rfl [] [] rfl rfl rfl
set_option maxHeartbeats 1000000 in
set_option maxRecDepth 100000 in
theorem right1_spec (f : Tf) (fs : List Tf) (hf : f ∈ fs) (hg : GF f) :
    Spec Try.prog 74 [tfV f] [] [fnsA fs] (X := Unit) (fun _ => True) (fun _ => .bool (!rF f)) (fun _ => []) (fun _ => []) := by
  refine r_enter Try.func74 rfl Try.ntmps74 rfl fun w0 M H => ?_
  refine r_more 0 1 rfl (fns_f hf) ?_
  refine r_more 1 2 rfl tf_ps ?_
  refine r_more 1 3 rfl tf_body ?_
  obtain ⟨g1, g2, g3, g4, g5, g6⟩ := hg
  refine r_seq ?_
  refine r_region ?_
  refine r_boxA rfl rfl fun b1 => ?_
  refine r_p (p_assign rfl) rfl ?_
  refine r_nil ?_
  refine r_seq ?_
  refine r_region ?_
  refine r_p (p_field0 fo64_1 rfl) rfl ?_
  refine r_p (p_load1 t62 rfl rfl (g_row1 (k := 1) rfl rfl)) rfl ?_
  refine r_call (xs := [.tmp 5, .func 76]) (cons_spec f.vp f.ps g3 76 (fun s => !identB s) cb76 (fun s hs => right11_spec s (g2 s hs))) cb75 [] [(false, 2)] [] [] rfl rfl rfl rfl rfl rfl rfl rfl (fun _ _ => rfl) (fun _ _ _ => rfl) rfl (fun _ _ => ?_)
  refine r_p (p_assign rfl) rfl ?_
  refine r_nil ?_
  refine r_seq ?_
  refine r_region ?_
  refine r_p (p_move rfl) rfl ?_
  refine r_p (p_move rfl) rfl ?_
  refine r_gp [] rfl rfl trivial (fun hg1 => p_field0 fo64_0 rfl) rfl ?_
  refine r_gp [(9, _)] rfl rfl ⟨rfl, trivial⟩ (fun hg2 => p_load1 t9 rfl rfl (g_row1 (k := 1) rfl rfl)) rfl ?_
  refine r_gms [(9, _), (10, _)] rfl rfl ⟨rfl, rfl, trivial⟩ (fun hg3 => ms_call (xs := [.tmp 10]) (ident_spec f.name g1.1 g1.2) cb77 [] [] [] [] rfl rfl rfl rfl rfl rfl rfl rfl (fun _ _ => rfl) (fun _ _ _ => rfl)) rfl ?_
  refine r_gp [(9, _), (10, _), (11, _)] rfl rfl ⟨rfl, rfl, rfl, trivial⟩ (fun hg4 => p_not rfl) rfl ?_
  refine r_p (p_pick rfl rfl rfl (by first | exact pick_and | exact pick_or |  rfl)) rfl ?_
  refine r_p (p_move rfl) rfl ?_
  refine r_gp [] rfl rfl trivial (fun hg5 => p_field0 fo64_2 rfl) rfl ?_
  refine r_gp [(15, _)] rfl rfl ⟨rfl, trivial⟩ (fun hg6 => p_load1 t52 rfl rfl (g_row1 (k := 1) rfl rfl)) rfl ?_
  refine r_gms [(15, _), (16, _)] rfl rfl ⟨rfl, rfl, trivial⟩ (fun hg7 => ms_call (xs := [.tmp 16]) (rblk_spec f.vb f.body g4 (fun u hu => ry_spec u (g5.mem u hu))) cb78 [] [(false, 3)] [] [] rfl rfl rfl rfl rfl rfl rfl rfl (fun _ _ => rfl) (fun _ _ _ => rfl)) rfl ?_
  refine r_gp [(15, _), (16, _), (17, _)] rfl rfl ⟨rfl, rfl, rfl, trivial⟩ (fun hg8 => p_not rfl) rfl ?_
  refine r_p (p_pick rfl rfl rfl (by first | exact pick_and | exact pick_or |  rfl)) rfl ?_
  refine r_p (p_assign rfl) rfl ?_
  refine r_nil ?_
  refine r_cret ?_
  refine r_ret () trivial rfl (rs1 (rv_tmp rfl)) (congrArg Value.bool (rF_eq f)) [] [] rfl rfl rfl
set_option maxRecDepth 100000 in
theorem right_spec (vp : SV) (fs : List Tf) (hg : GP fs) :
    Spec Try.prog 66 [.agg #[sv vp]] [] [tfsA vp fs] (X := Unit) (fun _ => True) (fun _ => .bool (rP fs)) (fun _ => []) (fun _ => []) := by
  refine r_enter Try.func66 rfl Try.ntmps66 rfl fun w0 M H => ?_
  refine r_more 0 1 rfl tfs_sl ?_
  refine r_more 0 2 rfl tfs_fns ?_
  refine r_seq ?_
  refine r_region ?_
  refine r_boxA rfl rfl fun b1 => ?_
  refine r_p (p_assign rfl) rfl ?_
  refine r_nil ?_
  refine r_seq ?_
  refine r_region ?_
  refine r_p (p_field0 fo40_0 rfl) rfl ?_
  refine r_p (p_load1 t38 rfl rfl (g_row1 (k := 1) rfl rfl)) rfl ?_
  refine r_call (xs := [.tmp 4, .func 74]) (conf_spec vp fs hg.1 74 [] (fnsA fs) (fun f => !rF f) cb74 (fun f hf => right1_spec f fs hf (hg.2 f hf))) cb73 [] [(false, 1), (false, 2)] [] [] rfl rfl rfl rfl rfl rfl rfl rfl (fun _ _ => rfl) (fun _ _ _ => rfl) rfl (fun _ _ => ?_)
  refine r_p (p_not rfl) rfl ?_
  refine r_p (p_assign rfl) rfl ?_
  refine r_nil ?_
  refine r_cret ?_
  refine r_ret () trivial rfl (rs1 (rv_tmp rfl)) (congrArg Value.bool (not_any_not rF fs)) [] [] rfl rfl rfl

end Go.Proofs.Ytdcbbkpdlcojfaa
