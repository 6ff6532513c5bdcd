/-
  The bytes of a snapshot; copies of lists. Conditions: few.
-/
import Derived.Test.YtohenjmkhncoiaaYN
namespace Go.Proofs.Ytohenjmkhncoiaa
set_option linter.unusedSimpArgs false
set_option linter.unusedVariables false
open Go.RowKit

theorem okW_getD {ns : List Int} (h : ∀ a ∈ ns, okW a) : ∀ j, j < ns.length → okW (ns.getD j 0) := fun j hj => by
  rw [List.getD_eq_getElem?_getD, List.getElem?_eq_getElem hj]
  exact h _ (List.getElem_mem hj)
theorem eSn_eq (x : Sp) : eSn x.sn = ([x.kind, x.steps, x.due].flatMap eInt ++ [x.pc, x.f].flatMap put4 ++ ((List.range 16).map x.R).flatMap put4 ++ ((List.range 4).map x.C).flatMap put4 ++ [(x.rights.length : Int)].flatMap eInt ++ x.rights.flatMap eInt ++ eLst eTxt (x.data.map bytesI) ++ eLst eTxt (x.code.map bytesI) ++ [(x.inputs.length : Int)].flatMap eInt ++ x.inputs.flatMap put4 ++ [(x.outputs.length : Int)].flatMap eInt ++ x.outputs.flatMap put4) := by
  unfold eSn Sp.sn
  dsimp only
  rw [show eLst eInt x.rights = eInt (x.rights.length : Int) ++ x.rights.flatMap eInt from rfl, show eLst put4 x.inputs = eInt (x.inputs.length : Int) ++ x.inputs.flatMap put4 from rfl, show eLst put4 x.outputs = eInt (x.outputs.length : Int) ++ x.outputs.flatMap put4 from rfl]
  simp only [List.append_assoc, List.flatMap_cons, List.flatMap_nil, List.append_nil]
theorem eSn_len (x : Sp) : (eSn x.sn).length = 152 + 8 * x.rights.length + (x.data.flatMap eSt).length + (x.code.flatMap eSt).length + 4 * x.inputs.length + 4 * x.outputs.length := by
  rw [eSn_eq]
  simp only [List.length_append, eInt_fm_len, put4_fm_len, eLst_st_len, List.length_cons, List.length_nil, List.length_map, List.length_range]
  omega
theorem x56_ok {x : Sp} : ((snC x).drop 1).take 24 = stC x := rfl

set_option maxHeartbeats 1000000 in
set_option maxRecDepth 100000 in
theorem bytes_spec (x : Sp) (hok : x.sn.Ok) (hlen : (eSn x.sn).length ≤ 100000) :
    Spec Try.prog 32 [snV x] [] [snA x] (X := Unit) (fun _ => True) (fun _ => .string (ofI (eSn x.sn))) (fun _ => []) (fun _ => []) := by
  refine r_enter Try.func32 rfl Try.ntmps32 rfl fun w0 M H => ?_
  rw [eSn_len] at hlen
  refine r_nilown 90 (α := Int) (S := 5) (s := 1) (enc := eU8) ?_
  refine r_more 0 10 rfl snA_r ?_
  refine r_more 0 11 rfl snA_d ?_
  refine r_more 0 12 rfl snA_c ?_
  refine r_more 0 13 rfl snA_i ?_
  refine r_more 0 14 rfl snA_o ?_
  refine r_seq ?_
  refine r_region ?_
  refine r_boxA rfl rfl fun b1 => ?_
  refine r_p (p_assign rfl) rfl ?_
  refine r_nil ?_
  refine r_seq ?_
  refine r_region ?_
  refine r_p (p_build (parts := []) t107 pl107 rfl rfl) rfl ?_
  refine r_boxA rfl rfl fun b6 => ?_
  refine r_p (p_assign rfl) rfl ?_
  refine r_nil ?_
  refine r_seq ?_
  refine r_region ?_
  refine r_p (p_field0 fo59_1 rfl) rfl ?_
  refine r_p (p_loadA t56 rfl rfl rfl (g_row (us := (stC x)) (k := 1) rfl rfl)) rfl ?_
  refine r_alloc t56 rfl rfl fun b4 => ?_
  refine r_store_all (k := 4) t56 rfl rfl rfl rfl rfl rfl ?_
  refine r_freeze 4 4 (A' := row b4 56 (stC x)) rfl (fun _ _ h => h) ?_
  refine r_more 4 27 rfl (row_sl (o := 1) (s := 1) (enc := eU) (n := 16) (l := (List.range 16).map x.R) (by simp) (by unfold maxLen; omega) rfl) ?_
  refine r_more 4 31 rfl (row_sl (o := 18) (s := 1) (enc := eU) (n := 4) (l := (List.range 4).map x.C) (by simp) (by unfold maxLen; omega) rfl) ?_
  refine r_nil ?_
  refine r_seq ?_
  refine r_region ?_
  refine r_p (p_move rfl) rfl ?_
  refine r_p (p_field0 fo59_0 rfl) rfl ?_
  refine r_p (p_load1 t3 rfl rfl (g_row1 (k := 1) rfl rfl)) rfl ?_
  refine r_p (p_field0 fo56_4 rfl) rfl ?_
  refine r_p (p_load1 t3 rfl rfl (g_row1R (k := 4) rfl rfl)) rfl ?_
  refine r_p (p_field0 fo56_5 rfl) rfl ?_
  refine r_p (p_load1 t3 rfl rfl (g_row1R (k := 4) rfl rfl)) rfl ?_
  refine r_bslice eI [x.kind, x.steps, x.due] (parts := [(0, .tmp 11), (1, .tmp 13), (2, .tmp 15)]) Try.underlying28 t3 rfl (by decide) (by intro _; rfl) rfl (by decide) (by decide) rfl rfl rfl rfl fun v16 => ?_
  refine r_freeze 16 16 rfl own_to_sl ?_
  refine r_call (xs := [.tmp 9, .tmp 16]) (ints_spec b6 nilS v16 ([]) [x.kind, x.steps, x.due] (by simp only [List.length_append, eInt_fm_len, put4_fm_len, eLst_st_len, List.length_cons, List.length_nil, List.length_map, List.length_range]; omega)) cb49 [6, 90] [(false, 16)] [6, 90] [] rfl rfl rfl rfl rfl rfl rfl rfl (fun _ _ => rfl) (fun _ _ _ => rfl) rfl (fun w17 _ => ?_)
  refine r_nil ?_
  refine r_seq ?_
  refine r_region ?_
  refine r_p (p_move rfl) rfl ?_
  refine r_p (p_field0 fo56_0 rfl) rfl ?_
  refine r_p (p_load1 t32 rfl rfl (g_row1R (k := 4) rfl rfl)) rfl ?_
  refine r_p (p_field0 fo56_2 rfl) rfl ?_
  refine r_p (p_load1 t32 rfl rfl (g_row1R (k := 4) rfl rfl)) rfl ?_
  refine r_bslice eU [x.pc, x.f] (parts := [(0, .tmp 20), (1, .tmp 22)]) Try.underlying57 t32 rfl (by decide) (by intro _; rfl) rfl (by decide) (by decide) rfl rfl rfl rfl fun v23 => ?_
  refine r_freeze 23 23 rfl own_to_sl ?_
  refine r_call (xs := [.tmp 18, .tmp 23]) (wwords_spec b6 w17 v23 ([] ++ [x.kind, x.steps, x.due].flatMap eInt) [x.pc, x.f] (by simp only [List.length_append, eInt_fm_len, put4_fm_len, eLst_st_len, List.length_cons, List.length_nil, List.length_map, List.length_range]; omega) (okW_getD (by intro a ha; simp only [List.mem_cons, List.not_mem_nil, or_false] at ha; rcases ha with rfl | rfl; exact hok.pc; exact hok.f))) cb50 [6, 90] [(false, 23)] [6, 90] [] rfl rfl rfl rfl rfl rfl rfl rfl (fun _ _ => rfl) (fun _ _ _ => rfl) rfl (fun w24 _ => ?_)
  refine r_nil ?_
  refine r_seq ?_
  refine r_region ?_
  refine r_p (p_move rfl) rfl ?_
  refine r_p (p_field0 fo56_1 rfl) rfl ?_
  refine r_p (p_slice_arr Try.underlying53 t32 rfl (by decide)) rfl ?_
  refine r_call (xs := [.tmp 25, .tmp 27]) (wwords_spec b6 w24 ⟨some ⟨b4, 1, none⟩, 16, 16⟩ ([] ++ [x.kind, x.steps, x.due].flatMap eInt ++ [x.pc, x.f].flatMap put4) ((List.range 16).map x.R) (by simp only [List.length_append, eInt_fm_len, put4_fm_len, eLst_st_len, List.length_cons, List.length_nil, List.length_map, List.length_range]; omega) (okW_getD hok.R.1)) cb50 [6, 90] [(false, 27)] [6, 90] [] rfl rfl rfl rfl rfl rfl rfl rfl (fun _ _ => rfl) (fun _ _ _ => rfl) rfl (fun w28 _ => ?_)
  refine r_nil ?_
  refine r_seq ?_
  refine r_region ?_
  refine r_p (p_move rfl) rfl ?_
  refine r_p (p_field0 fo56_3 rfl) rfl ?_
  refine r_p (p_slice_arr Try.underlying54 t32 rfl (by decide)) rfl ?_
  refine r_call (xs := [.tmp 29, .tmp 31]) (wwords_spec b6 w28 ⟨some ⟨b4, 18, none⟩, 4, 4⟩ ([] ++ [x.kind, x.steps, x.due].flatMap eInt ++ [x.pc, x.f].flatMap put4 ++ ((List.range 16).map x.R).flatMap put4) ((List.range 4).map x.C) (by simp only [List.length_append, eInt_fm_len, put4_fm_len, eLst_st_len, List.length_cons, List.length_nil, List.length_map, List.length_range]; omega) (okW_getD hok.C.1)) cb50 [6, 90] [(false, 31)] [6, 90] [] rfl rfl rfl rfl rfl rfl rfl rfl (fun _ _ => rfl) (fun _ _ _ => rfl) rfl (fun w32 _ => ?_)
  refine r_nil ?_
  refine r_seq ?_
  refine r_region ?_
  refine r_p (p_move rfl) rfl ?_
  refine r_p (p_field0 fo59_2 rfl) rfl ?_
  refine r_p (p_load1 t28 rfl rfl (g_row1 (k := 1) rfl rfl)) rfl ?_
  refine r_p (p_len_sl Try.underlying28 rfl (hs_sl (k := 10) rfl)) rfl ?_
  refine r_bslice1 eI _ Try.underlying28 t3 rfl (by decide) (by decide) rfl rfl rfl rfl fun v37 => ?_
  refine r_freeze 37 37 rfl own_to_sl ?_
  refine r_call (xs := [.tmp 33, .tmp 37]) (ints_spec b6 w32 v37 ([] ++ [x.kind, x.steps, x.due].flatMap eInt ++ [x.pc, x.f].flatMap put4 ++ ((List.range 16).map x.R).flatMap put4 ++ ((List.range 4).map x.C).flatMap put4) [(x.rights.length : Int)] (by simp only [List.length_append, eInt_fm_len, put4_fm_len, eLst_st_len, List.length_cons, List.length_nil, List.length_map, List.length_range]; omega)) cb49 [6, 90] [(false, 37)] [6, 90] [] rfl rfl rfl rfl rfl rfl rfl rfl (fun _ _ => rfl) (fun _ _ _ => rfl) rfl (fun w38 _ => ?_)
  refine r_nil ?_
  refine r_seq ?_
  refine r_region ?_
  refine r_p (p_move rfl) rfl ?_
  refine r_p (p_field0 fo59_2 rfl) rfl ?_
  refine r_p (p_load1 t28 rfl rfl (g_row1 (k := 1) rfl rfl)) rfl ?_
  refine r_call (xs := [.tmp 39, .tmp 41]) (ints_spec b6 w38 x.vr ([] ++ [x.kind, x.steps, x.due].flatMap eInt ++ [x.pc, x.f].flatMap put4 ++ ((List.range 16).map x.R).flatMap put4 ++ ((List.range 4).map x.C).flatMap put4 ++ [(x.rights.length : Int)].flatMap eInt) x.rights (by simp only [List.length_append, eInt_fm_len, put4_fm_len, eLst_st_len, List.length_cons, List.length_nil, List.length_map, List.length_range]; omega)) cb49 [6, 90] [(false, 10)] [6, 90] [] rfl rfl rfl rfl rfl rfl rfl rfl (fun _ _ => rfl) (fun _ _ _ => rfl) rfl (fun w42 _ => ?_)
  refine r_nil ?_
  refine r_seq ?_
  refine r_region ?_
  refine r_p (p_move rfl) rfl ?_
  refine r_p (p_field0 fo59_3 rfl) rfl ?_
  refine r_p (p_load1 t41 rfl rfl (g_row1 (k := 1) rfl rfl)) rfl ?_
  refine r_call (xs := [.tmp 43, .tmp 45]) (strings_w_spec b6 w42 x.vd ([] ++ [x.kind, x.steps, x.due].flatMap eInt ++ [x.pc, x.f].flatMap put4 ++ ((List.range 16).map x.R).flatMap put4 ++ ((List.range 4).map x.C).flatMap put4 ++ [(x.rights.length : Int)].flatMap eInt ++ x.rights.flatMap eInt) x.data (by simp only [List.length_append, eInt_fm_len, put4_fm_len, eLst_st_len, List.length_cons, List.length_nil, List.length_map, List.length_range]; omega)) cb51 [6, 90] [(false, 11)] [6, 90] [] rfl rfl rfl rfl rfl rfl rfl rfl (fun _ _ => rfl) (fun _ _ _ => rfl) rfl (fun w46 _ => ?_)
  refine r_nil ?_
  refine r_seq ?_
  refine r_region ?_
  refine r_p (p_move rfl) rfl ?_
  refine r_p (p_field0 fo59_4 rfl) rfl ?_
  refine r_p (p_load1 t41 rfl rfl (g_row1 (k := 1) rfl rfl)) rfl ?_
  refine r_call (xs := [.tmp 47, .tmp 49]) (strings_w_spec b6 w46 x.vc ([] ++ [x.kind, x.steps, x.due].flatMap eInt ++ [x.pc, x.f].flatMap put4 ++ ((List.range 16).map x.R).flatMap put4 ++ ((List.range 4).map x.C).flatMap put4 ++ [(x.rights.length : Int)].flatMap eInt ++ x.rights.flatMap eInt ++ eLst eTxt (x.data.map bytesI)) x.code (by simp only [List.length_append, eInt_fm_len, put4_fm_len, eLst_st_len, List.length_cons, List.length_nil, List.length_map, List.length_range]; omega)) cb51 [6, 90] [(false, 12)] [6, 90] [] rfl rfl rfl rfl rfl rfl rfl rfl (fun _ _ => rfl) (fun _ _ _ => rfl) rfl (fun w50 _ => ?_)
  refine r_nil ?_
  refine r_seq ?_
  refine r_region ?_
  refine r_p (p_move rfl) rfl ?_
  refine r_p (p_field0 fo59_5 rfl) rfl ?_
  refine r_p (p_load1 t57 rfl rfl (g_row1 (k := 1) rfl rfl)) rfl ?_
  refine r_p (p_len_sl Try.underlying57 rfl (hs_sl (k := 13) rfl)) rfl ?_
  refine r_bslice1 eI _ Try.underlying28 t3 rfl (by decide) (by decide) rfl rfl rfl rfl fun v55 => ?_
  refine r_freeze 55 55 rfl own_to_sl ?_
  refine r_call (xs := [.tmp 51, .tmp 55]) (ints_spec b6 w50 v55 ([] ++ [x.kind, x.steps, x.due].flatMap eInt ++ [x.pc, x.f].flatMap put4 ++ ((List.range 16).map x.R).flatMap put4 ++ ((List.range 4).map x.C).flatMap put4 ++ [(x.rights.length : Int)].flatMap eInt ++ x.rights.flatMap eInt ++ eLst eTxt (x.data.map bytesI) ++ eLst eTxt (x.code.map bytesI)) [(x.inputs.length : Int)] (by simp only [List.length_append, eInt_fm_len, put4_fm_len, eLst_st_len, List.length_cons, List.length_nil, List.length_map, List.length_range]; omega)) cb49 [6, 90] [(false, 55)] [6, 90] [] rfl rfl rfl rfl rfl rfl rfl rfl (fun _ _ => rfl) (fun _ _ _ => rfl) rfl (fun w56 _ => ?_)
  refine r_nil ?_
  refine r_seq ?_
  refine r_region ?_
  refine r_p (p_move rfl) rfl ?_
  refine r_p (p_field0 fo59_5 rfl) rfl ?_
  refine r_p (p_load1 t57 rfl rfl (g_row1 (k := 1) rfl rfl)) rfl ?_
  refine r_call (xs := [.tmp 57, .tmp 59]) (wwords_spec b6 w56 x.vi ([] ++ [x.kind, x.steps, x.due].flatMap eInt ++ [x.pc, x.f].flatMap put4 ++ ((List.range 16).map x.R).flatMap put4 ++ ((List.range 4).map x.C).flatMap put4 ++ [(x.rights.length : Int)].flatMap eInt ++ x.rights.flatMap eInt ++ eLst eTxt (x.data.map bytesI) ++ eLst eTxt (x.code.map bytesI) ++ [(x.inputs.length : Int)].flatMap eInt) x.inputs (by simp only [List.length_append, eInt_fm_len, put4_fm_len, eLst_st_len, List.length_cons, List.length_nil, List.length_map, List.length_range]; omega) (okW_getD hok.inputs.1)) cb50 [6, 90] [(false, 13)] [6, 90] [] rfl rfl rfl rfl rfl rfl rfl rfl (fun _ _ => rfl) (fun _ _ _ => rfl) rfl (fun w60 _ => ?_)
  refine r_nil ?_
  refine r_seq ?_
  refine r_region ?_
  refine r_p (p_move rfl) rfl ?_
  refine r_p (p_field0 fo59_6 rfl) rfl ?_
  refine r_p (p_load1 t57 rfl rfl (g_row1 (k := 1) rfl rfl)) rfl ?_
  refine r_p (p_len_sl Try.underlying57 rfl (hs_sl (k := 14) rfl)) rfl ?_
  refine r_bslice1 eI _ Try.underlying28 t3 rfl (by decide) (by decide) rfl rfl rfl rfl fun v65 => ?_
  refine r_freeze 65 65 rfl own_to_sl ?_
  refine r_call (xs := [.tmp 61, .tmp 65]) (ints_spec b6 w60 v65 ([] ++ [x.kind, x.steps, x.due].flatMap eInt ++ [x.pc, x.f].flatMap put4 ++ ((List.range 16).map x.R).flatMap put4 ++ ((List.range 4).map x.C).flatMap put4 ++ [(x.rights.length : Int)].flatMap eInt ++ x.rights.flatMap eInt ++ eLst eTxt (x.data.map bytesI) ++ eLst eTxt (x.code.map bytesI) ++ [(x.inputs.length : Int)].flatMap eInt ++ x.inputs.flatMap put4) [(x.outputs.length : Int)] (by simp only [List.length_append, eInt_fm_len, put4_fm_len, eLst_st_len, List.length_cons, List.length_nil, List.length_map, List.length_range]; omega)) cb49 [6, 90] [(false, 65)] [6, 90] [] rfl rfl rfl rfl rfl rfl rfl rfl (fun _ _ => rfl) (fun _ _ _ => rfl) rfl (fun w66 _ => ?_)
  refine r_nil ?_
  refine r_seq ?_
  refine r_region ?_
  refine r_p (p_move rfl) rfl ?_
  refine r_p (p_field0 fo59_6 rfl) rfl ?_
  refine r_p (p_load1 t57 rfl rfl (g_row1 (k := 1) rfl rfl)) rfl ?_
  refine r_call (xs := [.tmp 67, .tmp 69]) (wwords_spec b6 w66 x.vo ([] ++ [x.kind, x.steps, x.due].flatMap eInt ++ [x.pc, x.f].flatMap put4 ++ ((List.range 16).map x.R).flatMap put4 ++ ((List.range 4).map x.C).flatMap put4 ++ [(x.rights.length : Int)].flatMap eInt ++ x.rights.flatMap eInt ++ eLst eTxt (x.data.map bytesI) ++ eLst eTxt (x.code.map bytesI) ++ [(x.inputs.length : Int)].flatMap eInt ++ x.inputs.flatMap put4 ++ [(x.outputs.length : Int)].flatMap eInt) x.outputs (by simp only [List.length_append, eInt_fm_len, put4_fm_len, eLst_st_len, List.length_cons, List.length_nil, List.length_map, List.length_range]; omega) (okW_getD hok.outputs.1)) cb50 [6, 90] [(false, 14)] [6, 90] [] rfl rfl rfl rfl rfl rfl rfl rfl (fun _ _ => rfl) (fun _ _ _ => rfl) rfl (fun w70 _ => ?_)
  refine r_nil ?_
  refine r_seq ?_
  refine r_region ?_
  refine r_p (p_move rfl) rfl ?_
  refine r_p (p_nilCheck rfl) rfl ?_
  refine r_p (p_field0 fo107_0 rfl) rfl ?_
  refine r_p (p_load1 t95 rfl rfl (g_row1 (k := 6) rfl rfl)) rfl ?_
  refine r_p (p_b2sE Try.underlying95 Try.underlying5 Try.underlying9 rfl (SlS.of (hs_own (k := 90) rfl))) rfl ?_
  refine r_p (p_assign rfl) rfl ?_
  refine r_nil ?_
  refine r_cret ?_
  refine r_ret () trivial rfl (rs1 (rv_tmp rfl)) (by rw [eSn_eq]; rfl) [] [] rfl rfl rfl
set_option maxRecDepth 100000 in
theorem clone_int_spec (v : SV) (l : List Int) (hl : l.length ≤ 1000000) :
    Spec Try.prog 69 [sv v] [] [sl 1 eI (sv v) l] (X := SV) (fun _ => True) (fun u => sv u) (fun u => [own 3 1 eI (sv u) l]) (fun _ => []) := by
  refine r_enter Try.func69 rfl Try.ntmps69 rfl fun w0 M H => ?_
  refine r_seq ?_
  refine r_region ?_
  refine r_p (p_assign rfl) rfl ?_
  refine r_nil ?_
  refine r_seq ?_
  refine r_seq ?_
  refine r_region ?_
  refine r_p (p_move rfl) rfl ?_
  refine r_p (p_bin rfl rfl (b_eqnil Try.underlying28)) rfl ?_
  refine r_nil ?_
  refine r_cond rfl (fun h1 => ?_) (fun h1 => ?_)
  · refine r_factR (k := 0) rfl sl_nil fun hz => ?_
    have hl0 := hz h1
    subst hl0
    refine r_nilown 9 (α := Int) (S := 3) (s := 1) (enc := eI) ?_
    refine r_seq ?_
    refine r_region ?_
    refine r_p (p_assign rfl) rfl ?_
    refine r_nil ?_
    refine r_cret ?_
    refine r_ret nilS trivial rfl (rs1 (rv_tmp rfl)) rfl [9] [] rfl rfl rfl
  · refine r_skip ?_
    refine r_seq ?_
    refine r_region ?_
    refine r_bslice0 eI Try.underlying28 t3 rfl fun v5 => ?_
    refine r_p (p_move rfl) rfl ?_
    refine r_append 5 Try.underlying28 t3 rfl (by decide) (fun _ => rfl) (fun _ => rfl) rfl rfl rfl (hs_sl (k := 0) rfl) (by rw [List.length_nil]; omega) (by unfold maxLen; rw [List.length_nil]; omega) rfl fun v7 => ?_
    refine r_p (p_assign rfl) rfl ?_
    refine r_nil ?_
    refine r_cret ?_
    refine r_ret v7 trivial rfl (rs1 (rv_tmp rfl)) rfl [5] [] rfl rfl rfl
set_option maxRecDepth 100000 in
theorem clone_text_spec (v : SV) (l : List ByteArray) (hl : l.length ≤ 1000000) :
    Spec Try.prog 70 [sv v] [] [sl 1 eS (sv v) l] (X := SV) (fun _ => True) (fun u => sv u) (fun u => [own 9 1 eS (sv u) l]) (fun _ => []) := by
  refine r_enter Try.func70 rfl Try.ntmps70 rfl fun w0 M H => ?_
  refine r_seq ?_
  refine r_region ?_
  refine r_p (p_assign rfl) rfl ?_
  refine r_nil ?_
  refine r_seq ?_
  refine r_seq ?_
  refine r_region ?_
  refine r_p (p_move rfl) rfl ?_
  refine r_p (p_bin rfl rfl (b_eqnil Try.underlying41)) rfl ?_
  refine r_nil ?_
  refine r_cond rfl (fun h1 => ?_) (fun h1 => ?_)
  · refine r_factR (k := 0) rfl sl_nil fun hz => ?_
    have hl0 := hz h1
    subst hl0
    refine r_nilown 9 (α := ByteArray) (S := 9) (s := 1) (enc := eS) ?_
    refine r_seq ?_
    refine r_region ?_
    refine r_p (p_assign rfl) rfl ?_
    refine r_nil ?_
    refine r_cret ?_
    refine r_ret nilS trivial rfl (rs1 (rv_tmp rfl)) rfl [9] [] rfl rfl rfl
  · refine r_skip ?_
    refine r_seq ?_
    refine r_region ?_
    refine r_bslice0 eS Try.underlying41 t9 rfl fun v5 => ?_
    refine r_p (p_move rfl) rfl ?_
    refine r_append 5 Try.underlying41 t9 rfl (by decide) (fun _ => rfl) (fun _ => rfl) rfl rfl rfl (hs_sl (k := 0) rfl) (by rw [List.length_nil]; omega) (by unfold maxLen; rw [List.length_nil]; omega) rfl fun v7 => ?_
    refine r_p (p_assign rfl) rfl ?_
    refine r_nil ?_
    refine r_cret ?_
    refine r_ret v7 trivial rfl (rs1 (rv_tmp rfl)) rfl [5] [] rfl rfl rfl
set_option maxRecDepth 100000 in
theorem clone_word_spec (v : SV) (l : List Int) (hl : l.length ≤ 1000000) :
    Spec Try.prog 71 [sv v] [] [sl 1 eU (sv v) l] (X := SV) (fun _ => True) (fun u => sv u) (fun u => [own 32 1 eU (sv u) l]) (fun _ => []) := by
  refine r_enter Try.func71 rfl Try.ntmps71 rfl fun w0 M H => ?_
  refine r_seq ?_
  refine r_region ?_
  refine r_p (p_assign rfl) rfl ?_
  refine r_nil ?_
  refine r_seq ?_
  refine r_seq ?_
  refine r_region ?_
  refine r_p (p_move rfl) rfl ?_
  refine r_p (p_bin rfl rfl (b_eqnil Try.underlying57)) rfl ?_
  refine r_nil ?_
  refine r_cond rfl (fun h1 => ?_) (fun h1 => ?_)
  · refine r_factR (k := 0) rfl sl_nil fun hz => ?_
    have hl0 := hz h1
    subst hl0
    refine r_nilown 9 (α := Int) (S := 32) (s := 1) (enc := eU) ?_
    refine r_seq ?_
    refine r_region ?_
    refine r_p (p_assign rfl) rfl ?_
    refine r_nil ?_
    refine r_cret ?_
    refine r_ret nilS trivial rfl (rs1 (rv_tmp rfl)) rfl [9] [] rfl rfl rfl
  · refine r_skip ?_
    refine r_seq ?_
    refine r_region ?_
    refine r_bslice0 eU Try.underlying57 t32 rfl fun v5 => ?_
    refine r_p (p_move rfl) rfl ?_
    refine r_append 5 Try.underlying57 t32 rfl (by decide) (fun _ => rfl) (fun _ => rfl) rfl rfl rfl (hs_sl (k := 0) rfl) (by rw [List.length_nil]; omega) (by unfold maxLen; rw [List.length_nil]; omega) rfl fun v7 => ?_
    refine r_p (p_assign rfl) rfl ?_
    refine r_nil ?_
    refine r_cret ?_
    refine r_ret v7 trivial rfl (rs1 (rv_tmp rfl)) rfl [5] [] rfl rfl rfl

end Go.Proofs.Ytohenjmkhncoiaa
