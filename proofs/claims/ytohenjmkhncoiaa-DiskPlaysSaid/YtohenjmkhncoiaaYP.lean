/-
  Copies of snapshots, comparing them. Condition: lists of at most a million.
-/
import Derived.Test.YtohenjmkhncoiaaYO
namespace Go.Proofs.Ytohenjmkhncoiaa
set_option linter.unusedSimpArgs false
set_option linter.unusedVariables false
open Go.RowKit

/-- The lists of a snapshot are not too long. -/
structure Sp.Sm (x : Sp) : Prop where
  r : x.rights.length ≤ 1000000
  d : x.data.length ≤ 1000000
  c : x.code.length ≤ 1000000
  i : x.inputs.length ≤ 1000000
  o : x.outputs.length ≤ 1000000
theorem Sp.Sm.of {x : Sp} (h : (eSn x.sn).length ≤ 1000000) : x.Sm := by
  rw [eSn_len] at h
  have h1 := eSt_fm_len x.data
  have h2 := eSt_fm_len x.code
  exact ⟨by omega, by omega, by omega, by omega, by omega⟩
theorem Sp.Sm.zero : zSp.Sm := ⟨by decide, by decide, by decide, by decide, by decide⟩
theorem Sp.Sm.congr {x y : Sp} (h : x.Sm) (e : y.sn = x.sn) : y.Sm := by
  have e1 : y.rights = x.rights := congrArg Sn.rights e
  have e2 : y.data.map bytesI = x.data.map bytesI := congrArg Sn.data e
  have e3 : y.code.map bytesI = x.code.map bytesI := congrArg Sn.code e
  have e4 : y.inputs = x.inputs := congrArg Sn.inputs e
  have e5 : y.outputs = x.outputs := congrArg Sn.outputs e
  have e2' := map_bytesI_inj e2
  have e3' := map_bytesI_inj e3
  exact ⟨by rw [e1]; exact h.r, by rw [e2']; exact h.d, by rw [e3']; exact h.c, by rw [e4]; exact h.i, by rw [e5]; exact h.o⟩
structure SnEq (x y : Sp) : Prop where
  kind : x.kind = y.kind
  st : StEq x y
  rights : x.rights = y.rights
  data : x.data = y.data
  code : x.code = y.code
  inputs : x.inputs = y.inputs
  outputs : x.outputs = y.outputs
theorem sn_eq {x y : Sp} : x.sn = y.sn ↔ SnEq x y := by
  unfold Sp.sn
  rw [Sn.mk.injEq]
  exact ⟨fun ⟨h1, h2, h3, h4, h5, h6, h7, h8, h9, h10, h11, h12⟩ => ⟨h1, ⟨h4, h6, h5, h7, h2, h3⟩, h8, map_bytesI_inj h9, map_bytesI_inj h10, h11, h12⟩,
    fun e => ⟨e.kind, e.st.steps, e.st.due, e.st.pc, e.st.f, e.st.R, e.st.C, e.rights, congrArg _ e.data, congrArg _ e.code, e.inputs, e.outputs⟩⟩
noncomputable instance (x y : Sn) : Decidable (x = y) := Classical.propDecidable _

set_option maxHeartbeats 1000000 in
set_option maxRecDepth 100000 in
theorem own_spec62 (x : Sp) (hs : x.Sm) :
    Spec Try.prog 62 [snV x] [] [snA x] (X := Sp) (fun y => y.sn = x.sn) (fun y => snV y) (fun _ => []) (fun y => [snA y]) := by
  refine r_enter Try.func62 rfl Try.ntmps62 rfl fun w0 M H => ?_
  refine r_more 0 10 rfl snA_r ?_
  refine r_more 0 11 rfl snA_d ?_
  refine r_more 0 12 rfl snA_c ?_
  refine r_more 0 13 rfl snA_i ?_
  refine r_more 0 14 rfl snA_o ?_
  refine r_seq ?_
  refine r_region ?_
  refine r_boxA rfl rfl fun b1 => ?_
  refine r_alloc t59 rfl rfl fun b2 => ?_
  refine r_nil ?_
  refine r_seq ?_
  refine r_drawM [0, 1, 2, 3, 4, 5, 6, 7, 8, 9, 10, 11, 12, 13, 14] [0, 1, 2, 3, 4, 5, 6, 7, 8, 9, 10, 11, 12, 13, 14] [3, 4, 5, 6, 7, 8, 9, 10, 11, 12, 13, 14] _ rfl rfl rfl (stg_mem (V := [(0, 3, _), (1, 4, _), (3, 6, _), (4, 7, _), (6, 9, _), (7, 10, _)]) [0, 1, 3, 4, 6, 7] 2 [2, 1, 0] [9] (fun c5 => [(9, 12, _)]) rfl rfl (prs_cons (pri rfl (p_field0 fo59_2 rfl)) (prs_cons (pri rfl (p_load1 t28 rfl rfl (g_row1 (k := 1) rfl rfl))) (prs_cons (pri rfl (p_field0 fo59_3 rfl)) (prs_cons (pri rfl (p_load1 t41 rfl rfl (g_row1 (k := 1) rfl rfl))) (prs_cons (pri rfl (p_field0 fo59_4 rfl)) (prs_cons (pri rfl (p_load1 t41 rfl rfl (g_row1 (k := 1) rfl rfl))) prs_nil)))))) rfl rfl rfl rfl rfl rfl rfl rfl rfl rfl rfl (fun _ _ => rfl) rfl (ms_call (xs := [.tmp 4]) (clone_int_spec x.vr x.rights hs.r) cb69 [] [(false, 10)] [5] [] rfl rfl rfl rfl rfl rfl rfl rfl (fun _ _ => rfl) (fun _ _ _ => rfl)) (fun c5 _ => stg_mem [9, 3, 4, 6, 7] 5 [5, 4, 3, 2, 1, 0] [] (fun c8 => []) rfl rfl (prs_cons (pri rfl (p_field0 fo59_2 rfl)) (prs_cons (pri rfl (p_field0 fo59_3 rfl)) (prs_cons (pri rfl (p_load1 t41 rfl rfl (g_row1 (k := 1) rfl rfl))) (prs_cons (pri rfl (p_field0 fo59_4 rfl)) (prs_cons (pri rfl (p_load1 t41 rfl rfl (g_row1 (k := 1) rfl rfl))) prs_nil))))) rfl rfl rfl rfl rfl rfl rfl rfl rfl rfl rfl (fun _ _ => rfl) rfl (ms_call (xs := [.tmp 7]) (clone_text_spec x.vd x.data hs.d) cb70 [] [(false, 11)] [8] [] rfl rfl rfl rfl rfl rfl rfl rfl (fun _ _ => rfl) (fun _ _ _ => rfl)) (fun c8 _ => stg_mem [9, 6, 7] 8 [8, 7, 6, 5, 4, 3, 2, 1, 0] [] (fun c11 => []) rfl rfl (prs_cons (pri rfl (p_field0 fo59_2 rfl)) (prs_cons (pri rfl (p_field0 fo59_4 rfl)) (prs_cons (pri rfl (p_load1 t41 rfl rfl (g_row1 (k := 1) rfl rfl))) prs_nil))) rfl rfl rfl rfl rfl rfl rfl rfl rfl rfl rfl (fun _ _ => rfl) rfl (ms_call (xs := [.tmp 10]) (clone_text_spec x.vc x.code hs.c) cb70 [] [(false, 12)] [11] [] rfl rfl rfl rfl rfl rfl rfl rfl (fun _ _ => rfl) (fun _ _ _ => rfl)) (fun c11 _ => stg_mem0 [9] 10 [10, 9, 8, 7, 6, 5, 4, 3, 2, 1, 0] [11] (fun _ => [(11, 13, _)]) rfl rfl (prs_cons (pri rfl (p_field0 fo59_2 rfl)) prs_nil) rfl rfl rfl rfl rfl rfl rfl rfl rfl (fun _ _ => rfl) rfl (ms_store_row (k := 1) t28 rfl rfl rfl rfl rfl rfl rfl rfl) (fun _ _ => stg_mem0 [11] 12 [12, 11, 10, 9, 8, 7, 6, 5, 4, 3, 2, 1, 0] [13] (fun _ => [(13, 14, _)]) rfl rfl (prs_cons (pri rfl (p_field0 fo59_3 rfl)) prs_nil) rfl rfl rfl rfl rfl rfl rfl rfl rfl (fun _ _ => rfl) rfl (ms_store_row (k := 1) t41 rfl rfl rfl rfl rfl rfl rfl rfl) (fun _ _ => stg_mem0 [13] 14 [14, 13, 12, 11, 10, 9, 8, 7, 6, 5, 4, 3, 2, 1, 0] [] (fun _ => []) rfl rfl (prs_cons (pri rfl (p_field0 fo59_4 rfl)) prs_nil) rfl rfl rfl rfl rfl rfl rfl rfl rfl (fun _ _ => rfl) rfl (ms_store_row (k := 1) t41 rfl rfl rfl rfl rfl rfl rfl rfl) (fun _ _ => stg_end [] rfl rfl prs_nil rfl rfl rfl ?_)))))))
  refine r_seq ?_
  refine r_drawM [0, 1, 2, 3, 4, 5, 6, 7, 8, 9] [0, 1, 2, 3, 4, 5, 6, 7, 8, 9] [15, 16, 17, 18, 19, 20, 21, 22] _ rfl rfl rfl (stg_mem (V := [(0, 15, _), (1, 16, _), (3, 18, _), (4, 19, _)]) [0, 1, 3, 4] 2 [2, 1, 0] [6] (fun c17 => [(6, 21, _)]) rfl rfl (prs_cons (pri rfl (p_field0 fo59_5 rfl)) (prs_cons (pri rfl (p_load1 t57 rfl rfl (g_row1 (k := 1) rfl rfl))) (prs_cons (pri rfl (p_field0 fo59_6 rfl)) (prs_cons (pri rfl (p_load1 t57 rfl rfl (g_row1 (k := 1) rfl rfl))) prs_nil)))) rfl rfl rfl rfl rfl rfl rfl rfl rfl rfl rfl (fun _ _ => rfl) rfl (ms_call (xs := [.tmp 16]) (clone_word_spec x.vi x.inputs hs.i) cb71 [] [(false, 13)] [17] [] rfl rfl rfl rfl rfl rfl rfl rfl (fun _ _ => rfl) (fun _ _ _ => rfl)) (fun c17 _ => stg_mem [6, 3, 4] 5 [5, 4, 3, 2, 1, 0] [] (fun c20 => []) rfl rfl (prs_cons (pri rfl (p_field0 fo59_5 rfl)) (prs_cons (pri rfl (p_field0 fo59_6 rfl)) (prs_cons (pri rfl (p_load1 t57 rfl rfl (g_row1 (k := 1) rfl rfl))) prs_nil))) rfl rfl rfl rfl rfl rfl rfl rfl rfl rfl rfl (fun _ _ => rfl) rfl (ms_call (xs := [.tmp 19]) (clone_word_spec x.vo x.outputs hs.o) cb71 [] [(false, 14)] [20] [] rfl rfl rfl rfl rfl rfl rfl rfl (fun _ _ => rfl) (fun _ _ _ => rfl)) (fun c20 _ => stg_mem0 [6] 7 [7, 6, 5, 4, 3, 2, 1, 0] [8] (fun _ => [(8, 22, _)]) rfl rfl (prs_cons (pri rfl (p_field0 fo59_5 rfl)) prs_nil) rfl rfl rfl rfl rfl rfl rfl rfl rfl (fun _ _ => rfl) rfl (ms_store_row (k := 1) t57 rfl rfl rfl rfl rfl rfl rfl rfl) (fun _ _ => stg_mem0 [8] 9 [9, 8, 7, 6, 5, 4, 3, 2, 1, 0] [] (fun _ => []) rfl rfl (prs_cons (pri rfl (p_field0 fo59_6 rfl)) prs_nil) rfl rfl rfl rfl rfl rfl rfl rfl rfl (fun _ _ => rfl) rfl (ms_store_row (k := 1) t57 rfl rfl rfl rfl rfl rfl rfl rfl) (fun _ _ => stg_end [] rfl rfl prs_nil rfl rfl rfl ?_)))))
  refine r_seq ?_
  refine r_region ?_
  refine r_p (p_loadA t59 rfl rfl rfl (g_all (k := 1) rfl)) rfl ?_
  refine r_store_all (k := 2) t59 rfl rfl rfl rfl rfl rfl ?_
  refine r_nil ?_
  refine r_cret ?_
  refine r_freeze 5 5 rfl own_to_sl ?_
  refine r_freeze 8 8 rfl own_to_sl ?_
  refine r_freeze 11 11 rfl own_to_sl ?_
  refine r_freeze 17 17 rfl own_to_sl ?_
  refine r_freeze 20 20 rfl own_to_sl ?_
  refine r_mkSn 5 8 11 17 20 90 (x := { x with vr := c5, vd := c8, vc := c11, vi := c17, vo := c20 }) rfl rfl rfl rfl rfl ?_
  refine r_ret ({ x with vr := c5, vd := c8, vc := c11, vi := c17, vo := c20 }) rfl rfl (rs1 (rv_cellA t59 rfl rfl rfl (g_all (k := 2) rfl))) rfl [] [90] rfl rfl rfl
set_option maxHeartbeats 2000000 in
set_option maxRecDepth 100000 in
theorem same_spec (x y : Sp) (hx : x.Sm) :
    Spec Try.prog 34 [snV x, snV y] [] [snA x, snA y] (X := Unit) (fun _ => True) (fun _ => .bool (decide (x.sn = y.sn))) (fun _ => []) (fun _ => []) := by
  refine r_enter Try.func34 rfl Try.ntmps34 rfl fun w0 M H => ?_
  refine r_more 0 10 rfl snA_r ?_
  refine r_more 0 11 rfl snA_d ?_
  refine r_more 0 12 rfl snA_c ?_
  refine r_more 0 13 rfl snA_i ?_
  refine r_more 0 14 rfl snA_o ?_
  refine r_more 1 20 rfl snA_r ?_
  refine r_more 1 21 rfl snA_d ?_
  refine r_more 1 22 rfl snA_c ?_
  refine r_more 1 23 rfl snA_i ?_
  refine r_more 1 24 rfl snA_o ?_
  refine r_seq ?_
  refine r_region ?_
  refine r_boxA rfl rfl fun b2 => ?_
  refine r_boxA rfl rfl fun b3 => ?_
  refine r_p (p_assign rfl) rfl ?_
  refine r_nil ?_
  refine r_seq ?_
  refine r_seq ?_
  refine r_region ?_
  refine r_p (p_field0 fo59_0 rfl) rfl ?_
  refine r_p (p_load1 t3 rfl rfl (g_row1 (k := 2) rfl rfl)) rfl ?_
  refine r_p (p_field0 fo59_0 rfl) rfl ?_
  refine r_p (p_load1 t3 rfl rfl (g_row1 (k := 3) rfl rfl)) rfl ?_
  refine r_p (p_bin rfl rfl b_ne) rfl ?_
  refine r_p (p_move rfl) rfl ?_
  refine r_gp [] rfl rfl trivial (fun hg1 => p_field0 fo59_1 rfl) rfl ?_
  refine r_gp [(12, _)] rfl rfl ⟨rfl, trivial⟩ (fun hg2 => p_loadA t56 rfl rfl rfl (g_row (us := (stC x)) (k := 2) rfl rfl)) rfl ?_
  refine r_gp [(12, _), (13, _)] rfl rfl ⟨rfl, rfl, trivial⟩ (fun hg3 => p_field0 fo59_1 rfl) rfl ?_
  refine r_gp [(12, _), (13, _), (14, _)] rfl rfl ⟨rfl, rfl, rfl, trivial⟩ (fun hg4 => p_loadA t56 rfl rfl rfl (g_row (us := (stC y)) (k := 3) rfl rfl)) rfl ?_
  refine r_gp [(12, _), (13, _), (14, _), (15, _)] rfl rfl ⟨rfl, rfl, rfl, rfl, trivial⟩ (fun hg5 => p_bin rfl rfl (b_neSt x y)) rfl ?_
  refine r_p (p_pick rfl rfl rfl (by first | exact pick_and | exact pick_or |  rfl)) rfl ?_
  refine r_p (p_move rfl) rfl ?_
  refine r_gp [] rfl rfl trivial (fun hg6 => p_field0 fo59_2 rfl) rfl ?_
  refine r_gp [(19, _)] rfl rfl ⟨rfl, trivial⟩ (fun hg7 => p_load1 t28 rfl rfl (g_row1 (k := 2) rfl rfl)) rfl ?_
  refine r_gp [(19, _), (20, _)] rfl rfl ⟨rfl, rfl, trivial⟩ (fun hg8 => p_len_sl Try.underlying28 rfl (hs_sl (k := 10) rfl)) rfl ?_
  refine r_gp [(19, _), (20, _), (21, _)] rfl rfl ⟨rfl, rfl, rfl, trivial⟩ (fun hg9 => p_field0 fo59_2 rfl) rfl ?_
  refine r_gp [(19, _), (20, _), (21, _), (22, _)] rfl rfl ⟨rfl, rfl, rfl, rfl, trivial⟩ (fun hg10 => p_load1 t28 rfl rfl (g_row1 (k := 3) rfl rfl)) rfl ?_
  refine r_gp [(19, _), (20, _), (21, _), (22, _), (23, _)] rfl rfl ⟨rfl, rfl, rfl, rfl, rfl, trivial⟩ (fun hg11 => p_len_sl Try.underlying28 rfl (hs_sl (k := 20) rfl)) rfl ?_
  refine r_gp [(19, _), (20, _), (21, _), (22, _), (23, _), (24, _)] rfl rfl ⟨rfl, rfl, rfl, rfl, rfl, rfl, trivial⟩ (fun hg12 => p_bin rfl rfl b_ne) rfl ?_
  refine r_p (p_pick rfl rfl rfl (by first | exact pick_and | exact pick_or |  rfl)) rfl ?_
  refine r_nil ?_
  refine r_cond rfl (fun h13 => ?_) (fun h13 => ?_)
  · (try simp only [decide_eq_true_eq, decide_eq_false_iff_not, Bool.and_eq_true, Bool.or_eq_true, Bool.and_eq_false_iff, Bool.or_eq_false_iff, Bool.not_eq_true, Bool.not_eq_false, Bool.not_eq_true', Bool.not_eq_false', Bool.not_not, bne_iff_ne, beq_iff_eq] at h13)
    have hne := h13
    refine r_seq ?_
    refine r_region ?_
    refine r_p (p_assign rfl) rfl ?_
    refine r_nil ?_
    refine r_cret ?_
    refine r_ret () trivial rfl (rs1 (rv_tmp rfl)) (congrArg Value.bool (decide_eq_false fun e => by have e := sn_eq.1 e; rcases hne with (h | h) | h; exact h e.kind; exact h e.st; exact h (by rw [e.rights])).symm) [] [] rfl rfl rfl
  · (try simp only [decide_eq_true_eq, decide_eq_false_iff_not, Bool.and_eq_true, Bool.or_eq_true, Bool.and_eq_false_iff, Bool.or_eq_false_iff, Bool.not_eq_true, Bool.not_eq_false, Bool.not_eq_true', Bool.not_eq_false', Bool.not_not, bne_iff_ne, beq_iff_eq] at h13)
    have h13 := h13
    have hln : x.rights.length = y.rights.length := by omega
    refine r_skip ?_
    refine r_seq ?_
    refine r_seq ?_
    refine r_region ?_
    refine r_p (p_assign rfl) rfl ?_
    refine r_nil ?_
    refine r_block ?_
    refine r_loop (X := Nat) (fun k => k ≤ x.rights.length ∧ ∀ i, i < k → x.rights.getD i 0 = y.rights.getD i 0) (fun k => [(2, .pointer (some ⟨b2, 0, none⟩)), (3, .pointer (some ⟨b3, 0, none⟩)), (5, .int .i64 (k : Int))]) (fun k => [(2, row b2 59 (snC x)), (3, row b3 59 (snC y))]) (fun k => [(10, sl 1 eI (sv x.vr) x.rights), (11, sl 1 eS (sv x.vd) x.data), (12, sl 1 eS (sv x.vc) x.code), (13, sl 1 eU (sv x.vi) x.inputs), (14, sl 1 eU (sv x.vo) x.outputs), (20, sl 1 eI (sv y.vr) y.rights), (21, sl 1 eS (sv y.vd) y.data), (22, sl 1 eS (sv y.vc) y.code), (23, sl 1 eU (sv y.vi) y.inputs), (24, sl 1 eU (sv y.vo) y.outputs)]) (fun k => x.rights.length - k) 0 ⟨Nat.zero_le _, fun i hi => by omega⟩ rfl rfl rfl (fun k hk0 => ?_)
    obtain ⟨hk0, hall⟩ := hk0
    have hxr := hx.r
    refine r_seq ?_
    refine r_seq ?_
    refine r_region ?_
    refine r_p (p_move rfl) rfl ?_
    refine r_p (p_field0 fo59_2 rfl) rfl ?_
    refine r_p (p_load1 t28 rfl rfl (g_row1 (k := 2) rfl rfl)) rfl ?_
    refine r_p (p_len_sl Try.underlying28 rfl (hs_sl (k := 10) rfl)) rfl ?_
    refine r_p (p_bin rfl rfl b_lt) rfl ?_
    refine r_nil ?_
    refine r_cond rfl (fun h14 => ?_) (fun h14 => ?_)
    · (try simp only [decide_eq_true_eq, decide_eq_false_iff_not, Bool.and_eq_true, Bool.or_eq_true, Bool.and_eq_false_iff, Bool.or_eq_false_iff, Bool.not_eq_true, Bool.not_eq_false, Bool.not_eq_true', Bool.not_eq_false', Bool.not_not, bne_iff_ne, beq_iff_eq] at h14)
      have hk : k < x.rights.length := by omega
      refine r_skip ?_
      refine r_seq ?_
      refine r_block ?_
      refine r_seq ?_
      refine r_draw [34, 35, 36, 37, 38, 39, 40, 41, 42, 43, 44] _ rfl (stg_end (V := [(0, 34, _), (1, 35, _), (2, 36, _), (3, 37, _), (4, 38, _), (5, 39, _), (6, 40, _), (7, 41, _), (8, 42, _), (9, 43, _), (10, 44, _)]) [0, 1, 2, 3, 4, 5, 6, 7, 8, 9, 10] rfl rfl (prs_cons (pri rfl (p_field0 fo59_2 rfl)) (prs_cons (pri rfl (p_load1 t28 rfl rfl (g_row1 (k := 2) rfl rfl))) (prs_cons (pri rfl (p_move rfl)) (prs_cons (pri rfl (p_idx_sl (j := k) Try.underlying28 t3 rfl rfl (hs_sl (k := 10) rfl) (by first | rfl | omega) (by first | omega | (simp; done) | (simp; omega)))) (prs_cons (pri rfl (p_load1 t3 rfl rfl (g_el' (hs_sl (k := 10) rfl) (by intro _; rfl) (getD_get 0 (by omega)) (by rfl)))) (prs_cons (pri rfl (p_field0 fo59_2 rfl)) (prs_cons (pri rfl (p_load1 t28 rfl rfl (g_row1 (k := 3) rfl rfl))) (prs_cons (pri rfl (p_move rfl)) (prs_cons (pri rfl (p_idx_sl (j := k) Try.underlying28 t3 rfl rfl (hs_sl (k := 20) rfl) (by first | rfl | omega) (by first | omega | (simp; done) | (simp; omega)))) (prs_cons (pri rfl (p_load1 t3 rfl rfl (g_el' (hs_sl (k := 20) rfl) (by intro _; rfl) (getD_get 0 (by omega)) (by rfl)))) (prs_cons (pri rfl (p_bin rfl rfl b_ne)) prs_nil))))))))))) rfl rfl rfl ?_)
      refine r_cond rfl (fun h15 => ?_) (fun h15 => ?_)
      · (try simp only [decide_eq_true_eq, decide_eq_false_iff_not, Bool.and_eq_true, Bool.or_eq_true, Bool.and_eq_false_iff, Bool.or_eq_false_iff, Bool.not_eq_true, Bool.not_eq_false, Bool.not_eq_true', Bool.not_eq_false', Bool.not_not, bne_iff_ne, beq_iff_eq] at h15)
        have hne : ¬ x.rights.getD k 0 = y.rights.getD k 0 := h15
        refine r_seq ?_
        refine r_region ?_
        refine r_p (p_assign rfl) rfl ?_
        refine r_nil ?_
        refine r_cret ?_
        refine r_ret () trivial rfl (rs1 (rv_tmp rfl)) (congrArg Value.bool (decide_eq_false fun e => hne (by rw [(sn_eq.1 e).rights])).symm) [] [] rfl rfl rfl
      · (try simp only [decide_eq_true_eq, decide_eq_false_iff_not, Bool.and_eq_true, Bool.or_eq_true, Bool.and_eq_false_iff, Bool.or_eq_false_iff, Bool.not_eq_true, Bool.not_eq_false, Bool.not_eq_true', Bool.not_eq_false', Bool.not_not, bne_iff_ne, beq_iff_eq] at h15)
        have heq : x.rights.getD k 0 = y.rights.getD k 0 := h15
        refine r_skip ?_
        refine r_region ?_
        refine r_p (p_move rfl) rfl ?_
        refine r_p (p_bin rfl rfl (b_add (by first | exact w_i64 (by omega) (by omega) | rfl))) rfl ?_
        refine r_p (p_assign rfl) rfl ?_
        refine r_nil ?_
        refine r_here (k + 1) ⟨⟨by omega, fun i hi => by rcases Nat.lt_succ_iff_lt_or_eq.1 hi with h | h; exact hall i h; rw [h]; exact heq⟩, by omega⟩ rfl rfl rfl
    · (try simp only [decide_eq_true_eq, decide_eq_false_iff_not, Bool.and_eq_true, Bool.or_eq_true, Bool.and_eq_false_iff, Bool.or_eq_false_iff, Bool.not_eq_true, Bool.not_eq_false, Bool.not_eq_true', Bool.not_eq_false', Bool.not_not, bne_iff_ne, beq_iff_eq] at h14)
      have hk : k = x.rights.length := by omega
      subst hk
      have hR : x.rights = y.rights := lists_eq hln hall
      refine r_exit ?_
      refine r_seq ?_
      refine r_region ?_
      refine r_p (p_field0 fo59_3 rfl) rfl ?_
      refine r_p (p_load1 t41 rfl rfl (g_row1 (k := 2) rfl rfl)) rfl ?_
      refine r_p (p_field0 fo59_3 rfl) rfl ?_
      refine r_p (p_load1 t41 rfl rfl (g_row1 (k := 3) rfl rfl)) rfl ?_
      refine r_call (xs := [.tmp 46, .tmp 48]) (strings_spec x.vd y.vd x.data y.data hx.d) cb59 [] [(false, 11), (false, 21)] [] [] rfl rfl rfl rfl rfl rfl rfl rfl (fun _ _ => rfl) (fun _ _ _ => rfl) rfl (fun _ _ => ?_)
      refine r_p (p_move rfl) rfl ?_
      refine r_split (t := 50) rfl (fun h16 => ?_) (fun h16 => ?_)
      · (try simp only [decide_eq_true_eq, decide_eq_false_iff_not, Bool.and_eq_true, Bool.or_eq_true, Bool.and_eq_false_iff, Bool.or_eq_false_iff, Bool.not_eq_true, Bool.not_eq_false, Bool.not_eq_true', Bool.not_eq_false', Bool.not_not, bne_iff_ne, beq_iff_eq] at h16)
        have hd : x.data = y.data := h16
        refine r_gyes rfl rfl ?_
        refine r_p (p_field0 fo59_4 rfl) rfl ?_
        refine r_gyes rfl rfl ?_
        refine r_p (p_load1 t41 rfl rfl (g_row1 (k := 2) rfl rfl)) rfl ?_
        refine r_gyes rfl rfl ?_
        refine r_p (p_field0 fo59_4 rfl) rfl ?_
        refine r_gyes rfl rfl ?_
        refine r_p (p_load1 t41 rfl rfl (g_row1 (k := 3) rfl rfl)) rfl ?_
        refine r_gyes rfl rfl ?_
        refine r_call (xs := [.tmp 52, .tmp 54]) (strings_spec x.vc y.vc x.code y.code hx.c) cb59 [] [(false, 12), (false, 22)] [] [] rfl rfl rfl rfl rfl rfl rfl rfl (fun _ _ => rfl) (fun _ _ _ => rfl) rfl (fun _ _ => ?_)
        refine r_p (p_pick rfl rfl rfl (by first | exact pick_and | exact pick_or |  rfl)) rfl ?_
        refine r_p (p_move rfl) rfl ?_
        refine r_split (t := 57) rfl (fun h17 => ?_) (fun h17 => ?_)
        · (try simp only [decide_eq_true_eq, decide_eq_false_iff_not, Bool.and_eq_true, Bool.or_eq_true, Bool.and_eq_false_iff, Bool.or_eq_false_iff, Bool.not_eq_true, Bool.not_eq_false, Bool.not_eq_true', Bool.not_eq_false', Bool.not_not, bne_iff_ne, beq_iff_eq] at h17)
          have hc : x.code = y.code := by
            have hh := h17
            first | exact hh.2 | (simp at hh; done)
          refine r_gyes rfl rfl ?_
          refine r_p (p_field0 fo59_5 rfl) rfl ?_
          refine r_gyes rfl rfl ?_
          refine r_p (p_load1 t57 rfl rfl (g_row1 (k := 2) rfl rfl)) rfl ?_
          refine r_gyes rfl rfl ?_
          refine r_p (p_field0 fo59_5 rfl) rfl ?_
          refine r_gyes rfl rfl ?_
          refine r_p (p_load1 t57 rfl rfl (g_row1 (k := 3) rfl rfl)) rfl ?_
          refine r_gyes rfl rfl ?_
          refine r_call (xs := [.tmp 59, .tmp 61]) (words_spec x.vi y.vi x.inputs y.inputs hx.i) cb60 [] [(false, 13), (false, 23)] [] [] rfl rfl rfl rfl rfl rfl rfl rfl (fun _ _ => rfl) (fun _ _ _ => rfl) rfl (fun _ _ => ?_)
          refine r_p (p_pick rfl rfl rfl (by first | exact pick_and | exact pick_or |  rfl)) rfl ?_
          refine r_p (p_move rfl) rfl ?_
          refine r_split (t := 64) rfl (fun h18 => ?_) (fun h18 => ?_)
          · (try simp only [decide_eq_true_eq, decide_eq_false_iff_not, Bool.and_eq_true, Bool.or_eq_true, Bool.and_eq_false_iff, Bool.or_eq_false_iff, Bool.not_eq_true, Bool.not_eq_false, Bool.not_eq_true', Bool.not_eq_false', Bool.not_not, bne_iff_ne, beq_iff_eq] at h18)
            have hi : x.inputs = y.inputs := by
              have hh := h18
              first | exact hh.2 | (simp at hh; done)
            refine r_gyes rfl rfl ?_
            refine r_p (p_field0 fo59_6 rfl) rfl ?_
            refine r_gyes rfl rfl ?_
            refine r_p (p_load1 t57 rfl rfl (g_row1 (k := 2) rfl rfl)) rfl ?_
            refine r_gyes rfl rfl ?_
            refine r_p (p_field0 fo59_6 rfl) rfl ?_
            refine r_gyes rfl rfl ?_
            refine r_p (p_load1 t57 rfl rfl (g_row1 (k := 3) rfl rfl)) rfl ?_
            refine r_gyes rfl rfl ?_
            refine r_call (xs := [.tmp 66, .tmp 68]) (words_spec x.vo y.vo x.outputs y.outputs hx.o) cb60 [] [(false, 14), (false, 24)] [] [] rfl rfl rfl rfl rfl rfl rfl rfl (fun _ _ => rfl) (fun _ _ _ => rfl) rfl (fun _ _ => ?_)
            refine r_p (p_pick rfl rfl rfl (by first | exact pick_and | exact pick_or |  rfl)) rfl ?_
            refine r_p (p_assign rfl) rfl ?_
            refine r_nil ?_
            refine r_cret ?_
            refine r_ret () trivial rfl (rs1 (rv_tmp rfl)) (by first | (exfalso; simp_all; done) | exact congrArg Value.bool (by rw [Bool.true_and]; exact decide_eq_decide.2 ⟨fun e => sn_eq.2 ⟨h13.1.1, h13.1.2, hR, hd, hc, hi, e⟩, fun e => (sn_eq.1 e).outputs⟩) | exact congrArg Value.bool (decide_eq_false fun e => by have e := sn_eq.1 e; have e1 := e.data; have e2 := e.code; have e3 := e.inputs; simp_all).symm) [] [] rfl rfl rfl
          · (try simp only [decide_eq_true_eq, decide_eq_false_iff_not, Bool.and_eq_true, Bool.or_eq_true, Bool.and_eq_false_iff, Bool.or_eq_false_iff, Bool.not_eq_true, Bool.not_eq_false, Bool.not_eq_true', Bool.not_eq_false', Bool.not_not, bne_iff_ne, beq_iff_eq] at h18)
            have hin : x.data = y.data → x.code = y.code → ¬ x.inputs = y.inputs := fun _ _ => by
              have hh := h18
              simp_all
            refine r_gno rfl rfl rfl rfl ?_
            refine r_gno rfl rfl rfl rfl ?_
            refine r_gno rfl rfl rfl rfl ?_
            refine r_gno rfl rfl rfl rfl ?_
            refine r_gno rfl rfl rfl rfl ?_
            refine r_p (p_pick rfl rfl rfl (by first | exact pick_and | exact pick_or |  rfl)) rfl ?_
            refine r_p (p_assign rfl) rfl ?_
            refine r_nil ?_
            refine r_cret ?_
            refine r_ret () trivial rfl (rs1 (rv_tmp rfl)) (by first | (exfalso; simp_all; done) | exact congrArg Value.bool (by rw [Bool.true_and]; exact decide_eq_decide.2 ⟨fun e => sn_eq.2 ⟨h13.1.1, h13.1.2, hR, hd, hc, hi, e⟩, fun e => (sn_eq.1 e).outputs⟩) | exact congrArg Value.bool (decide_eq_false fun e => by have e := sn_eq.1 e; have e1 := e.data; have e2 := e.code; have e3 := e.inputs; simp_all).symm) [] [] rfl rfl rfl
        · (try simp only [decide_eq_true_eq, decide_eq_false_iff_not, Bool.and_eq_true, Bool.or_eq_true, Bool.and_eq_false_iff, Bool.or_eq_false_iff, Bool.not_eq_true, Bool.not_eq_false, Bool.not_eq_true', Bool.not_eq_false', Bool.not_not, bne_iff_ne, beq_iff_eq] at h17)
          have hcn : x.data = y.data → ¬ x.code = y.code := fun _ => by
            have hh := h17
            simp_all
          refine r_gno rfl rfl rfl rfl ?_
          refine r_gno rfl rfl rfl rfl ?_
          refine r_gno rfl rfl rfl rfl ?_
          refine r_gno rfl rfl rfl rfl ?_
          refine r_gno rfl rfl rfl rfl ?_
          refine r_p (p_pick rfl rfl rfl (by first | exact pick_and | exact pick_or |  rfl)) rfl ?_
          refine r_p (p_move rfl) rfl ?_
          refine r_split (t := 64) rfl (fun h19 => ?_) (fun h19 => ?_)
          · (try simp only [decide_eq_true_eq, decide_eq_false_iff_not, Bool.and_eq_true, Bool.or_eq_true, Bool.and_eq_false_iff, Bool.or_eq_false_iff, Bool.not_eq_true, Bool.not_eq_false, Bool.not_eq_true', Bool.not_eq_false', Bool.not_not, bne_iff_ne, beq_iff_eq] at h19)
            have hi : x.inputs = y.inputs := by
              have hh := h19
              first | exact hh.2 | (simp at hh; done)
            refine r_gyes rfl rfl ?_
            refine r_p (p_field0 fo59_6 rfl) rfl ?_
            refine r_gyes rfl rfl ?_
            refine r_p (p_load1 t57 rfl rfl (g_row1 (k := 2) rfl rfl)) rfl ?_
            refine r_gyes rfl rfl ?_
            refine r_p (p_field0 fo59_6 rfl) rfl ?_
            refine r_gyes rfl rfl ?_
            refine r_p (p_load1 t57 rfl rfl (g_row1 (k := 3) rfl rfl)) rfl ?_
            refine r_gyes rfl rfl ?_
            refine r_call (xs := [.tmp 66, .tmp 68]) (words_spec x.vo y.vo x.outputs y.outputs hx.o) cb60 [] [(false, 14), (false, 24)] [] [] rfl rfl rfl rfl rfl rfl rfl rfl (fun _ _ => rfl) (fun _ _ _ => rfl) rfl (fun _ _ => ?_)
            refine r_p (p_pick rfl rfl rfl (by first | exact pick_and | exact pick_or |  rfl)) rfl ?_
            refine r_p (p_assign rfl) rfl ?_
            refine r_nil ?_
            refine r_cret ?_
            refine r_ret () trivial rfl (rs1 (rv_tmp rfl)) (by first | (exfalso; simp_all; done) | exact congrArg Value.bool (by rw [Bool.true_and]; exact decide_eq_decide.2 ⟨fun e => sn_eq.2 ⟨h13.1.1, h13.1.2, hR, hd, hc, hi, e⟩, fun e => (sn_eq.1 e).outputs⟩) | exact congrArg Value.bool (decide_eq_false fun e => by have e := sn_eq.1 e; have e1 := e.data; have e2 := e.code; have e3 := e.inputs; simp_all).symm) [] [] rfl rfl rfl
          · (try simp only [decide_eq_true_eq, decide_eq_false_iff_not, Bool.and_eq_true, Bool.or_eq_true, Bool.and_eq_false_iff, Bool.or_eq_false_iff, Bool.not_eq_true, Bool.not_eq_false, Bool.not_eq_true', Bool.not_eq_false', Bool.not_not, bne_iff_ne, beq_iff_eq] at h19)
            have hin : x.data = y.data → x.code = y.code → ¬ x.inputs = y.inputs := fun _ _ => by
              have hh := h19
              simp_all
            refine r_gno rfl rfl rfl rfl ?_
            refine r_gno rfl rfl rfl rfl ?_
            refine r_gno rfl rfl rfl rfl ?_
            refine r_gno rfl rfl rfl rfl ?_
            refine r_gno rfl rfl rfl rfl ?_
            refine r_p (p_pick rfl rfl rfl (by first | exact pick_and | exact pick_or |  rfl)) rfl ?_
            refine r_p (p_assign rfl) rfl ?_
            refine r_nil ?_
            refine r_cret ?_
            refine r_ret () trivial rfl (rs1 (rv_tmp rfl)) (by first | (exfalso; simp_all; done) | exact congrArg Value.bool (by rw [Bool.true_and]; exact decide_eq_decide.2 ⟨fun e => sn_eq.2 ⟨h13.1.1, h13.1.2, hR, hd, hc, hi, e⟩, fun e => (sn_eq.1 e).outputs⟩) | exact congrArg Value.bool (decide_eq_false fun e => by have e := sn_eq.1 e; have e1 := e.data; have e2 := e.code; have e3 := e.inputs; simp_all).symm) [] [] rfl rfl rfl
      · (try simp only [decide_eq_true_eq, decide_eq_false_iff_not, Bool.and_eq_true, Bool.or_eq_true, Bool.and_eq_false_iff, Bool.or_eq_false_iff, Bool.not_eq_true, Bool.not_eq_false, Bool.not_eq_true', Bool.not_eq_false', Bool.not_not, bne_iff_ne, beq_iff_eq] at h16)
        have hd : ¬ x.data = y.data := h16
        refine r_gno rfl rfl rfl rfl ?_
        refine r_gno rfl rfl rfl rfl ?_
        refine r_gno rfl rfl rfl rfl ?_
        refine r_gno rfl rfl rfl rfl ?_
        refine r_gno rfl rfl rfl rfl ?_
        refine r_p (p_pick rfl rfl rfl (by first | exact pick_and | exact pick_or |  rfl)) rfl ?_
        refine r_p (p_move rfl) rfl ?_
        refine r_split (t := 57) rfl (fun h20 => ?_) (fun h20 => ?_)
        · (try simp only [decide_eq_true_eq, decide_eq_false_iff_not, Bool.and_eq_true, Bool.or_eq_true, Bool.and_eq_false_iff, Bool.or_eq_false_iff, Bool.not_eq_true, Bool.not_eq_false, Bool.not_eq_true', Bool.not_eq_false', Bool.not_not, bne_iff_ne, beq_iff_eq] at h20)
          have hc : x.code = y.code := by
            have hh := h20
            first | exact hh.2 | (simp at hh; done)
          refine r_gyes rfl rfl ?_
          refine r_p (p_field0 fo59_5 rfl) rfl ?_
          refine r_gyes rfl rfl ?_
          refine r_p (p_load1 t57 rfl rfl (g_row1 (k := 2) rfl rfl)) rfl ?_
          refine r_gyes rfl rfl ?_
          refine r_p (p_field0 fo59_5 rfl) rfl ?_
          refine r_gyes rfl rfl ?_
          refine r_p (p_load1 t57 rfl rfl (g_row1 (k := 3) rfl rfl)) rfl ?_
          refine r_gyes rfl rfl ?_
          refine r_call (xs := [.tmp 59, .tmp 61]) (words_spec x.vi y.vi x.inputs y.inputs hx.i) cb60 [] [(false, 13), (false, 23)] [] [] rfl rfl rfl rfl rfl rfl rfl rfl (fun _ _ => rfl) (fun _ _ _ => rfl) rfl (fun _ _ => ?_)
          refine r_p (p_pick rfl rfl rfl (by first | exact pick_and | exact pick_or |  rfl)) rfl ?_
          refine r_p (p_move rfl) rfl ?_
          refine r_split (t := 64) rfl (fun h21 => ?_) (fun h21 => ?_)
          · (try simp only [decide_eq_true_eq, decide_eq_false_iff_not, Bool.and_eq_true, Bool.or_eq_true, Bool.and_eq_false_iff, Bool.or_eq_false_iff, Bool.not_eq_true, Bool.not_eq_false, Bool.not_eq_true', Bool.not_eq_false', Bool.not_not, bne_iff_ne, beq_iff_eq] at h21)
            have hi : x.inputs = y.inputs := by
              have hh := h21
              first | exact hh.2 | (simp at hh; done)
            refine r_gyes rfl rfl ?_
            refine r_p (p_field0 fo59_6 rfl) rfl ?_
            refine r_gyes rfl rfl ?_
            refine r_p (p_load1 t57 rfl rfl (g_row1 (k := 2) rfl rfl)) rfl ?_
            refine r_gyes rfl rfl ?_
            refine r_p (p_field0 fo59_6 rfl) rfl ?_
            refine r_gyes rfl rfl ?_
            refine r_p (p_load1 t57 rfl rfl (g_row1 (k := 3) rfl rfl)) rfl ?_
            refine r_gyes rfl rfl ?_
            refine r_call (xs := [.tmp 66, .tmp 68]) (words_spec x.vo y.vo x.outputs y.outputs hx.o) cb60 [] [(false, 14), (false, 24)] [] [] rfl rfl rfl rfl rfl rfl rfl rfl (fun _ _ => rfl) (fun _ _ _ => rfl) rfl (fun _ _ => ?_)
            refine r_p (p_pick rfl rfl rfl (by first | exact pick_and | exact pick_or |  rfl)) rfl ?_
            refine r_p (p_assign rfl) rfl ?_
            refine r_nil ?_
            refine r_cret ?_
            refine r_ret () trivial rfl (rs1 (rv_tmp rfl)) (by first | (exfalso; simp_all; done) | exact congrArg Value.bool (by rw [Bool.true_and]; exact decide_eq_decide.2 ⟨fun e => sn_eq.2 ⟨h13.1.1, h13.1.2, hR, hd, hc, hi, e⟩, fun e => (sn_eq.1 e).outputs⟩) | exact congrArg Value.bool (decide_eq_false fun e => by have e := sn_eq.1 e; have e1 := e.data; have e2 := e.code; have e3 := e.inputs; simp_all).symm) [] [] rfl rfl rfl
          · (try simp only [decide_eq_true_eq, decide_eq_false_iff_not, Bool.and_eq_true, Bool.or_eq_true, Bool.and_eq_false_iff, Bool.or_eq_false_iff, Bool.not_eq_true, Bool.not_eq_false, Bool.not_eq_true', Bool.not_eq_false', Bool.not_not, bne_iff_ne, beq_iff_eq] at h21)
            have hin : x.data = y.data → x.code = y.code → ¬ x.inputs = y.inputs := fun _ _ => by
              have hh := h21
              simp_all
            refine r_gno rfl rfl rfl rfl ?_
            refine r_gno rfl rfl rfl rfl ?_
            refine r_gno rfl rfl rfl rfl ?_
            refine r_gno rfl rfl rfl rfl ?_
            refine r_gno rfl rfl rfl rfl ?_
            refine r_p (p_pick rfl rfl rfl (by first | exact pick_and | exact pick_or |  rfl)) rfl ?_
            refine r_p (p_assign rfl) rfl ?_
            refine r_nil ?_
            refine r_cret ?_
            refine r_ret () trivial rfl (rs1 (rv_tmp rfl)) (by first | (exfalso; simp_all; done) | exact congrArg Value.bool (by rw [Bool.true_and]; exact decide_eq_decide.2 ⟨fun e => sn_eq.2 ⟨h13.1.1, h13.1.2, hR, hd, hc, hi, e⟩, fun e => (sn_eq.1 e).outputs⟩) | exact congrArg Value.bool (decide_eq_false fun e => by have e := sn_eq.1 e; have e1 := e.data; have e2 := e.code; have e3 := e.inputs; simp_all).symm) [] [] rfl rfl rfl
        · (try simp only [decide_eq_true_eq, decide_eq_false_iff_not, Bool.and_eq_true, Bool.or_eq_true, Bool.and_eq_false_iff, Bool.or_eq_false_iff, Bool.not_eq_true, Bool.not_eq_false, Bool.not_eq_true', Bool.not_eq_false', Bool.not_not, bne_iff_ne, beq_iff_eq] at h20)
          have hcn : x.data = y.data → ¬ x.code = y.code := fun _ => by
            have hh := h20
            simp_all
          refine r_gno rfl rfl rfl rfl ?_
          refine r_gno rfl rfl rfl rfl ?_
          refine r_gno rfl rfl rfl rfl ?_
          refine r_gno rfl rfl rfl rfl ?_
          refine r_gno rfl rfl rfl rfl ?_
          refine r_p (p_pick rfl rfl rfl (by first | exact pick_and | exact pick_or |  rfl)) rfl ?_
          refine r_p (p_move rfl) rfl ?_
          refine r_split (t := 64) rfl (fun h22 => ?_) (fun h22 => ?_)
          · (try simp only [decide_eq_true_eq, decide_eq_false_iff_not, Bool.and_eq_true, Bool.or_eq_true, Bool.and_eq_false_iff, Bool.or_eq_false_iff, Bool.not_eq_true, Bool.not_eq_false, Bool.not_eq_true', Bool.not_eq_false', Bool.not_not, bne_iff_ne, beq_iff_eq] at h22)
            have hi : x.inputs = y.inputs := by
              have hh := h22
              first | exact hh.2 | (simp at hh; done)
            refine r_gyes rfl rfl ?_
            refine r_p (p_field0 fo59_6 rfl) rfl ?_
            refine r_gyes rfl rfl ?_
            refine r_p (p_load1 t57 rfl rfl (g_row1 (k := 2) rfl rfl)) rfl ?_
            refine r_gyes rfl rfl ?_
            refine r_p (p_field0 fo59_6 rfl) rfl ?_
            refine r_gyes rfl rfl ?_
            refine r_p (p_load1 t57 rfl rfl (g_row1 (k := 3) rfl rfl)) rfl ?_
            refine r_gyes rfl rfl ?_
            refine r_call (xs := [.tmp 66, .tmp 68]) (words_spec x.vo y.vo x.outputs y.outputs hx.o) cb60 [] [(false, 14), (false, 24)] [] [] rfl rfl rfl rfl rfl rfl rfl rfl (fun _ _ => rfl) (fun _ _ _ => rfl) rfl (fun _ _ => ?_)
            refine r_p (p_pick rfl rfl rfl (by first | exact pick_and | exact pick_or |  rfl)) rfl ?_
            refine r_p (p_assign rfl) rfl ?_
            refine r_nil ?_
            refine r_cret ?_
            refine r_ret () trivial rfl (rs1 (rv_tmp rfl)) (by first | (exfalso; simp_all; done) | exact congrArg Value.bool (by rw [Bool.true_and]; exact decide_eq_decide.2 ⟨fun e => sn_eq.2 ⟨h13.1.1, h13.1.2, hR, hd, hc, hi, e⟩, fun e => (sn_eq.1 e).outputs⟩) | exact congrArg Value.bool (decide_eq_false fun e => by have e := sn_eq.1 e; have e1 := e.data; have e2 := e.code; have e3 := e.inputs; simp_all).symm) [] [] rfl rfl rfl
          · (try simp only [decide_eq_true_eq, decide_eq_false_iff_not, Bool.and_eq_true, Bool.or_eq_true, Bool.and_eq_false_iff, Bool.or_eq_false_iff, Bool.not_eq_true, Bool.not_eq_false, Bool.not_eq_true', Bool.not_eq_false', Bool.not_not, bne_iff_ne, beq_iff_eq] at h22)
            have hin : x.data = y.data → x.code = y.code → ¬ x.inputs = y.inputs := fun _ _ => by
              have hh := h22
              simp_all
            refine r_gno rfl rfl rfl rfl ?_
            refine r_gno rfl rfl rfl rfl ?_
            refine r_gno rfl rfl rfl rfl ?_
            refine r_gno rfl rfl rfl rfl ?_
            refine r_gno rfl rfl rfl rfl ?_
            refine r_p (p_pick rfl rfl rfl (by first | exact pick_and | exact pick_or |  rfl)) rfl ?_
            refine r_p (p_assign rfl) rfl ?_
            refine r_nil ?_
            refine r_cret ?_
            refine r_ret () trivial rfl (rs1 (rv_tmp rfl)) (by first | (exfalso; simp_all; done) | exact congrArg Value.bool (by rw [Bool.true_and]; exact decide_eq_decide.2 ⟨fun e => sn_eq.2 ⟨h13.1.1, h13.1.2, hR, hd, hc, hi, e⟩, fun e => (sn_eq.1 e).outputs⟩) | exact congrArg Value.bool (decide_eq_false fun e => by have e := sn_eq.1 e; have e1 := e.data; have e2 := e.code; have e3 := e.inputs; simp_all).symm) [] [] rfl rfl rfl

end Go.Proofs.Ytohenjmkhncoiaa
