/-
  CacheLinks walks. No condition.
-/
import Derived.Test.YtbkonlkffajhkaaI5
namespace Go.Proofs.Ytbkonlkffajhkaa
set_option linter.unusedSimpArgs false
set_option linter.unusedVariables false
open Go.RowKit

theorem getD_memL {K : List Lk} {j : Nat} (hj : j < K.length) : K.getD j dL ∈ K := by
  rw [List.getD_eq_getElem?_getD, List.getElem?_eq_getElem hj]
  exact List.getElem_mem hj
theorem ordL {K : List Lk} (h : K.Pairwise ltK) {k : Nat} (hk : k < K.length) : k = 0 ∨ (0 < k ∧ (K.getD (k - 1) dL).f < (K.getD k dL).f) ∨ (0 < k ∧ (K.getD (k - 1) dL).f = (K.getD k dL).f ∧ (K.getD (k - 1) dL).s < (K.getD k dL).s) := by
  by_cases h0 : k = 0
  · exact .inl h0
  have h1 := List.pairwise_iff_getElem.1 h (k - 1) k (by omega) hk (by omega)
  rw [List.getD_eq_getElem?_getD, List.getD_eq_getElem?_getD, List.getElem?_eq_getElem hk, List.getElem?_eq_getElem (show k - 1 < K.length by omega)]
  simp only [Option.getD_some]
  unfold ltK at h1
  rcases h1 with h1 | h1
  · exact .inr (.inl ⟨by omega, h1⟩)
  · exact .inr (.inr ⟨by omega, h1.1, h1.2⟩)

set_option maxHeartbeats 1000000 in
set_option maxRecDepth 100000 in
theorem links_law (sz : Int) (vs : SV) (l : List Q4) :
    Spec Try.prog 5 [.int .i64 sz, sv vs] [] [sl 4 eQ (sv vs) l] (X := Unit) (fun _ => True) (fun _ => .bool true) (fun _ => []) (fun _ => []) := by
  refine r_enter Try.func5 rfl Try.ntmps5 rfl fun w0 M H => ?_
  refine r_seq ?_
  refine r_region ?_
  refine r_p (p_assign rfl) rfl ?_
  refine r_nil ?_
  refine r_seq ?_
  refine r_region ?_
  refine r_call (xs := []) sanity_spec cb15 [] [] [] [] rfl rfl rfl rfl rfl rfl rfl rfl (fun _ _ => rfl) (fun _ _ _ => rfl) rfl (fun _ _ => ?_)
  refine r_p (p_assign rfl) rfl ?_
  refine r_nil ?_
  refine r_seq ?_
  refine r_region ?_
  refine r_p (p_move rfl) rfl ?_
  refine r_p (p_move rfl) rfl ?_
  refine r_call (xs := [.tmp 16, .tmp 17]) (played_spec sz vs l) cb16 [] [(false, 0)] [500, 501, 502, 503, 504, 505] [1] rfl rfl rfl rfl rfl rfl rfl rfl (fun _ _ => rfl) (fun _ _ _ => rfl) rfl (fun ⟨C, r, ⟨cur, L, K, ob, ol, vL, vC, S⟩⟩ hpl => ?_)
  obtain ⟨hi, hS⟩ := hpl
  dsimp only at hi hS ⊢
  have hlen := hi.hlen ps12_len
  have hlenK := hi.hlenK ps12_len
  have h60 := m60 sz
  have hsz := hi.sz
  have hcu := hi.cu
  have hse := size60 sz
  refine r_p (p_move rfl) rfl ?_
  refine r_p (p_extract rfl rfl) rfl ?_
  refine r_p (p_extract rfl rfl) rfl ?_
  refine r_p (p_assign rfl) rfl ?_
  refine r_p (p_assign rfl) rfl ?_
  refine r_nil ?_
  refine r_seq ?_
  refine r_seq ?_
  refine r_region ?_
  refine r_p (p_move rfl) rfl ?_
  refine r_p (p_bin rfl rfl (b_eqPn Try.underlying25)) rfl ?_
  refine r_nil ?_
  refine r_cond rfl (fun h1 => ?_) (fun h1 => ?_)
  · exact absurd h1 (by simp)
  · (try simp only [decide_eq_true_eq, decide_eq_false_iff_not, Bool.and_eq_true, Bool.or_eq_true, Bool.and_eq_false_iff, Bool.or_eq_false_iff, Bool.not_eq_true, Bool.not_eq_false, Bool.not_eq_true', Bool.not_eq_false', Bool.not_not, bne_iff_ne, beq_iff_eq] at h1)
    refine r_skip ?_
    refine r_seq ?_
    refine r_region ?_
    refine r_p (p_move rfl) rfl ?_
    refine r_call (xs := [.tmp 23]) (links_spec C 4096 (sizeN 4096 (sz % 60)) cur ob ol K hi.ordK hlenK) cb24 [] [(true, 500), (true, 502)] [24] [] rfl rfl rfl rfl rfl rfl rfl rfl (fun _ _ => rfl) (fun _ _ _ => rfl) rfl (fun v24 _ => ?_)
    refine r_p (p_assign rfl) rfl ?_
    refine r_nil ?_
    refine r_seq ?_
    refine r_seq ?_
    refine r_region ?_
    refine r_p (p_assign rfl) rfl ?_
    refine r_nil ?_
    refine r_block ?_
    refine r_loop (X := Nat) (fun k => k ≤ K.length) (fun k => [(5, .bool true), (6, .pointer (some ⟨C, 0, none⟩)), (7, .pointer (some ⟨r, 0, none⟩)), (8, sv v24), (9, .int .i64 (k : Int))]) (fun k => [(500, row C 84 (cC 4096 (sizeN 4096 (sz % 60)) cur ob ol)), (501, mpB ob L), (502, mpL ol K), (503, row r 34 (cR 4096 (sizeN 4096 (sz % 60)) cur vL vC)), (504, own 36 5 eR (sv vL) L), (505, own 100 3 eL (sv vC) K), (24, own 64 3 eL (sv v24) K)]) (fun k => [(0, sl 4 eQ (sv vs) l), (1, pgP S)]) (fun k => K.length - k) 0 (Nat.zero_le _) rfl rfl rfl (fun k hk0 => ?_)
    refine r_seq ?_
    refine r_seq ?_
    refine r_region ?_
    refine r_p (p_move rfl) rfl ?_
    refine r_p (p_move rfl) rfl ?_
    refine r_p (p_len_sl Try.underlying40 rfl (hs_own (k := 24) rfl)) rfl ?_
    refine r_p (p_bin rfl rfl b_lt) rfl ?_
    refine r_nil ?_
    refine r_cond rfl (fun h2 => ?_) (fun h2 => ?_)
    · (try simp only [decide_eq_true_eq, decide_eq_false_iff_not, Bool.and_eq_true, Bool.or_eq_true, Bool.and_eq_false_iff, Bool.or_eq_false_iff, Bool.not_eq_true, Bool.not_eq_false, Bool.not_eq_true', Bool.not_eq_false', Bool.not_not, bne_iff_ne, beq_iff_eq] at h2)
      have hk : k < K.length := by omega
      obtain ⟨x, hx, ex1, ex2, ex3⟩ := hi.lkf _ (getD_memL hk)
      obtain ⟨y, hy, ey⟩ := hi.lkt _ (getD_memL hk)
      have hfx := hi.findpc hx
      have hfy := hi.findpc hy
      rw [ex1] at hfx
      rw [ey] at hfy
      have hsn := hi.sites x hx
      have ho := ordL hi.ordK hk
      refine r_skip ?_
      refine r_seq ?_
      refine r_block ?_
      refine r_seq ?_
      refine r_region ?_
      refine r_p (p_move rfl) rfl ?_
      refine r_p (p_move rfl) rfl ?_
      refine r_p (p_move rfl) rfl ?_
      refine r_p (p_idx_sl (j := k) Try.underlying40 t64 rfl rfl (hs_own (k := 24) rfl) (by first | rfl | omega) (by first | omega | (simp; done) | (simp; omega))) rfl ?_
      refine r_p (p_field fo64_0 rfl) rfl ?_
      refine r_p (p_load1 t30 rfl rfl (g_elp (hs_own (k := 24) rfl) (by intro _; rfl) (getD_get dL (by omega)) rfl)) rfl ?_
      refine r_call (xs := [.tmp 32, .tmp 37]) (find_spec C 4096 (sizeN 4096 (sz % 60)) cur ob ol L _ _ hfx) cb21 [] [(true, 500), (true, 501)] [] [] rfl rfl rfl rfl rfl rfl rfl rfl (fun _ _ => rfl) (fun _ _ _ => rfl) rfl (fun _ _ => ?_)
      refine r_p (p_move rfl) rfl ?_
      refine r_p (p_extract rfl rfl) rfl ?_
      refine r_p (p_extract rfl rfl) rfl ?_
      refine r_alloc t54 rfl rfl fun b10 => ?_
      refine r_store_all (k := 10) t54 rfl rfl rfl rfl rfl rfl ?_
      refine r_p (p_assign rfl) rfl ?_
      refine r_nil ?_
      refine r_seq ?_
      refine r_region ?_
      refine r_p (p_move rfl) rfl ?_
      refine r_p (p_move rfl) rfl ?_
      refine r_p (p_move rfl) rfl ?_
      refine r_p (p_idx_sl (j := k) Try.underlying40 t64 rfl rfl (hs_own (k := 24) rfl) (by first | rfl | omega) (by first | omega | (simp; done) | (simp; omega))) rfl ?_
      refine r_p (p_field fo64_2 rfl) rfl ?_
      refine r_p (p_load1 t30 rfl rfl (g_elp (hs_own (k := 24) rfl) (by intro _; rfl) (getD_get dL (by omega)) rfl)) rfl ?_
      refine r_call (xs := [.tmp 42, .tmp 47]) (find_spec C 4096 (sizeN 4096 (sz % 60)) cur ob ol L _ _ hfy) cb21 [] [(true, 500), (true, 501)] [] [] rfl rfl rfl rfl rfl rfl rfl rfl (fun _ _ => rfl) (fun _ _ _ => rfl) rfl (fun _ _ => ?_)
      refine r_p (p_move rfl) rfl ?_
      refine r_p (p_extract rfl rfl) rfl ?_
      refine r_p (p_extract rfl rfl) rfl ?_
      refine r_alloc t54 rfl rfl fun b12 => ?_
      refine r_store_all (k := 12) t54 rfl rfl rfl rfl rfl rfl ?_
      refine r_p (p_assign rfl) rfl ?_
      refine r_nil ?_
      refine r_seq ?_
      refine r_seq ?_
      refine r_draw [51, 52, 53, 54, 55, 56, 57, 58, 59, 60, 61, 62, 63, 64, 65, 66, 67, 68, 69, 70, 71, 72, 73, 74, 75, 76] _ rfl (stg_end (V := [(0, 51, _), (1, 52, _), (2, 53, _), (3, 54, _), (4, 55, _), (5, 56, _), (6, 57, _), (7, 58, _), (8, 59, _), (9, 60, _), (10, 61, _), (11, 62, _), (12, 63, _), (13, 64, _), (14, 65, _), (15, 66, _), (16, 67, _), (17, 68, _), (18, 69, _), (19, 70, _), (20, 71, _), (21, 72, _), (22, 73, _), (23, 74, _), (24, 75, _), (25, 76, _)]) [0, 1, 2, 3, 4, 5, 6, 7, 8, 9, 10, 11, 12, 13, 14, 15, 16, 17, 18, 19, 20, 21, 22, 23, 24, 25] rfl rfl (prs_cons (pri rfl (p_move rfl)) (prs_cons (pri rfl (p_not rfl)) (prs_cons (pri rfl (p_move rfl)) (prs_cons (prig_y rfl rfl rfl rfl (p_move rfl)) (prs_cons (prig_y rfl rfl rfl rfl (p_not rfl)) (prs_cons (pri rfl (p_pick rfl rfl rfl (pick_f rfl))) (prs_cons (pri rfl (p_move rfl)) (prs_cons (prig_y rfl rfl rfl rfl (p_move rfl)) (prs_cons (prig_y rfl rfl rfl rfl (p_move rfl)) (prs_cons (prig_y rfl rfl rfl rfl (p_idx_sl (j := k) Try.underlying40 t64 rfl rfl (hs_own (k := 24) rfl) (by first | rfl | omega) (by first | omega | (simp; done) | (simp; omega)))) (prs_cons (prig_y rfl rfl rfl rfl (p_field fo64_1 rfl)) (prs_cons (prig_y rfl rfl rfl rfl (p_load1 t3 rfl rfl (g_elp (hs_own (k := 24) rfl) (by intro _; rfl) (getD_get dL (by omega)) rfl))) (prs_cons (prig_y rfl rfl rfl rfl (p_bin rfl rfl b_lt)) (prs_cons (pri rfl (p_pick rfl rfl rfl (pick_f rfl))) (prs_cons (pri rfl (p_move rfl)) (prs_cons (prig_y rfl rfl rfl (decide_eq_false (by omega)) (p_move rfl)) (prs_cons (prig_y rfl rfl rfl (decide_eq_false (by omega)) (p_move rfl)) (prs_cons (prig_y rfl rfl rfl (decide_eq_false (by omega)) (p_idx_sl (j := k) Try.underlying40 t64 rfl rfl (hs_own (k := 24) rfl) (by first | rfl | omega) (by first | omega | (simp; done) | (simp; omega)))) (prs_cons (prig_y rfl rfl rfl (decide_eq_false (by omega)) (p_field fo64_1 rfl)) (prs_cons (prig_y rfl rfl rfl (decide_eq_false (by omega)) (p_load1 t3 rfl rfl (g_elp (hs_own (k := 24) rfl) (by intro _; rfl) (getD_get dL (by omega)) rfl))) (prs_cons (prig_y rfl rfl rfl (decide_eq_false (by omega)) (p_field0 fo54_4 rfl)) (prs_cons (prig_y rfl rfl rfl (decide_eq_false (by omega)) (p_field fo52_1 rfl)) (prs_cons (prig_y rfl rfl rfl (decide_eq_false (by omega)) (p_load1 t50 rfl rfl (g_row1 (k := 10) rfl rfl))) (prs_cons (prig_y rfl rfl rfl (decide_eq_false (by omega)) (p_len_sv Try.underlying50 rfl)) (prs_cons (prig_y rfl rfl rfl (decide_eq_false (by omega)) (p_bin rfl rfl b_ge)) (prs_cons (pri rfl (p_pick rfl rfl rfl (pick_f (decide_eq_false (by omega))))) prs_nil)))))))))))))))))))))))))) rfl rfl rfl ?_)
      refine r_cond rfl (fun h3 => ?_) (fun h3 => ?_)
      · exfalso; have := of_decide_eq_true h3; simp only [Option.getD_some] at this; omega
      · (try simp only [decide_eq_true_eq, decide_eq_false_iff_not, Bool.and_eq_true, Bool.or_eq_true, Bool.and_eq_false_iff, Bool.or_eq_false_iff, Bool.not_eq_true, Bool.not_eq_false, Bool.not_eq_true', Bool.not_eq_false', Bool.not_not, bne_iff_ne, beq_iff_eq] at h3)
        refine r_skip ?_
        refine r_seq ?_
        rcases ho with h0 | ⟨h0, h1⟩ | ⟨h0, h1, h2⟩
        · refine r_draw [77, 78, 79, 80, 81, 82, 83, 84, 85, 86, 87, 88, 89, 90, 91, 92, 93, 94, 95, 96, 97, 98, 99, 100, 101, 102, 103, 104, 105, 106, 107, 108, 109, 110, 111, 112, 113, 114, 115, 116, 117, 118, 119, 120] _ rfl (stg_end (V := [(0, 77, _), (1, 78, _), (2, 79, _), (3, 80, _), (4, 81, _), (5, 82, _), (6, 83, _), (7, 84, _), (8, 85, _), (9, 86, _), (10, 87, _), (11, 88, _), (12, 89, _), (13, 90, _), (14, 91, _), (15, 92, _), (16, 93, _), (17, 94, _), (18, 95, _), (19, 96, _), (20, 97, _), (21, 98, _), (22, 99, _), (23, 100, _), (24, 101, _), (25, 102, _), (26, 103, _), (27, 104, _), (28, 105, _), (29, 106, _), (30, 107, _), (31, 108, _), (32, 109, _), (33, 110, _), (34, 111, _), (35, 112, _), (36, 113, _), (37, 114, _), (38, 115, _), (39, 116, _), (40, 117, _), (41, 118, _), (42, 119, _), (43, 120, _)]) [0, 1, 2, 3, 4, 5, 6, 7, 8, 9, 10, 11, 12, 13, 14, 15, 16, 17, 18, 19, 20, 21, 22, 23, 24, 25, 26, 27, 28, 29, 30, 31, 32, 33, 34, 35, 36, 37, 38, 39, 40, 41, 42, 43] rfl rfl (prs_cons (pri rfl (p_move rfl)) (prs_cons (pri rfl (p_bin rfl rfl b_gt)) (prs_cons (pri rfl (p_move rfl)) (prs_cons (prig_n rfl rfl rfl (decide_eq_false (by omega))) (prs_cons (prig_n rfl rfl rfl (decide_eq_false (by omega))) (prs_cons (prig_n rfl rfl rfl (decide_eq_false (by omega))) (prs_cons (prig_n rfl rfl rfl (decide_eq_false (by omega))) (prs_cons (prig_n rfl rfl rfl (decide_eq_false (by omega))) (prs_cons (prig_n rfl rfl rfl (decide_eq_false (by omega))) (prs_cons (prig_n rfl rfl rfl (decide_eq_false (by omega))) (prs_cons (prig_n rfl rfl rfl (decide_eq_false (by omega))) (prs_cons (prig_n rfl rfl rfl (decide_eq_false (by omega))) (prs_cons (prig_n rfl rfl rfl (decide_eq_false (by omega))) (prs_cons (prig_n rfl rfl rfl (decide_eq_false (by omega))) (prs_cons (prig_n rfl rfl rfl (decide_eq_false (by omega))) (prs_cons (prig_n rfl rfl rfl (decide_eq_false (by omega))) (prs_cons (prig_u rfl rfl rfl) (prs_cons (prig_u rfl rfl rfl) (prs_cons (prig_u rfl rfl rfl) (prs_cons (prig_u rfl rfl rfl) (prs_cons (prig_u rfl rfl rfl) (prs_cons (prig_u rfl rfl rfl) (prs_cons (prig_u rfl rfl rfl) (prs_cons (prig_u rfl rfl rfl) (prs_cons (prig_u rfl rfl rfl) (prs_cons (prig_u rfl rfl rfl) (prs_cons (prig_u rfl rfl rfl) (prs_cons (prig_u rfl rfl rfl) (prs_cons (prig_u rfl rfl rfl) (prs_cons (prig_u rfl rfl rfl) (prs_cons (prig_u rfl rfl rfl) (prs_cons (prig_u rfl rfl rfl) (prs_cons (prig_u rfl rfl rfl) (prs_cons (prig_u rfl rfl rfl) (prs_cons (prig_u rfl rfl rfl) (prs_cons (prig_u rfl rfl rfl) (prs_cons (prig_u rfl rfl rfl) (prs_cons (prig_u rfl rfl rfl) (prs_cons (prig_u rfl rfl rfl) (prs_cons (prig_u rfl rfl rfl) (prs_cons (prig_u rfl rfl rfl) (prs_cons (prig_u rfl rfl rfl) (prs_cons (prig_n rfl rfl rfl (decide_eq_false (by omega))) (prs_cons (pri rfl (p_pick rfl rfl rfl (pick_f (decide_eq_false (by omega))))) prs_nil)))))))))))))))))))))))))))))))))))))))))))) rfl rfl rfl ?_)
          refine r_cond rfl (fun h4 => ?_) (fun h4 => ?_)
          · exfalso; have hkk := h4; first | (have := of_decide_eq_true hkk; omega) | exact Bool.noConfusion hkk
          · (try simp only [decide_eq_true_eq, decide_eq_false_iff_not, Bool.and_eq_true, Bool.or_eq_true, Bool.and_eq_false_iff, Bool.or_eq_false_iff, Bool.not_eq_true, Bool.not_eq_false, Bool.not_eq_true', Bool.not_eq_false', Bool.not_not, bne_iff_ne, beq_iff_eq] at h4)
            refine r_skip ?_
            refine r_region ?_
            refine r_p (p_move rfl) rfl ?_
            refine r_p (p_bin rfl rfl (b_add (by first | exact w_i64 (by omega) (by omega) | rfl))) rfl ?_
            refine r_p (p_assign rfl) rfl ?_
            refine r_nil ?_
            refine r_here (k + 1) ⟨by omega, by omega⟩ rfl rfl rfl
        · refine r_draw [77, 78, 79, 80, 81, 82, 83, 84, 85, 86, 87, 88, 89, 90, 91, 92, 93, 94, 95, 96, 97, 98, 99, 100, 101, 102, 103, 104, 105, 106, 107, 108, 109, 110, 111, 112, 113, 114, 115, 116, 117, 118, 119, 120] _ rfl (stg_end (V := [(0, 77, _), (1, 78, _), (2, 79, _), (3, 80, _), (4, 81, _), (5, 82, _), (6, 83, _), (7, 84, _), (8, 85, _), (9, 86, _), (10, 87, _), (11, 88, _), (12, 89, _), (13, 90, _), (14, 91, _), (15, 92, _), (16, 93, _), (17, 94, _), (18, 95, _), (19, 96, _), (20, 97, _), (21, 98, _), (22, 99, _), (23, 100, _), (24, 101, _), (25, 102, _), (26, 103, _), (27, 104, _), (28, 105, _), (29, 106, _), (30, 107, _), (31, 108, _), (32, 109, _), (33, 110, _), (34, 111, _), (35, 112, _), (36, 113, _), (37, 114, _), (38, 115, _), (39, 116, _), (40, 117, _), (41, 118, _), (42, 119, _), (43, 120, _)]) [0, 1, 2, 3, 4, 5, 6, 7, 8, 9, 10, 11, 12, 13, 14, 15, 16, 17, 18, 19, 20, 21, 22, 23, 24, 25, 26, 27, 28, 29, 30, 31, 32, 33, 34, 35, 36, 37, 38, 39, 40, 41, 42, 43] rfl rfl (prs_cons (pri rfl (p_move rfl)) (prs_cons (pri rfl (p_bin rfl rfl b_gt)) (prs_cons (pri rfl (p_move rfl)) (prs_cons (prig_y rfl rfl rfl (decide_eq_true (by omega)) (p_move rfl)) (prs_cons (prig_y rfl rfl rfl (decide_eq_true (by omega)) (p_move rfl)) (prs_cons (prig_y rfl rfl rfl (decide_eq_true (by omega)) (p_bin rfl rfl (b_sub (by first | exact w_i64 (by omega) (by omega) | rfl)))) (prs_cons (prig_y rfl rfl rfl (decide_eq_true (by omega)) (p_idx_sl (j := (k - 1)) Try.underlying40 t64 rfl rfl (hs_own (k := 24) rfl) (by first | rfl | omega) (by first | omega | (simp; done) | (simp; omega)))) (prs_cons (prig_y rfl rfl rfl (decide_eq_true (by omega)) (p_field fo64_0 rfl)) (prs_cons (prig_y rfl rfl rfl (decide_eq_true (by omega)) (p_load1 t30 rfl rfl (g_elp (hs_own (k := 24) rfl) (by intro _; rfl) (getD_get dL (by omega)) rfl))) (prs_cons (prig_y rfl rfl rfl (decide_eq_true (by omega)) (p_move rfl)) (prs_cons (prig_y rfl rfl rfl (decide_eq_true (by omega)) (p_move rfl)) (prs_cons (prig_y rfl rfl rfl (decide_eq_true (by omega)) (p_idx_sl (j := k) Try.underlying40 t64 rfl rfl (hs_own (k := 24) rfl) (by first | rfl | omega) (by first | omega | (simp; done) | (simp; omega)))) (prs_cons (prig_y rfl rfl rfl (decide_eq_true (by omega)) (p_field fo64_0 rfl)) (prs_cons (prig_y rfl rfl rfl (decide_eq_true (by omega)) (p_load1 t30 rfl rfl (g_elp (hs_own (k := 24) rfl) (by intro _; rfl) (getD_get dL (by omega)) rfl))) (prs_cons (prig_y rfl rfl rfl (decide_eq_true (by omega)) (p_bin rfl rfl b_gt)) (prs_cons (prig_y rfl rfl rfl (decide_eq_true (by omega)) (p_move rfl)) (prs_cons (prig_y rfl rfl rfl (decide_eq_false (by omega)) (p_move rfl)) (prs_cons (prig_y rfl rfl rfl (decide_eq_false (by omega)) (p_move rfl)) (prs_cons (prig_y rfl rfl rfl (decide_eq_false (by omega)) (p_bin rfl rfl (b_sub (by first | exact w_i64 (by omega) (by omega) | rfl)))) (prs_cons (prig_y rfl rfl rfl (decide_eq_false (by omega)) (p_idx_sl (j := (k - 1)) Try.underlying40 t64 rfl rfl (hs_own (k := 24) rfl) (by first | rfl | omega) (by first | omega | (simp; done) | (simp; omega)))) (prs_cons (prig_y rfl rfl rfl (decide_eq_false (by omega)) (p_field fo64_0 rfl)) (prs_cons (prig_y rfl rfl rfl (decide_eq_false (by omega)) (p_load1 t30 rfl rfl (g_elp (hs_own (k := 24) rfl) (by intro _; rfl) (getD_get dL (by omega)) rfl))) (prs_cons (prig_y rfl rfl rfl (decide_eq_false (by omega)) (p_move rfl)) (prs_cons (prig_y rfl rfl rfl (decide_eq_false (by omega)) (p_move rfl)) (prs_cons (prig_y rfl rfl rfl (decide_eq_false (by omega)) (p_idx_sl (j := k) Try.underlying40 t64 rfl rfl (hs_own (k := 24) rfl) (by first | rfl | omega) (by first | omega | (simp; done) | (simp; omega)))) (prs_cons (prig_y rfl rfl rfl (decide_eq_false (by omega)) (p_field fo64_0 rfl)) (prs_cons (prig_y rfl rfl rfl (decide_eq_false (by omega)) (p_load1 t30 rfl rfl (g_elp (hs_own (k := 24) rfl) (by intro _; rfl) (getD_get dL (by omega)) rfl))) (prs_cons (prig_y rfl rfl rfl (decide_eq_false (by omega)) (p_bin rfl rfl b_eq)) (prs_cons (prig_y rfl rfl rfl (decide_eq_false (by omega)) (p_move rfl)) (prs_cons (prig_n rfl rfl rfl (decide_eq_false (by omega))) (prs_cons (prig_n rfl rfl rfl (decide_eq_false (by omega))) (prs_cons (prig_n rfl rfl rfl (decide_eq_false (by omega))) (prs_cons (prig_n rfl rfl rfl (decide_eq_false (by omega))) (prs_cons (prig_n rfl rfl rfl (decide_eq_false (by omega))) (prs_cons (prig_n rfl rfl rfl (decide_eq_false (by omega))) (prs_cons (prig_n rfl rfl rfl (decide_eq_false (by omega))) (prs_cons (prig_n rfl rfl rfl (decide_eq_false (by omega))) (prs_cons (prig_n rfl rfl rfl (decide_eq_false (by omega))) (prs_cons (prig_n rfl rfl rfl (decide_eq_false (by omega))) (prs_cons (prig_n rfl rfl rfl (decide_eq_false (by omega))) (prs_cons (prig_n rfl rfl rfl (decide_eq_false (by omega))) (prs_cons (prig_y rfl rfl rfl (decide_eq_false (by omega)) (p_pick rfl rfl rfl (pick_f (decide_eq_false (by omega))))) (prs_cons (prig_y rfl rfl rfl (decide_eq_true (by omega)) (p_pick rfl rfl rfl (pick_f (decide_eq_false (by omega))))) (prs_cons (pri rfl (p_pick rfl rfl rfl (pick_t (decide_eq_true (by omega))))) prs_nil)))))))))))))))))))))))))))))))))))))))))))) rfl rfl rfl ?_)
          refine r_cond rfl (fun h5 => ?_) (fun h5 => ?_)
          · exfalso; have hkk := h5; first | (have := of_decide_eq_true hkk; omega) | exact Bool.noConfusion hkk
          · (try simp only [decide_eq_true_eq, decide_eq_false_iff_not, Bool.and_eq_true, Bool.or_eq_true, Bool.and_eq_false_iff, Bool.or_eq_false_iff, Bool.not_eq_true, Bool.not_eq_false, Bool.not_eq_true', Bool.not_eq_false', Bool.not_not, bne_iff_ne, beq_iff_eq] at h5)
            refine r_skip ?_
            refine r_region ?_
            refine r_p (p_move rfl) rfl ?_
            refine r_p (p_bin rfl rfl (b_add (by first | exact w_i64 (by omega) (by omega) | rfl))) rfl ?_
            refine r_p (p_assign rfl) rfl ?_
            refine r_nil ?_
            refine r_here (k + 1) ⟨by omega, by omega⟩ rfl rfl rfl
        · refine r_draw [77, 78, 79, 80, 81, 82, 83, 84, 85, 86, 87, 88, 89, 90, 91, 92, 93, 94, 95, 96, 97, 98, 99, 100, 101, 102, 103, 104, 105, 106, 107, 108, 109, 110, 111, 112, 113, 114, 115, 116, 117, 118, 119, 120] _ rfl (stg_end (V := [(0, 77, _), (1, 78, _), (2, 79, _), (3, 80, _), (4, 81, _), (5, 82, _), (6, 83, _), (7, 84, _), (8, 85, _), (9, 86, _), (10, 87, _), (11, 88, _), (12, 89, _), (13, 90, _), (14, 91, _), (15, 92, _), (16, 93, _), (17, 94, _), (18, 95, _), (19, 96, _), (20, 97, _), (21, 98, _), (22, 99, _), (23, 100, _), (24, 101, _), (25, 102, _), (26, 103, _), (27, 104, _), (28, 105, _), (29, 106, _), (30, 107, _), (31, 108, _), (32, 109, _), (33, 110, _), (34, 111, _), (35, 112, _), (36, 113, _), (37, 114, _), (38, 115, _), (39, 116, _), (40, 117, _), (41, 118, _), (42, 119, _), (43, 120, _)]) [0, 1, 2, 3, 4, 5, 6, 7, 8, 9, 10, 11, 12, 13, 14, 15, 16, 17, 18, 19, 20, 21, 22, 23, 24, 25, 26, 27, 28, 29, 30, 31, 32, 33, 34, 35, 36, 37, 38, 39, 40, 41, 42, 43] rfl rfl (prs_cons (pri rfl (p_move rfl)) (prs_cons (pri rfl (p_bin rfl rfl b_gt)) (prs_cons (pri rfl (p_move rfl)) (prs_cons (prig_y rfl rfl rfl (decide_eq_true (by omega)) (p_move rfl)) (prs_cons (prig_y rfl rfl rfl (decide_eq_true (by omega)) (p_move rfl)) (prs_cons (prig_y rfl rfl rfl (decide_eq_true (by omega)) (p_bin rfl rfl (b_sub (by first | exact w_i64 (by omega) (by omega) | rfl)))) (prs_cons (prig_y rfl rfl rfl (decide_eq_true (by omega)) (p_idx_sl (j := (k - 1)) Try.underlying40 t64 rfl rfl (hs_own (k := 24) rfl) (by first | rfl | omega) (by first | omega | (simp; done) | (simp; omega)))) (prs_cons (prig_y rfl rfl rfl (decide_eq_true (by omega)) (p_field fo64_0 rfl)) (prs_cons (prig_y rfl rfl rfl (decide_eq_true (by omega)) (p_load1 t30 rfl rfl (g_elp (hs_own (k := 24) rfl) (by intro _; rfl) (getD_get dL (by omega)) rfl))) (prs_cons (prig_y rfl rfl rfl (decide_eq_true (by omega)) (p_move rfl)) (prs_cons (prig_y rfl rfl rfl (decide_eq_true (by omega)) (p_move rfl)) (prs_cons (prig_y rfl rfl rfl (decide_eq_true (by omega)) (p_idx_sl (j := k) Try.underlying40 t64 rfl rfl (hs_own (k := 24) rfl) (by first | rfl | omega) (by first | omega | (simp; done) | (simp; omega)))) (prs_cons (prig_y rfl rfl rfl (decide_eq_true (by omega)) (p_field fo64_0 rfl)) (prs_cons (prig_y rfl rfl rfl (decide_eq_true (by omega)) (p_load1 t30 rfl rfl (g_elp (hs_own (k := 24) rfl) (by intro _; rfl) (getD_get dL (by omega)) rfl))) (prs_cons (prig_y rfl rfl rfl (decide_eq_true (by omega)) (p_bin rfl rfl b_gt)) (prs_cons (prig_y rfl rfl rfl (decide_eq_true (by omega)) (p_move rfl)) (prs_cons (prig_y rfl rfl rfl (decide_eq_false (by omega)) (p_move rfl)) (prs_cons (prig_y rfl rfl rfl (decide_eq_false (by omega)) (p_move rfl)) (prs_cons (prig_y rfl rfl rfl (decide_eq_false (by omega)) (p_bin rfl rfl (b_sub (by first | exact w_i64 (by omega) (by omega) | rfl)))) (prs_cons (prig_y rfl rfl rfl (decide_eq_false (by omega)) (p_idx_sl (j := (k - 1)) Try.underlying40 t64 rfl rfl (hs_own (k := 24) rfl) (by first | rfl | omega) (by first | omega | (simp; done) | (simp; omega)))) (prs_cons (prig_y rfl rfl rfl (decide_eq_false (by omega)) (p_field fo64_0 rfl)) (prs_cons (prig_y rfl rfl rfl (decide_eq_false (by omega)) (p_load1 t30 rfl rfl (g_elp (hs_own (k := 24) rfl) (by intro _; rfl) (getD_get dL (by omega)) rfl))) (prs_cons (prig_y rfl rfl rfl (decide_eq_false (by omega)) (p_move rfl)) (prs_cons (prig_y rfl rfl rfl (decide_eq_false (by omega)) (p_move rfl)) (prs_cons (prig_y rfl rfl rfl (decide_eq_false (by omega)) (p_idx_sl (j := k) Try.underlying40 t64 rfl rfl (hs_own (k := 24) rfl) (by first | rfl | omega) (by first | omega | (simp; done) | (simp; omega)))) (prs_cons (prig_y rfl rfl rfl (decide_eq_false (by omega)) (p_field fo64_0 rfl)) (prs_cons (prig_y rfl rfl rfl (decide_eq_false (by omega)) (p_load1 t30 rfl rfl (g_elp (hs_own (k := 24) rfl) (by intro _; rfl) (getD_get dL (by omega)) rfl))) (prs_cons (prig_y rfl rfl rfl (decide_eq_false (by omega)) (p_bin rfl rfl b_eq)) (prs_cons (prig_y rfl rfl rfl (decide_eq_false (by omega)) (p_move rfl)) (prs_cons (prig_y rfl rfl rfl (decide_eq_true (by omega)) (p_move rfl)) (prs_cons (prig_y rfl rfl rfl (decide_eq_true (by omega)) (p_move rfl)) (prs_cons (prig_y rfl rfl rfl (decide_eq_true (by omega)) (p_bin rfl rfl (b_sub (by first | exact w_i64 (by omega) (by omega) | rfl)))) (prs_cons (prig_y rfl rfl rfl (decide_eq_true (by omega)) (p_idx_sl (j := (k - 1)) Try.underlying40 t64 rfl rfl (hs_own (k := 24) rfl) (by first | rfl | omega) (by first | omega | (simp; done) | (simp; omega)))) (prs_cons (prig_y rfl rfl rfl (decide_eq_true (by omega)) (p_field fo64_1 rfl)) (prs_cons (prig_y rfl rfl rfl (decide_eq_true (by omega)) (p_load1 t3 rfl rfl (g_elp (hs_own (k := 24) rfl) (by intro _; rfl) (getD_get dL (by omega)) rfl))) (prs_cons (prig_y rfl rfl rfl (decide_eq_true (by omega)) (p_move rfl)) (prs_cons (prig_y rfl rfl rfl (decide_eq_true (by omega)) (p_move rfl)) (prs_cons (prig_y rfl rfl rfl (decide_eq_true (by omega)) (p_idx_sl (j := k) Try.underlying40 t64 rfl rfl (hs_own (k := 24) rfl) (by first | rfl | omega) (by first | omega | (simp; done) | (simp; omega)))) (prs_cons (prig_y rfl rfl rfl (decide_eq_true (by omega)) (p_field fo64_1 rfl)) (prs_cons (prig_y rfl rfl rfl (decide_eq_true (by omega)) (p_load1 t3 rfl rfl (g_elp (hs_own (k := 24) rfl) (by intro _; rfl) (getD_get dL (by omega)) rfl))) (prs_cons (prig_y rfl rfl rfl (decide_eq_true (by omega)) (p_bin rfl rfl b_ge)) (prs_cons (prig_y rfl rfl rfl (decide_eq_false (by omega)) (p_pick rfl rfl rfl (pick_t (decide_eq_true (by omega))))) (prs_cons (prig_y rfl rfl rfl (decide_eq_true (by omega)) (p_pick rfl rfl rfl (pick_f (decide_eq_false (by omega))))) (prs_cons (pri rfl (p_pick rfl rfl rfl (pick_t (decide_eq_true (by omega))))) prs_nil)))))))))))))))))))))))))))))))))))))))))))) rfl rfl rfl ?_)
          refine r_cond rfl (fun h6 => ?_) (fun h6 => ?_)
          · exfalso; have hkk := h6; first | (have := of_decide_eq_true hkk; omega) | exact Bool.noConfusion hkk
          · (try simp only [decide_eq_true_eq, decide_eq_false_iff_not, Bool.and_eq_true, Bool.or_eq_true, Bool.and_eq_false_iff, Bool.or_eq_false_iff, Bool.not_eq_true, Bool.not_eq_false, Bool.not_eq_true', Bool.not_eq_false', Bool.not_not, bne_iff_ne, beq_iff_eq] at h6)
            refine r_skip ?_
            refine r_region ?_
            refine r_p (p_move rfl) rfl ?_
            refine r_p (p_bin rfl rfl (b_add (by first | exact w_i64 (by omega) (by omega) | rfl))) rfl ?_
            refine r_p (p_assign rfl) rfl ?_
            refine r_nil ?_
            refine r_here (k + 1) ⟨by omega, by omega⟩ rfl rfl rfl
    · (try simp only [decide_eq_true_eq, decide_eq_false_iff_not, Bool.and_eq_true, Bool.or_eq_true, Bool.and_eq_false_iff, Bool.or_eq_false_iff, Bool.not_eq_true, Bool.not_eq_false, Bool.not_eq_true', Bool.not_eq_false', Bool.not_not, bne_iff_ne, beq_iff_eq] at h2)
      refine r_exit ?_
      refine r_seq ?_
      refine r_region ?_
      refine r_p (p_move rfl) rfl ?_
      refine r_p (p_assign rfl) rfl ?_
      refine r_nil ?_
      refine r_cret ?_
      refine r_ret () trivial rfl (rs1 (rv_tmp rfl)) (congrArg Value.bool (by simp)) [] [] rfl rfl rfl

end Go.Proofs.Ytbkonlkffajhkaa
