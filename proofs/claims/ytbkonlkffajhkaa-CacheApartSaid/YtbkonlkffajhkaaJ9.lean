/-
  CacheApart walks. No condition.
-/
import Derived.Test.YtbkonlkffajhkaaI5
namespace Go.Proofs.Ytbkonlkffajhkaa
set_option linter.unusedSimpArgs false
set_option linter.unusedVariables false
open Go.RowKit

def endL (L : List En) (k : Nat) : Int := if k = 0 then 4096 else (L.getD (k - 1) dE).base + (L.getD (k - 1) dE).bytes.size
theorem endL_le {PS : List Int} {size cur : Int} {L : List En} {K : List Lk} (h : CInv PS 4096 size cur L K) {k : Nat} (hk : k ≤ L.length) : 0 ≤ endL L k ∧ endL L k ≤ 4096 + size := by
  have hsz := h.sz
  unfold endL
  split
  · omega
  · have := h.ent _ (getD_mem' (show k - 1 < L.length by omega))
    omega
theorem endL_ok {PS : List Int} {size cur : Int} {L : List En} {K : List Lk} (h : CInv PS 4096 size cur L K) {k : Nat} (hk : k < L.length) : endL L k ≤ (L.getD k dE).base := by
  unfold endL
  split
  · have := h.ent _ (getD_mem' hk)
    omega
  · have := List.pairwise_iff_getElem.1 h.ord (k - 1) k (by omega) hk (by omega)
    rw [List.getD_eq_getElem?_getD, List.getD_eq_getElem?_getD, List.getElem?_eq_getElem hk, List.getElem?_eq_getElem (show k - 1 < L.length by omega)]
    exact this

set_option maxHeartbeats 1000000 in
set_option maxRecDepth 100000 in
theorem apart_law (sz : Int) (vs : SV) (l : List Q4) :
    Spec Try.prog 9 [.int .i64 sz, sv vs] [] [sl 4 eQ (sv vs) l] (X := Unit) (fun _ => True) (fun _ => .bool true) (fun _ => []) (fun _ => []) := by
  refine r_enter Try.func9 rfl Try.ntmps9 rfl fun w0 M H => ?_
  refine r_seq ?_
  refine r_region ?_
  refine r_p (p_assign rfl) rfl ?_
  refine r_nil ?_
  refine r_seq ?_
  refine r_region ?_
  refine r_call (xs := []) sanity_spec cb15 [] [] [] [] rfl rfl rfl rfl rfl rfl rfl rfl (fun _ _ => rfl) (fun _ _ _ => rfl) rfl (fun _ _ => ?_)
  refine r_p (p_assign rfl) rfl ?_
  refine r_nil ?_
  refine r_seq ?_
  refine r_region ?_
  refine r_p (p_move rfl) rfl ?_
  refine r_p (p_move rfl) rfl ?_
  refine r_call (xs := [.tmp 14, .tmp 15]) (played_spec sz vs l) cb16 [] [(false, 0)] [500, 501, 502, 503, 504, 505] [1] rfl rfl rfl rfl rfl rfl rfl rfl (fun _ _ => rfl) (fun _ _ _ => rfl) rfl (fun ⟨C, r, ⟨cur, L, K, ob, ol, vL, vC, S⟩⟩ hpl => ?_)
  obtain ⟨hi, hS⟩ := hpl
  dsimp only at hi hS ⊢
  have hlen := hi.hlen ps12_len
  have hlenK := hi.hlenK ps12_len
  have h60 := m60 sz
  have hsz := hi.sz
  have hcu := hi.cu
  have hse := size60 sz
  refine r_p (p_move rfl) rfl ?_
  refine r_p (p_extract rfl rfl) rfl ?_
  refine r_p (p_extract rfl rfl) rfl ?_
  refine r_p (p_assign rfl) rfl ?_
  refine r_p (p_assign rfl) rfl ?_
  refine r_nil ?_
  refine r_seq ?_
  refine r_seq ?_
  refine r_region ?_
  refine r_p (p_move rfl) rfl ?_
  refine r_p (p_bin rfl rfl (b_eqPn Try.underlying25)) rfl ?_
  refine r_nil ?_
  refine r_cond rfl (fun h1 => ?_) (fun h1 => ?_)
  · exact absurd h1 (by simp)
  · (try simp only [decide_eq_true_eq, decide_eq_false_iff_not, Bool.and_eq_true, Bool.or_eq_true, Bool.and_eq_false_iff, Bool.or_eq_false_iff, Bool.not_eq_true, Bool.not_eq_false, Bool.not_eq_true', Bool.not_eq_false', Bool.not_not, bne_iff_ne, beq_iff_eq] at h1)
    refine r_skip ?_
    refine r_seq ?_
    refine r_region ?_
    refine r_p (p_move rfl) rfl ?_
    refine r_call (xs := [.tmp 21]) (all_spec C 4096 (sizeN 4096 (sz % 60)) cur ob ol L hi.hL (by omega)) cb26 [] [(true, 500), (true, 501)] [22] [] rfl rfl rfl rfl rfl rfl rfl rfl (fun _ _ => rfl) (fun _ _ _ => rfl) rfl (fun v22 _ => ?_)
    refine r_p (p_assign rfl) rfl ?_
    refine r_nil ?_
    refine r_seq ?_
    refine r_region ?_
    refine r_p (p_assign rfl) rfl ?_
    refine r_nil ?_
    refine r_seq ?_
    refine r_region ?_
    refine r_p (p_assign rfl) rfl ?_
    refine r_nil ?_
    refine r_seq ?_
    refine r_seq ?_
    refine r_region ?_
    refine r_p (p_assign rfl) rfl ?_
    refine r_nil ?_
    refine r_block ?_
    refine r_loop (X := Nat) (fun k => k ≤ L.length) (fun k => [(5, .bool true), (6, .pointer (some ⟨C, 0, none⟩)), (7, .pointer (some ⟨r, 0, none⟩)), (8, sv v22), (9, .int .u32 (endL L k)), (10, .int .i64 (usedL (L.take k))), (11, .int .i64 (k : Int))]) (fun k => [(500, row C 84 (cC 4096 (sizeN 4096 (sz % 60)) cur ob ol)), (501, mpB ob L), (502, mpL ol K), (503, row r 34 (cR 4096 (sizeN 4096 (sz % 60)) cur vL vC)), (504, own 36 5 eR (sv vL) L), (505, own 100 3 eL (sv vC) K), (22, own 54 36 eEnt (sv v22) L)]) (fun k => [(0, sl 4 eQ (sv vs) l), (1, pgP S)]) (fun k => L.length - k) 0 (Nat.zero_le _) rfl rfl rfl (fun k hk0 => ?_)
    refine r_seq ?_
    refine r_seq ?_
    refine r_region ?_
    refine r_p (p_move rfl) rfl ?_
    refine r_p (p_move rfl) rfl ?_
    refine r_p (p_len_sl Try.underlying39 rfl (hs_own (k := 22) rfl)) rfl ?_
    refine r_p (p_bin rfl rfl b_lt) rfl ?_
    refine r_nil ?_
    refine r_cond rfl (fun h2 => ?_) (fun h2 => ?_)
    · (try simp only [decide_eq_true_eq, decide_eq_false_iff_not, Bool.and_eq_true, Bool.or_eq_true, Bool.and_eq_false_iff, Bool.or_eq_false_iff, Bool.not_eq_true, Bool.not_eq_false, Bool.not_eq_true', Bool.not_eq_false', Bool.not_not, bne_iff_ne, beq_iff_eq] at h2)
      have hk : k < L.length := by omega
      have hek := hi.ent _ (getD_mem' hk)
      have hok := endL_ok hi hk
      have hub := usedL_bd hi.sizes (by omega) k
      refine r_skip ?_
      refine r_seq ?_
      refine r_block ?_
      refine r_seq ?_
      refine r_seq ?_
      refine r_region ?_
      refine r_p (p_move rfl) rfl ?_
      refine r_p (p_move rfl) rfl ?_
      refine r_p (p_idx_sl (j := k) Try.underlying39 t54 rfl rfl (hs_own (k := 22) rfl) (by first | rfl | omega) (by first | omega | (simp; done) | (simp; omega))) rfl ?_
      refine r_p (p_field fo54_1 rfl) rfl ?_
      refine r_p (p_load1 t30 rfl rfl (g_elp (hs_own (k := 22) rfl) (by intro _; rfl) (getD_get dE (by omega)) rfl)) rfl ?_
      refine r_p (p_move rfl) rfl ?_
      refine r_p (p_bin rfl rfl b_lt) rfl ?_
      refine r_nil ?_
      refine r_cond rfl (fun h3 => ?_) (fun h3 => ?_)
      · exfalso; have := of_decide_eq_true h3; omega
      · (try simp only [decide_eq_true_eq, decide_eq_false_iff_not, Bool.and_eq_true, Bool.or_eq_true, Bool.and_eq_false_iff, Bool.or_eq_false_iff, Bool.not_eq_true, Bool.not_eq_false, Bool.not_eq_true', Bool.not_eq_false', Bool.not_not, bne_iff_ne, beq_iff_eq] at h3)
        refine r_skip ?_
        refine r_seq ?_
        refine r_draw [36, 37, 38, 39, 40, 41, 42, 43, 44, 45, 46, 47, 48, 49, 9] _ rfl (stg_end (V := [(0, 36, _), (1, 37, _), (2, 38, _), (3, 39, _), (4, 40, _), (5, 41, _), (6, 42, _), (7, 43, _), (8, 44, _), (9, 45, _), (10, 46, _), (11, 47, _), (12, 48, _), (13, 49, _), (14, 9, _)]) [0, 1, 2, 3, 4, 5, 6, 7, 8, 9, 10, 11, 12, 13, 14] rfl rfl (prs_cons (pri rfl (p_move rfl)) (prs_cons (pri rfl (p_move rfl)) (prs_cons (pri rfl (p_idx_sl (j := k) Try.underlying39 t54 rfl rfl (hs_own (k := 22) rfl) (by first | rfl | omega) (by first | omega | (simp; done) | (simp; omega)))) (prs_cons (pri rfl (p_field fo54_1 rfl)) (prs_cons (pri rfl (p_load1 t30 rfl rfl (g_elp (hs_own (k := 22) rfl) (by intro _; rfl) (getD_get dE (by omega)) rfl))) (prs_cons (pri rfl (p_move rfl)) (prs_cons (pri rfl (p_move rfl)) (prs_cons (pri rfl (p_idx_sl (j := k) Try.underlying39 t54 rfl rfl (hs_own (k := 22) rfl) (by first | rfl | omega) (by first | omega | (simp; done) | (simp; omega)))) (prs_cons (pri rfl (p_field fo54_4 rfl)) (prs_cons (pri rfl (p_field fo52_0 rfl)) (prs_cons (pri rfl (p_load1 t9 rfl rfl (g_elp (o := 33) (hs_own (k := 22) rfl) (by intro _; rfl) (getD_get dE (by omega)) rfl))) (prs_cons (pri rfl (p_len_str Try.underlying9 rfl)) (prs_cons (pri rfl (p_conv Try.underlying3 Try.underlying30 rfl (by first | exact w_u32 (by omega) (by omega) | rfl))) (prs_cons (pri rfl (p_bin rfl rfl (b_add (by first | exact w_u32 (by omega) (by omega) | rfl)))) (prs_cons (pri rfl (p_assign rfl)) prs_nil))))))))))))))) rfl rfl rfl ?_)
        refine r_region ?_
        refine r_p (p_move rfl) rfl ?_
        refine r_p (p_move rfl) rfl ?_
        refine r_p (p_move rfl) rfl ?_
        refine r_p (p_idx_sl (j := k) Try.underlying39 t54 rfl rfl (hs_own (k := 22) rfl) (by first | rfl | omega) (by first | omega | (simp; done) | (simp; omega))) rfl ?_
        refine r_p (p_field fo54_4 rfl) rfl ?_
        refine r_p (p_field fo52_0 rfl) rfl ?_
        refine r_p (p_load1 t9 rfl rfl (g_elp (o := 33) (hs_own (k := 22) rfl) (by intro _; rfl) (getD_get dE (by omega)) rfl)) rfl ?_
        refine r_p (p_len_str Try.underlying9 rfl) rfl ?_
        refine r_p (p_bin rfl rfl (b_add (by first | exact w_i64 (by omega) (by omega) | rfl))) rfl ?_
        refine r_p (p_assign rfl) rfl ?_
        refine r_nil ?_
        refine r_region ?_
        refine r_p (p_move rfl) rfl ?_
        refine r_p (p_bin rfl rfl (b_add (by first | exact w_i64 (by omega) (by omega) | rfl))) rfl ?_
        refine r_p (p_assign rfl) rfl ?_
        refine r_nil ?_
        refine r_here (k + 1) ⟨by omega, by omega⟩ (by rw [usedL_take hk]; rfl) rfl rfl
    · (try simp only [decide_eq_true_eq, decide_eq_false_iff_not, Bool.and_eq_true, Bool.or_eq_true, Bool.and_eq_false_iff, Bool.or_eq_false_iff, Bool.not_eq_true, Bool.not_eq_false, Bool.not_eq_true', Bool.not_eq_false', Bool.not_not, bne_iff_ne, beq_iff_eq] at h2)
      have hk : k = L.length := by omega
      subst hk
      have hend := (endL_le hi (Nat.le_refl _)).2
      refine r_exit ?_
      refine r_seq ?_
      refine r_region ?_
      refine r_p (p_move rfl) rfl ?_
      refine r_p (p_move rfl) rfl ?_
      refine r_split (t := 60) rfl (fun h4 => ?_) (fun h4 => False.elim (by simp at h4))
      refine r_gyes rfl rfl ?_
      refine r_p (p_move rfl) rfl ?_
      refine r_gyes rfl rfl ?_
      refine r_p (p_move rfl) rfl ?_
      refine r_gyes rfl rfl ?_
      refine r_p (p_nilCheck rfl) rfl ?_
      refine r_gyes rfl rfl ?_
      refine r_p (p_field0 fo34_1 rfl) rfl ?_
      refine r_gyes rfl rfl ?_
      refine r_p (p_load1 t3 rfl rfl (g_row1 (k := 503) rfl rfl)) rfl ?_
      refine r_gyes rfl rfl ?_
      refine r_p (p_bin rfl rfl (b_add (by first | exact w_i64 (by omega) (by omega) | rfl))) rfl ?_
      refine r_gyes rfl rfl ?_
      refine r_p (p_conv Try.underlying3 Try.underlying30 rfl (by first | exact w_u32 (by omega) (by omega) | rfl)) rfl ?_
      refine r_gyes rfl rfl ?_
      refine r_p (p_bin rfl rfl b_le) rfl ?_
      refine r_p (p_pick rfl rfl rfl (by first | exact pick_and | exact pick_or |  rfl)) rfl ?_
      refine r_p (p_move rfl) rfl ?_
      refine r_split (t := 70) rfl (fun h5 => ?_) (fun h5 => False.elim (by simp [hend] at h5))
      refine r_gyes rfl rfl ?_
      refine r_p (p_move rfl) rfl ?_
      refine r_gyes rfl rfl ?_
      refine r_call (xs := [.tmp 71]) (used_spec C 4096 (sizeN 4096 (sz % 60)) cur ob ol L hi.hL (by omega) hi.sizes) cb31 [] [(true, 500), (true, 501)] [] [] rfl rfl rfl rfl rfl rfl rfl rfl (fun _ _ => rfl) (fun _ _ _ => rfl) rfl (fun _ _ => ?_)
      refine r_gyes rfl rfl ?_
      refine r_p (p_move rfl) rfl ?_
      refine r_gyes rfl rfl ?_
      refine r_p (p_bin rfl rfl b_eq) rfl ?_
      refine r_p (p_pick rfl rfl rfl (by first | exact pick_and | exact pick_or |  rfl)) rfl ?_
      refine r_p (p_assign rfl) rfl ?_
      refine r_nil ?_
      refine r_cret ?_
      refine r_ret () trivial rfl (rs1 (rv_tmp rfl)) (congrArg Value.bool (by rw [List.take_length]; simp)) [] [] rfl rfl rfl

end Go.Proofs.Ytbkonlkffajhkaa
