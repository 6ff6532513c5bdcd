/-
  The reference model: adding a block. Condition: few blocks and links; numbers are below 2^32.
-/
import Derived.Test.YtbkonlkffajhkaaR3
namespace Go.Proofs.Ytbkonlkffajhkaa
set_option linter.unusedSimpArgs false
set_option linter.unusedVariables false
open Go.RowKit

def qE (base c1 : Int) (x : En) : Bool := decide (x.base - base > c1)
def addedV (b : Int) (r l : SV) (e : Int) : Value := .agg #[.int .u32 b, sv r, sv l, .int .i64 e]
theorem all_true_take {α : Type} (l : List α) : l.filter (fun _ => true) = l := List.filter_eq_self.2 fun _ _ => rfl
theorem ins_stepA {α : Type} {d : α} {K : List α} {k : Nat} (hk : k < K.length) (q : α → Bool) (e : α) : insF q e (K.take (k + 1)) = if (!(insF q e (K.take k)).2 && q (K.getD k d)) = true then ((insF q e (K.take k)).1 ++ [e] ++ [K.getD k d], true) else ((insF q e (K.take k)).1 ++ [K.getD k d], (insF q e (K.take k)).2) := by
  have := ins_step (d := d) hk q (fun _ => true) e rfl
  rw [all_true_take, all_true_take] at this
  exact this

set_option maxRecDepth 100000 in
theorem radd_empty (r : Nat) (base size cur : Int) (vL vC : SV) (L : List En) (K : List Lk) (e : En) (hn : e.bytes.size = 0) :
    Spec Try.prog 33 [.pointer (some ⟨r, 0, none⟩), veR e] [row r 34 (cR base size cur vL vC), own 36 5 eR (sv vL) L, own 100 3 eL (sv vC) K] [] (X := Unit) (fun _ => True) (fun _ => addedV 0 nilS nilS 1) (fun _ => [row r 34 (cR base size cur vL vC), own 36 5 eR (sv vL) L, own 100 3 eL (sv vC) K]) (fun _ => []) := by
  refine r_enter Try.func33 rfl Try.ntmps33 rfl fun w0 M H => ?_
  refine r_seq ?_
  refine r_region ?_
  refine r_boxA rfl rfl fun b3 => ?_
  refine r_alloc t74 rfl rfl fun b4 => ?_
  refine r_nil ?_
  refine r_seq ?_
  refine r_region ?_
  refine r_p (p_field0 fo36_2 rfl) rfl ?_
  refine r_p (p_load1 t9 rfl rfl (g_row1 (k := 3) rfl rfl)) rfl ?_
  refine r_p (p_len_str Try.underlying9 rfl) rfl ?_
  refine r_p (p_assign rfl) rfl ?_
  refine r_nil ?_
  refine r_seq ?_
  refine r_seq ?_
  refine r_region ?_
  refine r_p (p_move rfl) rfl ?_
  refine r_p (p_bin rfl rfl b_eq) rfl ?_
  refine r_nil ?_
  refine r_cond rfl (fun h1 => ?_) (fun h1 => ?_)
  · (try simp only [decide_eq_true_eq, decide_eq_false_iff_not, Bool.and_eq_true, Bool.or_eq_true, Bool.and_eq_false_iff, Bool.or_eq_false_iff, Bool.not_eq_true, Bool.not_eq_false, Bool.not_eq_true', Bool.not_eq_false', Bool.not_not, bne_iff_ne, beq_iff_eq] at h1)
    refine r_seq ?_
    refine r_region ?_
    refine r_p (p_build (parts := [(3, .const (.int .i64 1))]) t74 pl74 rfl rfl) rfl ?_
    refine r_store_all (k := 4) t74 rfl rfl rfl rfl rfl rfl ?_
    refine r_nil ?_
    refine r_cret ?_
    refine r_ret () trivial rfl (rs1 (rv_cellA t74 rfl rfl rfl (g_all (k := 4) rfl))) rfl [0, 1, 2] [] rfl rfl rfl
  · exact absurd h1 (by simp [hn])
set_option maxRecDepth 100000 in
theorem radd_full (r : Nat) (base size cur : Int) (vL vC : SV) (L : List En) (K : List Lk) (e : En) (hn : 0 < e.bytes.size) (hf : size < e.bytes.size) :
    Spec Try.prog 33 [.pointer (some ⟨r, 0, none⟩), veR e] [row r 34 (cR base size cur vL vC), own 36 5 eR (sv vL) L, own 100 3 eL (sv vC) K] [] (X := Unit) (fun _ => True) (fun _ => addedV 0 nilS nilS 30) (fun _ => [row r 34 (cR base size cur vL vC), own 36 5 eR (sv vL) L, own 100 3 eL (sv vC) K]) (fun _ => []) := by
  refine r_enter Try.func33 rfl Try.ntmps33 rfl fun w0 M H => ?_
  refine r_seq ?_
  refine r_region ?_
  refine r_boxA rfl rfl fun b3 => ?_
  refine r_alloc t74 rfl rfl fun b4 => ?_
  refine r_nil ?_
  refine r_seq ?_
  refine r_region ?_
  refine r_p (p_field0 fo36_2 rfl) rfl ?_
  refine r_p (p_load1 t9 rfl rfl (g_row1 (k := 3) rfl rfl)) rfl ?_
  refine r_p (p_len_str Try.underlying9 rfl) rfl ?_
  refine r_p (p_assign rfl) rfl ?_
  refine r_nil ?_
  refine r_seq ?_
  refine r_seq ?_
  refine r_region ?_
  refine r_p (p_move rfl) rfl ?_
  refine r_p (p_bin rfl rfl b_eq) rfl ?_
  refine r_nil ?_
  refine r_cond rfl (fun h1 => ?_) (fun h1 => ?_)
  · exfalso; have := of_decide_eq_true h1; omega
  · (try simp only [decide_eq_true_eq, decide_eq_false_iff_not, Bool.and_eq_true, Bool.or_eq_true, Bool.and_eq_false_iff, Bool.or_eq_false_iff, Bool.not_eq_true, Bool.not_eq_false, Bool.not_eq_true', Bool.not_eq_false', Bool.not_not, bne_iff_ne, beq_iff_eq] at h1)
    refine r_skip ?_
    refine r_seq ?_
    refine r_seq ?_
    refine r_region ?_
    refine r_p (p_move rfl) rfl ?_
    refine r_p (p_move rfl) rfl ?_
    refine r_p (p_nilCheck rfl) rfl ?_
    refine r_p (p_field0 fo34_1 rfl) rfl ?_
    refine r_p (p_load1 t3 rfl rfl (g_row1 (k := 0) rfl rfl)) rfl ?_
    refine r_p (p_bin rfl rfl b_gt) rfl ?_
    refine r_nil ?_
    refine r_cond rfl (fun h2 => ?_) (fun h2 => ?_)
    · (try simp only [decide_eq_true_eq, decide_eq_false_iff_not, Bool.and_eq_true, Bool.or_eq_true, Bool.and_eq_false_iff, Bool.or_eq_false_iff, Bool.not_eq_true, Bool.not_eq_false, Bool.not_eq_true', Bool.not_eq_false', Bool.not_not, bne_iff_ne, beq_iff_eq] at h2)
      refine r_seq ?_
      refine r_region ?_
      refine r_p (p_build (parts := [(3, .const (.int .i64 30))]) t74 pl74 rfl rfl) rfl ?_
      refine r_store_all (k := 4) t74 rfl rfl rfl rfl rfl rfl ?_
      refine r_nil ?_
      refine r_cret ?_
      refine r_ret () trivial rfl (rs1 (rv_cellA t74 rfl rfl rfl (g_all (k := 4) rfl))) rfl [0, 1, 2] [] rfl rfl rfl
    · exfalso; have := of_decide_eq_false h2; omega
set_option maxHeartbeats 4000000 in
set_option maxRecDepth 100000 in
theorem radd_ok (r : Nat) (base size cur : Int) (vL vC : SV) (L : List En) (K : List Lk) (e : En) (hn : 0 < e.bytes.size) (hfit : (e.bytes.size : Int) ≤ size) (hb : 0 ≤ base ∧ base + size ≤ 4294967296) (hc : 0 ≤ cur ∧ cur ≤ size) (hbs : ∀ x ∈ L, x.bytes.size ≤ 4294967296) (hoff : ∀ x ∈ L, base ≤ x.base ∧ x.base < 4294967296) (hlen : L.length < 40) (hlenK : K.length < 40) :
    Spec Try.prog 33 [.pointer (some ⟨r, 0, none⟩), veR e] [row r 34 (cR base size cur vL vC), own 36 5 eR (sv vL) L, own 100 3 eL (sv vC) K] [] (X := (SV × SV × SV × SV)) (fun _ => True) (fun x => addedV (base + (curN size cur e.bytes.size)) x.1 x.2.1 0) (fun x => [row r 34 (cR base size ((curN size cur e.bytes.size) + e.bytes.size) x.2.2.1 x.2.2.2), own 36 5 eR (sv x.2.2.1) (insD (qE base (curN size cur e.bytes.size)) (putE base (curN size cur e.bytes.size) e) (L.filter (keepE ((remL L base (curN size cur e.bytes.size) e.bytes.size e).map En.pc)))), own 100 3 eL (sv x.2.2.2) (K.filter (keepK ((remL L base (curN size cur e.bytes.size) e.bytes.size e).map En.pc))), own 36 5 eR (sv x.1) (remL L base (curN size cur e.bytes.size) e.bytes.size e), own 100 3 eL (sv x.2.1) (K.filter (cutK ((remL L base (curN size cur e.bytes.size) e.bytes.size e).map En.pc)))]) (fun _ => []) := by
  refine r_enter Try.func33 rfl Try.ntmps33 rfl fun w0 M H => ?_
  refine r_nilown 300 (S := 30) (s := 1) (enc := eW) ?_
  refine r_nilown 301 (S := 36) (s := 5) (enc := eR) ?_
  refine r_nilown 302 (S := 36) (s := 5) (enc := eR) ?_
  obtain ⟨c1, hc1⟩ : ∃ c1, c1 = (curN size cur e.bytes.size) := ⟨_, rfl⟩
  have hc1b : 0 ≤ c1 ∧ c1 + e.bytes.size ≤ size := by rw [hc1, curN]; split <;> omega
  rw [← hc1]
  refine r_seq ?_
  refine r_region ?_
  refine r_boxA rfl rfl fun b3 => ?_
  refine r_alloc t74 rfl rfl fun b4 => ?_
  refine r_nil ?_
  refine r_seq ?_
  refine r_region ?_
  refine r_p (p_field0 fo36_2 rfl) rfl ?_
  refine r_p (p_load1 t9 rfl rfl (g_row1 (k := 3) rfl rfl)) rfl ?_
  refine r_p (p_len_str Try.underlying9 rfl) rfl ?_
  refine r_p (p_assign rfl) rfl ?_
  refine r_nil ?_
  refine r_seq ?_
  refine r_seq ?_
  refine r_region ?_
  refine r_p (p_move rfl) rfl ?_
  refine r_p (p_bin rfl rfl b_eq) rfl ?_
  refine r_nil ?_
  refine r_cond rfl (fun h1 => ?_) (fun h1 => ?_)
  · exfalso; have := of_decide_eq_true h1; omega
  · (try simp only [decide_eq_true_eq, decide_eq_false_iff_not, Bool.and_eq_true, Bool.or_eq_true, Bool.and_eq_false_iff, Bool.or_eq_false_iff, Bool.not_eq_true, Bool.not_eq_false, Bool.not_eq_true', Bool.not_eq_false', Bool.not_not, bne_iff_ne, beq_iff_eq] at h1)
    refine r_skip ?_
    refine r_seq ?_
    refine r_seq ?_
    refine r_region ?_
    refine r_p (p_move rfl) rfl ?_
    refine r_p (p_move rfl) rfl ?_
    refine r_p (p_nilCheck rfl) rfl ?_
    refine r_p (p_field0 fo34_1 rfl) rfl ?_
    refine r_p (p_load1 t3 rfl rfl (g_row1 (k := 0) rfl rfl)) rfl ?_
    refine r_p (p_bin rfl rfl b_gt) rfl ?_
    refine r_nil ?_
    refine r_cond rfl (fun h2 => ?_) (fun h2 => ?_)
    · exfalso; have := of_decide_eq_true h2; omega
    · (try simp only [decide_eq_true_eq, decide_eq_false_iff_not, Bool.and_eq_true, Bool.or_eq_true, Bool.and_eq_false_iff, Bool.or_eq_false_iff, Bool.not_eq_true, Bool.not_eq_false, Bool.not_eq_true', Bool.not_eq_false', Bool.not_not, bne_iff_ne, beq_iff_eq] at h2)
      refine r_skip ?_
      refine r_seq_cut (X := Unit) (fun _ => True) (fun _ => [(0, .pointer (some ⟨r, 0, none⟩)), (3, .pointer (some ⟨b3, 0, none⟩)), (4, .pointer (some ⟨b4, 0, none⟩)), (5, .int .i64 (e.bytes.size : Int))]) (fun _ => [(0, row r 34 (cR base size c1 vL vC)), (1, own 36 5 eR (sv vL) L), (2, own 100 3 eL (sv vC) K), (3, row b3 36 (eR e)), (4, row b4 74 [.int .u32 0, .slice none 0 0, .slice none 0 0, .int .i64 0]), (300, own 30 1 eW (.slice none 0 0) []), (301, own 36 5 eR (.slice none 0 0) []), (302, own 36 5 eR (.slice none 0 0) [])]) (fun _ => []) ?_ (fun _ _ => ?_)
      · refine r_seq ?_
        refine r_draw [26, 27, 28, 29, 30, 31, 32, 33, 34, 35, 36] _ rfl (stg_end (V := [(0, 26, _), (1, 27, _), (2, 28, _), (3, 29, _), (4, 30, _), (5, 31, _), (6, 32, _), (7, 33, _), (8, 34, _), (9, 35, _), (10, 36, _)]) [0, 1, 2, 3, 4, 5, 6, 7, 8, 9, 10] rfl rfl (prs_cons (pri rfl (p_move rfl)) (prs_cons (pri rfl (p_nilCheck rfl)) (prs_cons (pri rfl (p_field0 fo34_2 rfl)) (prs_cons (pri rfl (p_load1 t3 rfl rfl (g_row1 (k := 0) rfl rfl))) (prs_cons (pri rfl (p_move rfl)) (prs_cons (pri rfl (p_bin rfl rfl (b_add (by first | exact w_i64 (by omega) (by omega) | rfl)))) (prs_cons (pri rfl (p_move rfl)) (prs_cons (pri rfl (p_nilCheck rfl)) (prs_cons (pri rfl (p_field0 fo34_1 rfl)) (prs_cons (pri rfl (p_load1 t3 rfl rfl (g_row1 (k := 0) rfl rfl))) (prs_cons (pri rfl (p_bin rfl rfl b_gt)) prs_nil))))))))))) rfl rfl rfl ?_)
        refine r_cond rfl (fun h3 => ?_) (fun h3 => ?_)
        · (try simp only [decide_eq_true_eq, decide_eq_false_iff_not, Bool.and_eq_true, Bool.or_eq_true, Bool.and_eq_false_iff, Bool.or_eq_false_iff, Bool.not_eq_true, Bool.not_eq_false, Bool.not_eq_true', Bool.not_eq_false', Bool.not_not, bne_iff_ne, beq_iff_eq] at h3)
          refine r_region ?_
          refine r_p (p_move rfl) rfl ?_
          refine r_p (p_nilCheck rfl) rfl ?_
          refine r_p (p_field0 fo34_2 rfl) rfl ?_
          refine r_store_row (k := 0) t3 rfl rfl rfl rfl rfl rfl rfl rfl ?_
          refine r_nil ?_
          refine r_here () trivial rfl (by rw [hc1, curN, if_pos (by omega)]; rfl) rfl
        · (try simp only [decide_eq_true_eq, decide_eq_false_iff_not, Bool.and_eq_true, Bool.or_eq_true, Bool.and_eq_false_iff, Bool.or_eq_false_iff, Bool.not_eq_true, Bool.not_eq_false, Bool.not_eq_true', Bool.not_eq_false', Bool.not_not, bne_iff_ne, beq_iff_eq] at h3)
          refine r_skip ?_
          refine r_here () trivial rfl (by rw [hc1, curN, if_neg (by omega)]; rfl) rfl
      · refine r_seq ?_
        refine r_draw [40, 41, 42, 43, 44, 45, 46, 47, 48, 49, 50, 6] _ rfl (stg_mem (V := [(0, 40, _), (1, 41, _), (2, 42, _), (3, 43, _), (4, 44, _), (5, 45, _), (6, 46, _), (7, 47, _), (8, 48, _), (9, 49, _), (10, 50, _)]) [0, 1, 2, 3, 4, 5, 6, 7, 8, 9, 10] 11 [11] [] (fun b6 => []) rfl rfl (prs_cons (pri rfl (p_move rfl)) (prs_cons (pri rfl (p_nilCheck rfl)) (prs_cons (pri rfl (p_field0 fo34_0 rfl)) (prs_cons (pri rfl (p_load1 t30 rfl rfl (g_row1 (k := 0) rfl rfl))) (prs_cons (pri rfl (p_move rfl)) (prs_cons (pri rfl (p_nilCheck rfl)) (prs_cons (pri rfl (p_field0 fo34_2 rfl)) (prs_cons (pri rfl (p_load1 t3 rfl rfl (g_row1 (k := 0) rfl rfl))) (prs_cons (pri rfl (p_conv Try.underlying3 Try.underlying30 rfl (by first | exact w_u32 (by omega) (by omega) | rfl))) (prs_cons (pri rfl (p_bin rfl rfl (b_add (by first | exact w_u32 (by omega) (by omega) | rfl)))) (prs_cons (pri rfl (p_build (parts := [(0, .tmp 49)]) t74 pl74 rfl rfl)) prs_nil))))))))))) rfl rfl rfl rfl rfl rfl rfl rfl rfl rfl rfl (fun _ _ => rfl) rfl (ms_alloc t74 rfl) (fun b6 _ => stg_mem0 [0, 1, 2, 3, 4, 5, 6, 7, 8, 9, 10] 12 [12, 11, 10, 9, 8, 7, 6, 5, 4, 3, 2, 1, 0] [] (fun _ => []) rfl rfl (prs_cons (pri rfl (p_move rfl)) (prs_cons (pri rfl (p_nilCheck rfl)) (prs_cons (pri rfl (p_field0 fo34_0 rfl)) (prs_cons (pri rfl (p_load1 t30 rfl rfl (g_row1 (k := 0) rfl rfl))) (prs_cons (pri rfl (p_move rfl)) (prs_cons (pri rfl (p_nilCheck rfl)) (prs_cons (pri rfl (p_field0 fo34_2 rfl)) (prs_cons (pri rfl (p_load1 t3 rfl rfl (g_row1 (k := 0) rfl rfl))) (prs_cons (pri rfl (p_conv Try.underlying3 Try.underlying30 rfl (by first | exact w_u32 (by omega) (by omega) | rfl))) (prs_cons (pri rfl (p_bin rfl rfl (b_add (by first | exact w_u32 (by omega) (by omega) | rfl)))) (prs_cons (pri rfl (p_build (parts := [(0, .tmp 49)]) t74 pl74 rfl rfl)) prs_nil))))))))))) rfl rfl rfl rfl rfl rfl rfl rfl rfl (fun _ _ => rfl) rfl (ms_store_all (k := 6) t74 rfl rfl rfl rfl rfl rfl) (fun _ _ => stg_end [] rfl rfl prs_nil rfl rfl rfl ?_)))
        refine r_seq ?_
        refine r_region ?_
        refine r_p (p_assign rfl) rfl ?_
        refine r_nil ?_
        refine r_seq ?_
        refine r_seq ?_
        refine r_region ?_
        refine r_p (p_assign rfl) rfl ?_
        refine r_nil ?_
        refine r_block ?_
        refine r_loop (X := Nat × SV × SV) (fun x => x.1 ≤ L.length) (fun x => [(0, .pointer (some ⟨r, 0, none⟩)), (3, .pointer (some ⟨b3, 0, none⟩)), (4, .pointer (some ⟨b4, 0, none⟩)), (5, .int .i64 (e.bytes.size : Int)), (6, .pointer (some ⟨b6, 0, none⟩)), (7, sv x.2.1), (8, .int .i64 (x.1 : Int))]) (fun x => [(0, row r 34 (cR base size c1 vL vC)), (1, own 36 5 eR (sv vL) L), (2, own 100 3 eL (sv vC) K), (3, row b3 36 (eR e)), (4, row b4 74 [.int .u32 0, .slice none 0 0, .slice none 0 0, .int .i64 0]), (6, row b6 74 [.int .u32 (base + c1), sv x.2.2, .slice none 0 0, .int .i64 0]), (300, own 30 1 eW (sv x.2.1) (((L.take x.1).filter (inWay base c1 e.bytes.size e)).map En.pc)), (301, own 36 5 eR (sv x.2.2) ((L.take x.1).filter (inWay base c1 e.bytes.size e))), (302, own 36 5 eR (.slice none 0 0) [])]) (fun x => []) (fun x => L.length - x.1) (0, nilS, nilS) (Nat.zero_le _) rfl rfl rfl (fun ⟨k, vp, vr⟩ hk0 => ?_)
        dsimp only at hk0 ⊢
        have hf1 := filter_take_len L (inWay base c1 e.bytes.size e) k
        refine r_seq ?_
        refine r_seq ?_
        refine r_region ?_
        refine r_p (p_move rfl) rfl ?_
        refine r_p (p_move rfl) rfl ?_
        refine r_p (p_nilCheck rfl) rfl ?_
        refine r_p (p_field0 fo34_3 rfl) rfl ?_
        refine r_p (p_load1 t31 rfl rfl (g_row1 (k := 0) rfl rfl)) rfl ?_
        refine r_p (p_len_sl Try.underlying31 rfl (hs_own (k := 1) rfl)) rfl ?_
        refine r_p (p_bin rfl rfl b_lt) rfl ?_
        refine r_nil ?_
        refine r_cond rfl (fun h4 => ?_) (fun h4 => ?_)
        · (try simp only [decide_eq_true_eq, decide_eq_false_iff_not, Bool.and_eq_true, Bool.or_eq_true, Bool.and_eq_false_iff, Bool.or_eq_false_iff, Bool.not_eq_true, Bool.not_eq_false, Bool.not_eq_true', Bool.not_eq_false', Bool.not_not, bne_iff_ne, beq_iff_eq] at h4)
          have hk : k < L.length := by omega
          have hok := hoff _ (getD_mem' hk)
          have hsk := hbs _ (getD_mem' hk)
          have hoffk : offW base (L.getD k dE) = (L.getD k dE).base - base := wrap_u32_id (by omega) (by omega)
          refine r_skip ?_
          refine r_seq ?_
          refine r_block ?_
          refine r_seq ?_
          refine r_region ?_
          refine r_p (p_move rfl) rfl ?_
          refine r_p (p_move rfl) rfl ?_
          refine r_p (p_nilCheck rfl) rfl ?_
          refine r_p (p_field0 fo34_3 rfl) rfl ?_
          refine r_p (p_load1 t31 rfl rfl (g_row1 (k := 0) rfl rfl)) rfl ?_
          refine r_p (p_move rfl) rfl ?_
          refine r_p (p_idx_sl (j := k) Try.underlying31 t36 rfl rfl (hs_own (k := 1) rfl) (by first | rfl | omega) (by first | omega | (simp; done) | (simp; omega))) rfl ?_
          refine r_p (p_loadA t36 rfl rfl rfl (g_el' (hs_own (k := 1) rfl) (by intro _; rfl) (getD_get dE (by omega)) (by rfl))) rfl ?_
          refine r_call (xs := [.tmp 60, .tmp 67]) (roff_spec r base size c1 vL vC (L.getD k dE) ⟨by omega, by omega⟩ ⟨by omega, by omega⟩) cb52 [] [(true, 0)] [] [] rfl rfl rfl rfl rfl rfl rfl rfl (fun _ _ => rfl) (fun _ _ _ => rfl) rfl (fun _ _ => ?_)
          refine r_p (p_assign rfl) rfl ?_
          refine r_nil ?_
          refine r_seq ?_
          refine r_draw [69, 70, 71, 72, 73, 74, 75, 76, 77, 78, 79, 80, 81, 82, 83, 84, 85, 86, 87, 88, 89, 90, 91, 92, 93, 94, 95, 96, 97, 98, 99, 100, 101, 102, 103, 104, 105, 106, 107] _ rfl (stg_end (V := [(0, 69, _), (1, 70, _), (2, 71, _), (3, 72, _), (4, 73, _), (5, 74, _), (6, 75, _), (7, 76, _), (8, 77, _), (9, 78, _), (10, 79, _), (11, 80, _), (12, 81, _), (13, 82, _), (14, 83, _), (15, 84, _), (16, 85, _), (17, 86, _), (18, 87, _), (19, 88, _), (20, 89, _), (21, 90, _), (22, 91, _), (23, 92, _), (24, 93, _), (25, 94, _), (26, 95, _), (27, 96, _), (28, 97, _), (29, 98, _), (30, 99, _), (31, 100, _), (32, 101, _), (33, 102, _), (34, 103, _), (35, 104, _), (36, 105, _), (37, 106, _), (38, 107, _)]) [0, 1, 2, 3, 4, 5, 6, 7, 8, 9, 10, 11, 12, 13, 14, 15, 16, 17, 18, 19, 20, 21, 22, 23, 24, 25, 26, 27, 28, 29, 30, 31, 32, 33, 34, 35, 36, 37, 38] rfl rfl (prs_cons (pri rfl (p_move rfl)) (prs_cons (pri rfl (p_nilCheck rfl)) (prs_cons (pri rfl (p_field0 fo34_3 rfl)) (prs_cons (pri rfl (p_load1 t31 rfl rfl (g_row1 (k := 0) rfl rfl))) (prs_cons (pri rfl (p_move rfl)) (prs_cons (pri rfl (p_idx_sl (j := k) Try.underlying31 t36 rfl rfl (hs_own (k := 1) rfl) (by first | rfl | omega) (by first | omega | (simp; done) | (simp; omega)))) (prs_cons (pri rfl (p_field fo36_0 rfl)) (prs_cons (pri rfl (p_load1 t30 rfl rfl (g_elp (hs_own (k := 1) rfl) (by intro _; rfl) (getD_get dE (by omega)) rfl))) (prs_cons (pri rfl (p_field0 fo36_0 rfl)) (prs_cons (pri rfl (p_load1 t30 rfl rfl (g_row1 (k := 3) rfl rfl))) (prs_cons (pri rfl (p_bin rfl rfl b_eq)) (prs_cons (pri rfl (p_move rfl)) (prs_cons (prig_s [] rfl rfl rfl trivial (fun hg5 => p_move rfl)) (prs_cons (prig_s [] rfl rfl rfl trivial (fun hg6 => p_move rfl)) (prs_cons (prig_s [(82, _)] rfl rfl rfl ⟨rfl, trivial⟩ (fun hg7 => p_nilCheck rfl)) (prs_cons (prig_s [(83, _)] rfl rfl rfl ⟨rfl, trivial⟩ (fun hg8 => p_field0 fo34_2 rfl)) (prs_cons (prig_s [(84, _)] rfl rfl rfl ⟨rfl, trivial⟩ (fun hg9 => p_load1 t3 rfl rfl (g_row1 (k := 0) rfl rfl))) (prs_cons (prig_s [] rfl rfl rfl trivial (fun hg10 => p_move rfl)) (prs_cons (prig_s [(85, _), (86, _)] rfl rfl rfl ⟨rfl, rfl, trivial⟩ (fun hg11 => p_bin rfl rfl (b_add (by first | exact w_i64 (by omega) (by omega) | rfl)))) (prs_cons (prig_s [(81, _), (87, _)] rfl rfl rfl ⟨rfl, rfl, trivial⟩ (fun hg12 => p_bin rfl rfl b_lt)) (prs_cons (prig_s [(88, _)] rfl rfl rfl ⟨rfl, trivial⟩ (fun hg13 => p_move rfl)) (prs_cons (prig_s2 [] [(89, _)] rfl rfl rfl trivial ⟨rfl, trivial⟩ (fun hg14 hg14' => p_move rfl)) (prs_cons (prig_s2 [(90, _)] [(89, _)] rfl rfl rfl ⟨rfl, trivial⟩ ⟨rfl, trivial⟩ (fun hg15 hg15' => p_nilCheck rfl)) (prs_cons (prig_s2 [(91, _)] [(89, _)] rfl rfl rfl ⟨rfl, trivial⟩ ⟨rfl, trivial⟩ (fun hg16 hg16' => p_field0 fo34_2 rfl)) (prs_cons (prig_s2 [(92, _)] [(89, _)] rfl rfl rfl ⟨rfl, trivial⟩ ⟨rfl, trivial⟩ (fun hg17 hg17' => p_load1 t3 rfl rfl (g_row1 (k := 0) rfl rfl))) (prs_cons (prig_s2 [] [(89, _)] rfl rfl rfl trivial ⟨rfl, trivial⟩ (fun hg18 hg18' => p_move rfl)) (prs_cons (prig_s2 [] [(89, _)] rfl rfl rfl trivial ⟨rfl, trivial⟩ (fun hg19 hg19' => p_move rfl)) (prs_cons (prig_s2 [(95, _)] [(89, _)] rfl rfl rfl ⟨rfl, trivial⟩ ⟨rfl, trivial⟩ (fun hg20 hg20' => p_nilCheck rfl)) (prs_cons (prig_s2 [(96, _)] [(89, _)] rfl rfl rfl ⟨rfl, trivial⟩ ⟨rfl, trivial⟩ (fun hg21 hg21' => p_field0 fo34_3 rfl)) (prs_cons (prig_s2 [(97, _)] [(89, _)] rfl rfl rfl ⟨rfl, trivial⟩ ⟨rfl, trivial⟩ (fun hg22 hg22' => p_load1 t31 rfl rfl (g_row1 (k := 0) rfl rfl))) (prs_cons (prig_s2 [] [(89, _)] rfl rfl rfl trivial ⟨rfl, trivial⟩ (fun hg23 hg23' => p_move rfl)) (prs_cons (prig_s2 [(98, _), (99, _)] [(89, _)] rfl rfl rfl ⟨rfl, rfl, trivial⟩ ⟨rfl, trivial⟩ (fun hg24 hg24' => p_idx_sl (j := k) Try.underlying31 t36 rfl rfl (hs_own (k := 1) rfl) (by first | rfl | omega) (by first | omega | (simp; done) | (simp; omega)))) (prs_cons (prig_s2 [(100, _)] [(89, _)] rfl rfl rfl ⟨rfl, trivial⟩ ⟨rfl, trivial⟩ (fun hg25 hg25' => p_field fo36_2 rfl)) (prs_cons (prig_s2 [(101, _)] [(89, _)] rfl rfl rfl ⟨rfl, trivial⟩ ⟨rfl, trivial⟩ (fun hg26 hg26' => p_load1 t9 rfl rfl (g_elp (hs_own (k := 1) rfl) (by intro _; rfl) (getD_get dE (by omega)) rfl))) (prs_cons (prig_s2 [(102, _)] [(89, _)] rfl rfl rfl ⟨rfl, trivial⟩ ⟨rfl, trivial⟩ (fun hg27 hg27' => p_len_str Try.underlying9 rfl)) (prs_cons (prig_s2 [(94, _), (103, _)] [(89, _)] rfl rfl rfl ⟨rfl, rfl, trivial⟩ ⟨rfl, trivial⟩ (fun hg28 hg28' => p_bin rfl rfl (b_add (by first | exact w_i64 (by omega) (by omega) | rfl)))) (prs_cons (prig_s2 [(93, _), (104, _)] [(89, _)] rfl rfl rfl ⟨rfl, rfl, trivial⟩ ⟨rfl, trivial⟩ (fun hg29 hg29' => p_bin rfl rfl b_lt)) (prs_cons (prig_s [(89, _)] rfl rfl rfl ⟨rfl, trivial⟩ (fun hg30 => p_pick rfl rfl rfl (by first | exact pick_and | exact pick_or | exact pick_and2 hg30 | exact pick_or2 hg30 | rfl))) (prs_cons (pri rfl (p_pick rfl rfl rfl (by first | exact pick_and | exact pick_or |  rfl))) prs_nil))))))))))))))))))))))))))))))))))))))) rfl rfl rfl ?_)
          refine r_cond rfl (fun h31 => ?_) (fun h31 => ?_)
          · have hway : inWay base c1 e.bytes.size e (L.getD k dE) = true := by
              unfold inWay
              rw [hoffk]
              exact h31
            refine r_seq ?_
            refine r_region ?_
            refine r_p (p_move rfl) rfl ?_
            refine r_p (p_move rfl) rfl ?_
            refine r_p (p_nilCheck rfl) rfl ?_
            refine r_p (p_field0 fo34_3 rfl) rfl ?_
            refine r_p (p_load1 t31 rfl rfl (g_row1 (k := 0) rfl rfl)) rfl ?_
            refine r_p (p_move rfl) rfl ?_
            refine r_p (p_idx_sl (j := k) Try.underlying31 t36 rfl rfl (hs_own (k := 1) rfl) (by first | rfl | omega) (by first | omega | (simp; done) | (simp; omega))) rfl ?_
            refine r_p (p_field fo36_0 rfl) rfl ?_
            refine r_p (p_load1 t30 rfl rfl (g_elp (hs_own (k := 1) rfl) (by intro _; rfl) (getD_get dE (by omega)) rfl)) rfl ?_
            refine r_bslice1 eW ((L.getD k dE).pc) Try.underlying44 t30 rfl (by decide) (by decide) rfl rfl rfl rfl fun v117 => ?_
            refine r_append 300 Try.underlying44 t30 rfl (by decide) (fun _ => rfl) (fun _ => rfl) rfl rfl rfl (hs_own (k := 117) rfl) (by first | omega | (simp; done) | (simp; omega)) (by unfold maxLen; first | omega | (simp; done) | (simp; omega)) rfl fun v118 => ?_
            refine r_p (p_assign rfl) rfl ?_
            refine r_nil ?_
            refine r_draw [119, 120, 121, 122, 123, 124, 125, 126, 127, 128, 129, 130] _ rfl (stg_mem (V := [(0, 119, _), (1, 120, _), (2, 121, _), (3, 122, _), (4, 123, _), (5, 124, _), (6, 125, _), (7, 126, _), (8, 127, _)]) [0, 1, 2, 3, 4, 5, 6, 7, 8] 9 [9, 8, 7, 6, 5, 4, 3, 2] [] (fun v128 => []) rfl rfl (prs_cons (pri rfl (p_field0 fo74_1 rfl)) (prs_cons (pri rfl (p_load1 t31 rfl rfl (g_row1 (k := 6) rfl rfl))) (prs_cons (pri rfl (p_move rfl)) (prs_cons (pri rfl (p_nilCheck rfl)) (prs_cons (pri rfl (p_field0 fo34_3 rfl)) (prs_cons (pri rfl (p_load1 t31 rfl rfl (g_row1 (k := 0) rfl rfl))) (prs_cons (pri rfl (p_move rfl)) (prs_cons (pri rfl (p_idx_sl (j := k) Try.underlying31 t36 rfl rfl (hs_own (k := 1) rfl) (by first | rfl | omega) (by first | omega | (simp; done) | (simp; omega)))) (prs_cons (pri rfl (p_loadA t36 rfl rfl rfl (g_el' (hs_own (k := 1) rfl) (by intro _; rfl) (getD_get dE (by omega)) (by rfl)))) prs_nil))))))))) rfl rfl rfl rfl rfl rfl rfl rfl rfl rfl rfl (fun _ _ => rfl) rfl (ms_bslice1 eR (L.getD k dE) Try.underlying31 t36 rfl (by decide) (by decide) rfl rfl rfl) (fun v128 _ => stg_mem [0, 1] 10 [10, 9, 8, 7, 6, 5, 4, 3, 2, 1, 0] [11] (fun v129 => [(11, 130, _)]) rfl rfl (prs_cons (pri rfl (p_field0 fo74_1 rfl)) (prs_cons (pri rfl (p_load1 t31 rfl rfl (g_row1 (k := 6) rfl rfl))) prs_nil)) rfl rfl rfl rfl rfl rfl rfl rfl rfl rfl rfl (fun _ _ => rfl) rfl (ms_append 301 Try.underlying31 t36 rfl (by decide) (fun _ => rfl) (fun _ => rfl) rfl rfl rfl (hs_own (k := 128) rfl) (by first | omega | (simp; done) | (simp; omega)) (by unfold maxLen; first | omega | (simp; done) | (simp; omega))) (fun v129 _ => stg_mem0 [11] 12 [12, 11, 10, 9, 8, 7, 6, 5, 4, 3, 2, 1, 0] [] (fun _ => []) rfl rfl (prs_cons (pri rfl (p_field0 fo74_1 rfl)) prs_nil) rfl rfl rfl rfl rfl rfl rfl rfl rfl (fun _ _ => rfl) rfl (ms_store_row (k := 6) t31 rfl rfl rfl rfl rfl rfl rfl rfl) (fun _ _ => stg_end [] rfl rfl prs_nil rfl rfl rfl ?_))))
            refine r_region ?_
            refine r_p (p_move rfl) rfl ?_
            refine r_p (p_bin rfl rfl (b_add (by first | exact w_i64 (by omega) (by omega) | rfl))) rfl ?_
            refine r_p (p_assign rfl) rfl ?_
            refine r_nil ?_
            refine r_here (k + 1, _, _) ⟨by dsimp only; omega, by dsimp only; omega⟩ rfl (by rw [take_filter (d := dE) hk, hway]; simp; rfl) rfl
          · have hway : inWay base c1 e.bytes.size e (L.getD k dE) = false := by
              unfold inWay
              rw [hoffk]
              exact h31
            refine r_skip ?_
            refine r_region ?_
            refine r_p (p_move rfl) rfl ?_
            refine r_p (p_bin rfl rfl (b_add (by first | exact w_i64 (by omega) (by omega) | rfl))) rfl ?_
            refine r_p (p_assign rfl) rfl ?_
            refine r_nil ?_
            refine r_here (k + 1, _, _) ⟨by dsimp only; omega, by dsimp only; omega⟩ rfl (by rw [take_filter (d := dE) hk, hway]; simp; rfl) rfl
        · (try simp only [decide_eq_true_eq, decide_eq_false_iff_not, Bool.and_eq_true, Bool.or_eq_true, Bool.and_eq_false_iff, Bool.or_eq_false_iff, Bool.not_eq_true, Bool.not_eq_false, Bool.not_eq_true', Bool.not_eq_false', Bool.not_not, bne_iff_ne, beq_iff_eq] at h4)
          have hk : k = L.length := by omega
          subst hk
          rw [List.take_length] at *
          refine r_exit ?_
          refine r_seq ?_
          refine r_region ?_
          refine r_p (p_move rfl) rfl ?_
          refine r_p (p_move rfl) rfl ?_
          refine r_call (xs := [.tmp 131, .tmp 132]) ((rdrop_spec r base size c1 vL vC vp ((L.filter (inWay base c1 e.bytes.size e)).map En.pc) L K hlen hlenK (by have := List.length_filter_le (inWay base c1 e.bytes.size e) L; rw [List.length_map]; omega)).roL (own_to_sl (T := 30))) cb53 [0, 1, 2] [(true, 300)] [0, 1, 2, 133] [] rfl rfl rfl rfl rfl rfl rfl rfl (fun _ _ => rfl) (fun _ _ _ => rfl) rfl (fun ⟨vo, vl, vk⟩ _ => ?_)
          dsimp only
          refine r_p (p_field0 fo74_2 rfl) rfl ?_
          refine r_store_row (k := 6) t32 rfl rfl rfl rfl rfl rfl rfl rfl ?_
          refine r_nil ?_
          refine r_seq ?_
          refine r_region ?_
          refine r_p (p_field0 fo74_0 rfl) rfl ?_
          refine r_p (p_load1 t30 rfl rfl (g_row1 (k := 6) rfl rfl)) rfl ?_
          refine r_p (p_field0 fo36_1 rfl) rfl ?_
          refine r_store_row (k := 3) t30 rfl rfl rfl rfl rfl rfl rfl rfl ?_
          refine r_nil ?_
          refine r_seq ?_
          refine r_region ?_
          refine r_p (p_assign rfl) rfl ?_
          refine r_nil ?_
          refine r_seq ?_
          refine r_region ?_
          refine r_p (p_assign rfl) rfl ?_
          refine r_nil ?_
          refine r_seq ?_
          refine r_seq ?_
          refine r_region ?_
          refine r_p (p_assign rfl) rfl ?_
          refine r_nil ?_
          refine r_block ?_
          refine r_loop (X := Nat × SV) (fun x => x.1 ≤ (L.filter (keepE ((L.filter (inWay base c1 e.bytes.size e)).map En.pc))).length) (fun x => [(0, .pointer (some ⟨r, 0, none⟩)), (5, .int .i64 (e.bytes.size : Int)), (3, .pointer (some ⟨b3, 0, none⟩)), (4, .pointer (some ⟨b4, 0, none⟩)), (6, .pointer (some ⟨b6, 0, none⟩)), (10, sv x.2), (11, .bool (insF (qE base c1) (putE base c1 e) ((L.filter (keepE ((L.filter (inWay base c1 e.bytes.size e)).map En.pc))).take x.1)).2), (12, .int .i64 (x.1 : Int))]) (fun x => [(0, row r 34 (cR base size c1 vl vk)), (1, own 36 5 eR (sv vl) (L.filter (keepE ((L.filter (inWay base c1 e.bytes.size e)).map En.pc)))), (2, own 100 3 eL (sv vk) (K.filter (keepK ((L.filter (inWay base c1 e.bytes.size e)).map En.pc)))), (3, row b3 36 (eR (putE base c1 e))), (4, row b4 74 [.int .u32 0, .slice none 0 0, .slice none 0 0, .int .i64 0]), (6, row b6 74 [.int .u32 (base + c1), sv vr, sv vo, .int .i64 0]), (133, own 100 3 eL (sv vo) (K.filter (cutK ((L.filter (inWay base c1 e.bytes.size e)).map En.pc)))), (301, own 36 5 eR (sv vr) (L.filter (inWay base c1 e.bytes.size e))), (302, own 36 5 eR (sv x.2) (insF (qE base c1) (putE base c1 e) ((L.filter (keepE ((L.filter (inWay base c1 e.bytes.size e)).map En.pc))).take x.1)).1)]) (fun x => []) (fun x => (L.filter (keepE ((L.filter (inWay base c1 e.bytes.size e)).map En.pc))).length - x.1) (0, nilS) (Nat.zero_le _) rfl rfl rfl (fun ⟨k, vn⟩ hk0 => ?_)
          dsimp only at hk0 ⊢
          have hil := insF_len (qE base c1) (putE base c1 e) ((L.filter (keepE ((L.filter (inWay base c1 e.bytes.size e)).map En.pc))).take k)
          have hil2 := List.length_take_le k (L.filter (keepE ((L.filter (inWay base c1 e.bytes.size e)).map En.pc)))
          have hil3 := List.length_filter_le (keepE ((L.filter (inWay base c1 e.bytes.size e)).map En.pc)) L
          refine r_seq ?_
          refine r_seq ?_
          refine r_region ?_
          refine r_p (p_move rfl) rfl ?_
          refine r_p (p_move rfl) rfl ?_
          refine r_p (p_nilCheck rfl) rfl ?_
          refine r_p (p_field0 fo34_3 rfl) rfl ?_
          refine r_p (p_load1 t31 rfl rfl (g_row1 (k := 0) rfl rfl)) rfl ?_
          refine r_p (p_len_sl Try.underlying31 rfl (hs_own (k := 1) rfl)) rfl ?_
          refine r_p (p_bin rfl rfl b_lt) rfl ?_
          refine r_nil ?_
          refine r_cond rfl (fun h32 => ?_) (fun h32 => ?_)
          · (try simp only [decide_eq_true_eq, decide_eq_false_iff_not, Bool.and_eq_true, Bool.or_eq_true, Bool.and_eq_false_iff, Bool.or_eq_false_iff, Bool.not_eq_true, Bool.not_eq_false, Bool.not_eq_true', Bool.not_eq_false', Bool.not_not, bne_iff_ne, beq_iff_eq] at h32)
            have hk : k < (L.filter (keepE ((L.filter (inWay base c1 e.bytes.size e)).map En.pc))).length := by omega
            have hok := hoff _ (List.mem_filter.1 (getD_mem' hk)).1
            refine r_skip ?_
            refine r_seq ?_
            refine r_block ?_
            refine r_seq ?_
            refine r_seq ?_
            by_cases h33 : (insF (qE base c1) (putE base c1 e) ((L.filter (keepE ((L.filter (inWay base c1 e.bytes.size e)).map En.pc))).take k)).2 = false
            · have hdn := h33
              refine r_draw [147, 148, 149, 150, 151, 152, 153, 154, 155, 156, 157, 158, 159, 160, 161, 162, 163, 164] _ rfl (stg_memg (V := [(0, 147, _), (1, 148, _), (2, 149, _), (3, 150, _), (4, 151, _), (5, 152, _), (6, 153, _), (7, 154, _), (8, 155, _), (9, 156, _), (10, 157, _), (12, 159, _), (13, 160, _), (14, 161, _), (15, 162, _)]) [0, 1, 2, 3, 4, 5, 6, 7, 8, 9, 10, 12, 13, 14, 15] 11 [11, 10, 9, 8, 7, 6, 5, 4, 3, 2, 1, 0] [16, 17] (fun _ => [(16, 163, _), (17, 164, _)]) rfl rfl (prs_cons (pri rfl (p_move rfl)) (prs_cons (pri rfl (p_not rfl)) (prs_cons (pri rfl (p_move rfl)) (prs_cons (prig_y rfl rfl rfl (by simp [h33]) (p_move rfl)) (prs_cons (prig_y rfl rfl rfl (by simp [h33]) (p_move rfl)) (prs_cons (prig_y rfl rfl rfl (by simp [h33]) (p_nilCheck rfl)) (prs_cons (prig_y rfl rfl rfl (by simp [h33]) (p_field0 fo34_3 rfl)) (prs_cons (prig_y rfl rfl rfl (by simp [h33]) (p_load1 t31 rfl rfl (g_row1 (k := 0) rfl rfl))) (prs_cons (prig_y rfl rfl rfl (by simp [h33]) (p_move rfl)) (prs_cons (prig_y rfl rfl rfl (by simp [h33]) (p_idx_sl (j := k) Try.underlying31 t36 rfl rfl (hs_own (k := 1) rfl) (by first | rfl | omega) (by first | omega | (simp; done) | (simp; omega)))) (prs_cons (prig_y rfl rfl rfl (by simp [h33]) (p_loadA t36 rfl rfl rfl (g_el' (hs_own (k := 1) rfl) (by intro _; rfl) (getD_get dE (by omega)) (by rfl)))) (prs_cons (prig_y rfl rfl rfl (by simp [h33]) (p_move rfl)) (prs_cons (prig_y rfl rfl rfl (by simp [h33]) (p_nilCheck rfl)) (prs_cons (prig_y rfl rfl rfl (by simp [h33]) (p_field0 fo34_2 rfl)) (prs_cons (prig_y rfl rfl rfl (by simp [h33]) (p_load1 t3 rfl rfl (g_row1 (k := 0) rfl rfl))) prs_nil))))))))))))))) rfl rfl rfl rfl rfl (by simp [h33]) rfl rfl rfl rfl rfl rfl (fun _ _ => rfl) rfl (ms_call (xs := [.tmp 150, .tmp 157]) (roff_spec r base size c1 vl vk ((L.filter (keepE ((L.filter (inWay base c1 e.bytes.size e)).map En.pc))).getD k dE) ⟨by omega, by omega⟩ ⟨by omega, by omega⟩) cb52 [] [(true, 0)] [] [] rfl rfl rfl rfl rfl rfl rfl rfl (fun _ _ => rfl) (fun _ _ _ => rfl)) (fun _ _ => stg_end [16, 17, 12, 13, 14, 15] rfl rfl (prs_cons (prig_y rfl rfl rfl (by simp [h33]) (p_bin rfl rfl b_gt)) (prs_cons (pri rfl (p_pick rfl rfl rfl (pick_t (by simp [h33])))) (prs_cons (prig_y rfl rfl rfl (by simp [h33]) (p_move rfl)) (prs_cons (prig_y rfl rfl rfl (by simp [h33]) (p_nilCheck rfl)) (prs_cons (prig_y rfl rfl rfl (by simp [h33]) (p_field0 fo34_2 rfl)) (prs_cons (prig_y rfl rfl rfl (by simp [h33]) (p_load1 t3 rfl rfl (g_row1 (k := 0) rfl rfl))) prs_nil)))))) rfl rfl rfl ?_))
              refine r_cond rfl (fun h34 => ?_) (fun h34 => ?_)
              · have hq7 := h34
                refine r_seq ?_
                refine r_region ?_
                refine r_p (p_move rfl) rfl ?_
                refine r_p (p_loadA t36 rfl rfl rfl (g_all (k := 3) rfl)) rfl ?_
                refine r_bslice1 eR (putE base c1 e) Try.underlying31 t36 rfl (by decide) (by decide) rfl rfl rfl rfl fun v167 => ?_
                refine r_append 302 Try.underlying31 t36 rfl (by decide) (fun _ => rfl) (fun _ => rfl) rfl rfl rfl (hs_own (k := 167) rfl) (by first | omega | (simp; done) | (simp; omega)) (by unfold maxLen; first | omega | (simp; done) | (simp; omega)) rfl fun v168 => ?_
                refine r_p (p_assign rfl) rfl ?_
                refine r_nil ?_
                refine r_region ?_
                refine r_p (p_assign rfl) rfl ?_
                refine r_nil ?_
                refine r_region ?_
                refine r_p (p_move rfl) rfl ?_
                refine r_p (p_move rfl) rfl ?_
                refine r_p (p_nilCheck rfl) rfl ?_
                refine r_p (p_field0 fo34_3 rfl) rfl ?_
                refine r_p (p_load1 t31 rfl rfl (g_row1 (k := 0) rfl rfl)) rfl ?_
                refine r_p (p_move rfl) rfl ?_
                refine r_p (p_idx_sl (j := k) Try.underlying31 t36 rfl rfl (hs_own (k := 1) rfl) (by first | rfl | omega) (by first | omega | (simp; done) | (simp; omega))) rfl ?_
                refine r_p (p_loadA t36 rfl rfl rfl (g_el' (hs_own (k := 1) rfl) (by intro _; rfl) (getD_get dE (by omega)) (by rfl))) rfl ?_
                refine r_bslice1 eR ((L.filter (keepE ((L.filter (inWay base c1 e.bytes.size e)).map En.pc))).getD k dE) Try.underlying31 t36 rfl (by decide) (by decide) rfl rfl rfl rfl fun v177 => ?_
                refine r_append 302 Try.underlying31 t36 rfl (by decide) (fun _ => rfl) (fun _ => rfl) rfl rfl rfl (hs_own (k := 177) rfl) (by first | omega | (simp; done) | (simp; omega)) (by unfold maxLen; first | omega | (simp; done) | (simp; omega)) rfl fun v178 => ?_
                refine r_p (p_assign rfl) rfl ?_
                refine r_nil ?_
                refine r_region ?_
                refine r_p (p_move rfl) rfl ?_
                refine r_p (p_bin rfl rfl (b_add (by first | exact w_i64 (by omega) (by omega) | rfl))) rfl ?_
                refine r_p (p_assign rfl) rfl ?_
                refine r_nil ?_
                have hq : (!(insF (qE base c1) (putE base c1 e) ((L.filter (keepE ((L.filter (inWay base c1 e.bytes.size e)).map En.pc))).take k)).2 && qE base c1 ((L.filter (keepE ((L.filter (inWay base c1 e.bytes.size e)).map En.pc))).getD k dE)) = true := by rw [hdn]; exact hq7
                have hins := ins_stepA (d := dE) hk (qE base c1) (putE base c1 e)
                rw [if_pos hq] at hins
                refine r_here (k + 1, _) ⟨by dsimp only; omega, by dsimp only; omega⟩ (by rw [hins]; rfl) (by rw [hins]; rfl) rfl
              · have hq7 := h34
                refine r_skip ?_
                refine r_region ?_
                refine r_p (p_move rfl) rfl ?_
                refine r_p (p_move rfl) rfl ?_
                refine r_p (p_nilCheck rfl) rfl ?_
                refine r_p (p_field0 fo34_3 rfl) rfl ?_
                refine r_p (p_load1 t31 rfl rfl (g_row1 (k := 0) rfl rfl)) rfl ?_
                refine r_p (p_move rfl) rfl ?_
                refine r_p (p_idx_sl (j := k) Try.underlying31 t36 rfl rfl (hs_own (k := 1) rfl) (by first | rfl | omega) (by first | omega | (simp; done) | (simp; omega))) rfl ?_
                refine r_p (p_loadA t36 rfl rfl rfl (g_el' (hs_own (k := 1) rfl) (by intro _; rfl) (getD_get dE (by omega)) (by rfl))) rfl ?_
                refine r_bslice1 eR ((L.filter (keepE ((L.filter (inWay base c1 e.bytes.size e)).map En.pc))).getD k dE) Try.underlying31 t36 rfl (by decide) (by decide) rfl rfl rfl rfl fun v177 => ?_
                refine r_append 302 Try.underlying31 t36 rfl (by decide) (fun _ => rfl) (fun _ => rfl) rfl rfl rfl (hs_own (k := 177) rfl) (by first | omega | (simp; done) | (simp; omega)) (by unfold maxLen; first | omega | (simp; done) | (simp; omega)) rfl fun v178 => ?_
                refine r_p (p_assign rfl) rfl ?_
                refine r_nil ?_
                refine r_region ?_
                refine r_p (p_move rfl) rfl ?_
                refine r_p (p_bin rfl rfl (b_add (by first | exact w_i64 (by omega) (by omega) | rfl))) rfl ?_
                refine r_p (p_assign rfl) rfl ?_
                refine r_nil ?_
                have hq : ¬ (!(insF (qE base c1) (putE base c1 e) ((L.filter (keepE ((L.filter (inWay base c1 e.bytes.size e)).map En.pc))).take k)).2 && qE base c1 ((L.filter (keepE ((L.filter (inWay base c1 e.bytes.size e)).map En.pc))).getD k dE)) = true := by rw [hdn, Bool.not_eq_true]; exact hq7
                have hins := ins_stepA (d := dE) hk (qE base c1) (putE base c1 e)
                rw [if_neg hq] at hins
                refine r_here (k + 1, _) ⟨by dsimp only; omega, by dsimp only; omega⟩ (by rw [hins]; rfl) (by rw [hins]; rfl) rfl
            · have hdn : (insF (qE base c1) (putE base c1 e) ((L.filter (keepE ((L.filter (inWay base c1 e.bytes.size e)).map En.pc))).take k)).2 = true := by simpa using h33
              refine r_draw [147, 148, 149, 150, 151, 152, 153, 154, 155, 156, 157, 158, 159, 160, 161, 162, 163, 164] _ rfl (stg_end (V := [(0, 147, _), (1, 148, _), (2, 149, _), (3, 150, _), (4, 151, _), (5, 152, _), (6, 153, _), (7, 154, _), (8, 155, _), (9, 156, _), (10, 157, _), (11, 158, _), (12, 159, _), (13, 160, _), (14, 161, _), (15, 162, _), (16, 163, _), (17, 164, _)]) [0, 1, 2, 3, 4, 5, 6, 7, 8, 9, 10, 11, 12, 13, 14, 15, 16, 17] rfl rfl (prs_cons (pri rfl (p_move rfl)) (prs_cons (pri rfl (p_not rfl)) (prs_cons (pri rfl (p_move rfl)) (prs_cons (prig_n rfl rfl rfl (by simp [h33])) (prs_cons (prig_n rfl rfl rfl (by simp [h33])) (prs_cons (prig_n rfl rfl rfl (by simp [h33])) (prs_cons (prig_n rfl rfl rfl (by simp [h33])) (prs_cons (prig_n rfl rfl rfl (by simp [h33])) (prs_cons (prig_n rfl rfl rfl (by simp [h33])) (prs_cons (prig_n rfl rfl rfl (by simp [h33])) (prs_cons (prig_n rfl rfl rfl (by simp [h33])) (prs_cons (prig_n rfl rfl rfl (by simp [h33])) (prs_cons (prig_n rfl rfl rfl (by simp [h33])) (prs_cons (prig_n rfl rfl rfl (by simp [h33])) (prs_cons (prig_n rfl rfl rfl (by simp [h33])) (prs_cons (prig_n rfl rfl rfl (by simp [h33])) (prs_cons (prig_n rfl rfl rfl (by simp [h33])) (prs_cons (pri rfl (p_pick rfl rfl rfl (pick_f (by simp [h33])))) prs_nil)))))))))))))))))) rfl rfl rfl ?_)
              refine r_cond rfl (fun h35 => ?_) (fun h35 => ?_)
              · exact absurd h35 (by simp)
              · (try simp only [decide_eq_true_eq, decide_eq_false_iff_not, Bool.and_eq_true, Bool.or_eq_true, Bool.and_eq_false_iff, Bool.or_eq_false_iff, Bool.not_eq_true, Bool.not_eq_false, Bool.not_eq_true', Bool.not_eq_false', Bool.not_not, bne_iff_ne, beq_iff_eq] at h35)
                refine r_skip ?_
                refine r_region ?_
                refine r_p (p_move rfl) rfl ?_
                refine r_p (p_move rfl) rfl ?_
                refine r_p (p_nilCheck rfl) rfl ?_
                refine r_p (p_field0 fo34_3 rfl) rfl ?_
                refine r_p (p_load1 t31 rfl rfl (g_row1 (k := 0) rfl rfl)) rfl ?_
                refine r_p (p_move rfl) rfl ?_
                refine r_p (p_idx_sl (j := k) Try.underlying31 t36 rfl rfl (hs_own (k := 1) rfl) (by first | rfl | omega) (by first | omega | (simp; done) | (simp; omega))) rfl ?_
                refine r_p (p_loadA t36 rfl rfl rfl (g_el' (hs_own (k := 1) rfl) (by intro _; rfl) (getD_get dE (by omega)) (by rfl))) rfl ?_
                refine r_bslice1 eR ((L.filter (keepE ((L.filter (inWay base c1 e.bytes.size e)).map En.pc))).getD k dE) Try.underlying31 t36 rfl (by decide) (by decide) rfl rfl rfl rfl fun v177 => ?_
                refine r_append 302 Try.underlying31 t36 rfl (by decide) (fun _ => rfl) (fun _ => rfl) rfl rfl rfl (hs_own (k := 177) rfl) (by first | omega | (simp; done) | (simp; omega)) (by unfold maxLen; first | omega | (simp; done) | (simp; omega)) rfl fun v178 => ?_
                refine r_p (p_assign rfl) rfl ?_
                refine r_nil ?_
                refine r_region ?_
                refine r_p (p_move rfl) rfl ?_
                refine r_p (p_bin rfl rfl (b_add (by first | exact w_i64 (by omega) (by omega) | rfl))) rfl ?_
                refine r_p (p_assign rfl) rfl ?_
                refine r_nil ?_
                have hq : ¬ (!(insF (qE base c1) (putE base c1 e) ((L.filter (keepE ((L.filter (inWay base c1 e.bytes.size e)).map En.pc))).take k)).2 && qE base c1 ((L.filter (keepE ((L.filter (inWay base c1 e.bytes.size e)).map En.pc))).getD k dE)) = true := by simp [hdn]
                have hins := ins_stepA (d := dE) hk (qE base c1) (putE base c1 e)
                rw [if_neg hq] at hins
                refine r_here (k + 1, _) ⟨by dsimp only; omega, by dsimp only; omega⟩ (by rw [hins]; rfl) (by rw [hins]; rfl) rfl
          · (try simp only [decide_eq_true_eq, decide_eq_false_iff_not, Bool.and_eq_true, Bool.or_eq_true, Bool.and_eq_false_iff, Bool.or_eq_false_iff, Bool.not_eq_true, Bool.not_eq_false, Bool.not_eq_true', Bool.not_eq_false', Bool.not_not, bne_iff_ne, beq_iff_eq] at h32)
            have hk : k = (L.filter (keepE ((L.filter (inWay base c1 e.bytes.size e)).map En.pc))).length := by omega
            subst hk
            rw [List.take_length] at hil hil2 ⊢
            refine r_exit ?_
            refine r_seq ?_
            refine r_seq ?_
            refine r_region ?_
            refine r_p (p_move rfl) rfl ?_
            refine r_p (p_not rfl) rfl ?_
            refine r_nil ?_
            refine r_cond rfl (fun h36 => ?_) (fun h36 => ?_)
            · have hq8 : (insF (qE base c1) (putE base c1 e) (L.filter (keepE ((L.filter (inWay base c1 e.bytes.size e)).map En.pc)))).2 = false := by simpa using h36
              refine r_region ?_
              refine r_p (p_move rfl) rfl ?_
              refine r_p (p_loadA t36 rfl rfl rfl (g_all (k := 3) rfl)) rfl ?_
              refine r_bslice1 eR (putE base c1 e) Try.underlying31 t36 rfl (by decide) (by decide) rfl rfl rfl rfl fun v183 => ?_
              refine r_append 302 Try.underlying31 t36 rfl (by decide) (fun _ => rfl) (fun _ => rfl) rfl rfl rfl (hs_own (k := 183) rfl) (by first | omega | (simp; done) | (simp; omega)) (by unfold maxLen; first | omega | (simp; done) | (simp; omega)) rfl fun v184 => ?_
              refine r_p (p_assign rfl) rfl ?_
              refine r_nil ?_
              refine r_seq ?_
              refine r_region ?_
              refine r_p (p_move rfl) rfl ?_
              refine r_p (p_move rfl) rfl ?_
              refine r_p (p_nilCheck rfl) rfl ?_
              refine r_p (p_field0 fo34_3 rfl) rfl ?_
              refine r_store_row (k := 0) t31 rfl rfl rfl rfl rfl rfl rfl rfl ?_
              refine r_nil ?_
              refine r_seq ?_
              refine r_region ?_
              refine r_p (p_move rfl) rfl ?_
              refine r_p (p_move rfl) rfl ?_
              refine r_p (p_nilCheck rfl) rfl ?_
              refine r_p (p_field0 fo34_2 rfl) rfl ?_
              refine r_p (p_load1 t3 rfl rfl (g_row1 (k := 0) rfl rfl)) rfl ?_
              refine r_p (p_move rfl) rfl ?_
              refine r_p (p_bin rfl rfl (b_add (by first | exact w_i64 (by omega) (by omega) | rfl))) rfl ?_
              refine r_p (p_nilCheck rfl) rfl ?_
              refine r_p (p_field0 fo34_2 rfl) rfl ?_
              refine r_store_row (k := 0) t3 rfl rfl rfl rfl rfl rfl rfl rfl ?_
              refine r_nil ?_
              refine r_seq ?_
              refine r_region ?_
              refine r_p (p_loadA t74 rfl rfl rfl (g_all (k := 6) rfl)) rfl ?_
              refine r_store_all (k := 4) t74 rfl rfl rfl rfl rfl rfl ?_
              refine r_nil ?_
              refine r_cret ?_
              refine r_ret (vr, vo, _, vk) trivial rfl (rs1 (rv_cellA t74 rfl rfl rfl (g_all (k := 4) rfl))) rfl [0, 302, 2, 301, 133] [] rfl (by unfold insD remL; rw [if_neg (by simp [hq8])]; rfl) rfl
            · have hq8 : (insF (qE base c1) (putE base c1 e) (L.filter (keepE ((L.filter (inWay base c1 e.bytes.size e)).map En.pc)))).2 = true := by simpa using h36
              refine r_skip ?_
              refine r_seq ?_
              refine r_region ?_
              refine r_p (p_move rfl) rfl ?_
              refine r_p (p_move rfl) rfl ?_
              refine r_p (p_nilCheck rfl) rfl ?_
              refine r_p (p_field0 fo34_3 rfl) rfl ?_
              refine r_store_row (k := 0) t31 rfl rfl rfl rfl rfl rfl rfl rfl ?_
              refine r_nil ?_
              refine r_seq ?_
              refine r_region ?_
              refine r_p (p_move rfl) rfl ?_
              refine r_p (p_move rfl) rfl ?_
              refine r_p (p_nilCheck rfl) rfl ?_
              refine r_p (p_field0 fo34_2 rfl) rfl ?_
              refine r_p (p_load1 t3 rfl rfl (g_row1 (k := 0) rfl rfl)) rfl ?_
              refine r_p (p_move rfl) rfl ?_
              refine r_p (p_bin rfl rfl (b_add (by first | exact w_i64 (by omega) (by omega) | rfl))) rfl ?_
              refine r_p (p_nilCheck rfl) rfl ?_
              refine r_p (p_field0 fo34_2 rfl) rfl ?_
              refine r_store_row (k := 0) t3 rfl rfl rfl rfl rfl rfl rfl rfl ?_
              refine r_nil ?_
              refine r_seq ?_
              refine r_region ?_
              refine r_p (p_loadA t74 rfl rfl rfl (g_all (k := 6) rfl)) rfl ?_
              refine r_store_all (k := 4) t74 rfl rfl rfl rfl rfl rfl ?_
              refine r_nil ?_
              refine r_cret ?_
              refine r_ret (vr, vo, _, vk) trivial rfl (rs1 (rv_cellA t74 rfl rfl rfl (g_all (k := 4) rfl))) rfl [0, 302, 2, 301, 133] [] rfl (by unfold insD remL; rw [if_pos hq8]; rfl) rfl

end Go.Proofs.Ytbkonlkffajhkaa
