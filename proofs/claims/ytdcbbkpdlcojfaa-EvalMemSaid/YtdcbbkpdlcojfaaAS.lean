/-
  The checker counts. Condition: lists are not longer than a million.
-/
import Derived.Test.YtdcbbkpdlcojfaaAR
namespace Go.Proofs.Ytdcbbkpdlcojfaa
set_option linter.unusedSimpArgs false
set_option linter.unusedVariables false
open Go.RowKit

theorem int_mul_pos (n : Nat) : 0 ≤ (n : Int) := Int.natCast_nonneg n
/-- The contract of count. -/
def HCt (c : Nat) (vp vn : SV) (er : Int) (v : SV) (l : List Ty) : Prop := ∀ (d : Nat) (nd va : Int) (dp : Bool), d + nYs l ≤ 1000000000000 → 0 ≤ nd → nd + (nYs l : Int) ≤ 1000000000000 → 0 ≤ va → va + (vYs l : Int) ≤ 1000000000000 →
  Spec Try.prog 81 [.pointer (some ⟨c, 0, none⟩), sv v, .int .i64 (d : Int)] [row c 109 (cR vp vn nd va dp er)] [tysA v l] (X := Unit) (fun _ => True) (fun _ => .tuple #[]) (fun _ => [row c 109 (cR vp vn (nd + (nYs l : Int)) (va + (vYs l : Int)) (dp || dpYs d l) er)]) (fun _ => [])
theorem or_mv (a b c d e : Bool) : (a || b || c || d || e) = (a || (b || c || d || e)) := by cases a <;> rfl
theorem or_mv2 (p q a b c d : Bool) : (p || q || a || b || c || d) = (p || (q || (a || b || c || d))) := by cases p <;> cases q <;> rfl
set_option maxHeartbeats 4000000 in
set_option maxRecDepth 100000 in
theorem count_step (c : Nat) (vp vn : SV) (er : Int) (v : SV) (l : List Ty) (hl : l.length ≤ 1000000) (hg : GYs l) (ih : ∀ u ∈ l, HCt c vp vn er u.vb u.body ∧ HCt c vp vn er u.vl u.els) (d : Nat) (nd va : Int) (dp : Bool) (hd : d + nYs l ≤ 1000000000000) (h0 : 0 ≤ nd) (hn : nd + (nYs l : Int) ≤ 1000000000000) (h1 : 0 ≤ va) (hv : va + (vYs l : Int) ≤ 1000000000000) :
    Spec Try.prog 81 [.pointer (some ⟨c, 0, none⟩), sv v, .int .i64 (d : Int)] [row c 109 (cR vp vn nd va dp er)] [tysA v l] (X := Unit) (fun _ => True) (fun _ => .tuple #[]) (fun _ => [row c 109 (cR vp vn (nd + (nYs l : Int)) (va + (vYs l : Int)) (dp || dpYs d l) er)]) (fun _ => []) := by
  refine r_enter Try.func81 rfl Try.ntmps81 rfl fun w0 M H => ?_
  refine r_more 0 1 rfl tys_sl ?_
  refine r_seq ?_
  refine r_region ?_
  refine r_p (p_move rfl) rfl ?_
  refine r_p (p_len_sl Try.underlying52 rfl (hs_sl (k := 1) rfl)) rfl ?_
  refine r_p (p_move rfl) rfl ?_
  refine r_nil ?_
  refine r_block ?_
  refine r_loop (X := Nat) (fun i => i ≤ l.length) (fun i => [(0, .pointer (some ⟨c, 0, none⟩)), (2, .int .i64 (d : Int)), (10, sv v), (11, .int .i64 (l.length : Int)), (12, .int .i64 (i : Int))]) (fun i => [(0, row c 109 (cR vp vn (nd + (nYs (l.take i) : Int)) (va + (vYs (l.take i) : Int)) (dp || dpYs d (l.take i)) er))]) (fun i => [(0, tysA v l), (1, sl 5 eTy (sv v) l)]) (fun i => l.length - i) 0 (Nat.zero_le _) rfl (by rw [show (dp || dpYs d (l.take 0)) = dp by simp [dpYs], show nd + (nYs (l.take 0) : Int) = nd by simp [nYs], show va + (vYs (l.take 0) : Int) = va by simp [vYs]]; rfl) rfl (fun i n1 => ?_)
  refine r_seq ?_
  refine r_region ?_
  refine r_p (p_bin rfl rfl b_lt) rfl ?_
  refine r_nil ?_
  refine r_seq ?_
  refine r_cond rfl (fun h1 => ?_) (fun h1 => ?_)
  · (try simp only [decide_eq_true_eq, decide_eq_false_iff_not, Bool.and_eq_true, Bool.or_eq_true, Bool.and_eq_false_iff, Bool.or_eq_false_iff, Bool.not_eq_true, Bool.not_eq_false, Bool.not_eq_true', Bool.not_eq_false', Bool.not_not, bne_iff_ne, beq_iff_eq] at h1)
    have hi : i < l.length := by omega
    obtain ⟨st, hst⟩ : ∃ k, l[i]? = some k := ⟨_, List.getElem?_eq_getElem hi⟩
    have hsm := List.mem_of_getElem? hst
    have hsy := hg.mem st hsm
    have hsg := GY_es hsy
    have hle := nYs_le l (i + 1)
    rw [nYs_take hst] at hle
    have hny := nY_eq st
    have hvy := vY_le st
    have hvl := vYs_le l
    have hva := vYs_le (l.take i)
    have hvb := vYs_le st.body
    have hvs := vYs_le st.els
    have hnl := nYs_le l i
    have hvy2 : (vY st : Int) = (if st.kind = 1 then 1 else 0 : Int) + (vYs st.body : Int) + (vYs st.els : Int) := by
      rw [vY_eq]
      split <;> omega
    have hki : 0 ≤ (if st.kind = 1 then 1 else 0 : Int) ∧ (if st.kind = 1 then 1 else 0 : Int) ≤ 1 := by split <;> omega
    have hvv : (vYs (l.take i) : Int) + (vY st : Int) ≤ (vYs l : Int) := by
      have h := vYs_app (l.take (i + 1)) (l.drop (i + 1))
      rw [List.take_append_drop, vYs_take hst] at h
      omega
    refine r_more 0 7 rfl (tys_es hsm) ?_
    refine r_more 0 8 rfl (tys_body hsm) ?_
    refine r_more 0 9 rfl (tys_els hsm) ?_
    refine r_more 7 10 rfl txs_sl ?_
    refine r_skip ?_
    refine r_seq ?_
    refine r_block ?_
    refine r_seq ?_
    refine r_region ?_
    refine r_p (p_idx_sl (j := i) Try.underlying52 t54 rfl rfl (hs_sl (k := 1) rfl) (by first | rfl | omega) (by first | omega | (simp; done) | (simp; omega))) rfl ?_
    refine r_p (p_loadA t54 rfl rfl rfl (g_el' (hs_sl (k := 1) rfl) (by intro _; rfl) hst (by rfl))) rfl ?_
    refine r_alloc t54 rfl rfl fun b7 => ?_
    refine r_store_all (k := 7) t54 rfl rfl rfl rfl rfl rfl ?_
    refine r_nil ?_
    refine r_seq ?_
    refine r_region ?_
    refine r_p (p_move rfl) rfl ?_
    refine r_p (p_nilCheck rfl) rfl ?_
    refine r_p (p_field0 fo109_2 rfl) rfl ?_
    refine r_p (p_load1 t3 rfl rfl (g_row1 (k := 0) rfl rfl)) rfl ?_
    refine r_p (p_bin rfl rfl (b_add (by first | exact w_i64 (by omega) (by omega) | rfl))) rfl ?_
    refine r_p (p_nilCheck rfl) rfl ?_
    refine r_p (p_field0 fo109_2 rfl) rfl ?_
    refine r_store_row (k := 0) t3 rfl rfl rfl rfl rfl rfl rfl rfl ?_
    refine r_nil ?_
    refine r_seq ?_
    refine r_region ?_
    refine r_p (p_move rfl) rfl ?_
    refine r_p (p_move rfl) rfl ?_
    refine r_p (p_nilCheck rfl) rfl ?_
    refine r_p (p_field0 fo109_4 rfl) rfl ?_
    refine r_p (p_load1 t4 rfl rfl (g_row1 (k := 0) rfl rfl)) rfl ?_
    refine r_p (p_move rfl) rfl ?_
    refine r_gp [] rfl rfl trivial (fun hg2 => p_move rfl) rfl ?_
    refine r_gp [(29, _)] rfl rfl ⟨rfl, trivial⟩ (fun hg3 => p_bin rfl rfl b_gt) rfl ?_
    refine r_p (p_pick rfl rfl rfl (by first | exact pick_and | exact pick_or |  rfl)) rfl ?_
    refine r_p (p_nilCheck rfl) rfl ?_
    refine r_p (p_field0 fo109_4 rfl) rfl ?_
    refine r_store_row (k := 0) t4 rfl rfl rfl rfl rfl rfl rfl rfl ?_
    refine r_nil ?_
    refine r_seq_cut (X := Unit) (fun _ => True) (fun _ => [(0, .pointer (some ⟨c, 0, none⟩)), (2, .int .i64 (d : Int)), (10, sv v), (11, .int .i64 (l.length : Int)), (12, .int .i64 (i : Int)), (7, .pointer (some ⟨b7, 0, none⟩))]) (fun _ => [(0, row c 109 (cR vp vn (nd + (nYs (l.take i) : Int) + 1) (va + (vYs (l.take i) : Int) + (if st.kind = 1 then 1 else 0 : Int)) (dp || dpYs d (l.take i) || decide (d > 8)) er)), (7, row b7 54 (eTy st))]) (fun _ => [(0, tysA v l), (1, sl 5 eTy (sv v) l), (7, txsA st.ve st.es), (8, tysA st.vb st.body), (9, tysA st.vl st.els), (10, sl 4 eTx (sv st.ve) st.es)]) ?_ (fun _ _ => ?_)
    · refine r_seq ?_
      refine r_region ?_
      refine r_p (p_field0 fo54_0 rfl) rfl ?_
      refine r_p (p_load1 t3 rfl rfl (g_row1 (k := 7) rfl rfl)) rfl ?_
      refine r_p (p_bin rfl rfl b_eq) rfl ?_
      refine r_nil ?_
      refine r_cond rfl (fun h4 => ?_) (fun h4 => ?_)
      · have q1 : st.kind = 1 := of_decide_eq_true h4
        refine r_region ?_
        refine r_p (p_move rfl) rfl ?_
        refine r_p (p_nilCheck rfl) rfl ?_
        refine r_p (p_field0 fo109_3 rfl) rfl ?_
        refine r_p (p_load1 t3 rfl rfl (g_row1 (k := 0) rfl rfl)) rfl ?_
        refine r_p (p_bin rfl rfl (b_add (by first | exact w_i64 (by omega) (by omega) | rfl))) rfl ?_
        refine r_p (p_nilCheck rfl) rfl ?_
        refine r_p (p_field0 fo109_3 rfl) rfl ?_
        refine r_store_row (k := 0) t3 rfl rfl rfl rfl rfl rfl rfl rfl ?_
        refine r_nil ?_
        refine r_here () trivial rfl (by rw [show decide (d > 8) = decide ((d : Int) > 8) from decide_eq_decide.2 (by omega), if_pos q1]; rfl) rfl
      · have q1 : ¬ st.kind = 1 := of_decide_eq_false h4
        refine r_skip ?_
        refine r_here () trivial rfl (by rw [show decide (d > 8) = decide ((d : Int) > 8) from decide_eq_decide.2 (by omega), if_neg q1, Int.add_zero]; rfl) rfl
    · refine r_seq ?_
      refine r_seq ?_
      refine r_region ?_
      refine r_p (p_field0 fo54_2 rfl) rfl ?_
      refine r_p (p_load1 t51 rfl rfl (g_row1 (k := 7) rfl rfl)) rfl ?_
      refine r_p (p_len_sl Try.underlying51 rfl (hs_sl (k := 10) rfl)) rfl ?_
      refine r_p (p_move rfl) rfl ?_
      refine r_nil ?_
      refine r_block ?_
      refine r_loop (X := Nat) (fun j => j ≤ st.es.length) (fun j => [(0, .pointer (some ⟨c, 0, none⟩)), (2, .int .i64 (d : Int)), (10, sv v), (11, .int .i64 (l.length : Int)), (12, .int .i64 (i : Int)), (7, .pointer (some ⟨b7, 0, none⟩)), (45, sv st.ve), (46, .int .i64 (st.es.length : Int)), (47, .int .i64 (j : Int))]) (fun j => [(0, row c 109 (cR vp vn (nd + (nYs (l.take i) : Int) + 1 + (nXs (st.es.take j) : Int)) (va + (vYs (l.take i) : Int) + (if st.kind = 1 then 1 else 0 : Int)) (dp || dpYs d (l.take i) || decide (d > 8) || decide (dXs (st.es.take j) > 8)) er)), (7, row b7 54 (eTy st))]) (fun j => [(0, tysA v l), (1, sl 5 eTy (sv v) l), (7, txsA st.ve st.es), (8, tysA st.vb st.body), (9, tysA st.vl st.els), (10, sl 4 eTx (sv st.ve) st.es)]) (fun j => st.es.length - j) 0 (Nat.zero_le _) rfl (by rw [show (dp || dpYs d (l.take i) || decide (d > 8) || decide (dXs (st.es.take 0) > 8)) = (dp || dpYs d (l.take i) || decide (d > 8)) by simp [dXs], show nd + (nYs (l.take i) : Int) + 1 + (nXs (st.es.take 0) : Int) = nd + (nYs (l.take i) : Int) + 1 by simp [nXs]]; rfl) rfl (fun j n2 => ?_)
      refine r_seq ?_
      refine r_region ?_
      refine r_p (p_bin rfl rfl b_lt) rfl ?_
      refine r_nil ?_
      refine r_seq ?_
      refine r_cond rfl (fun h5 => ?_) (fun h5 => ?_)
      · (try simp only [decide_eq_true_eq, decide_eq_false_iff_not, Bool.and_eq_true, Bool.or_eq_true, Bool.and_eq_false_iff, Bool.or_eq_false_iff, Bool.not_eq_true, Bool.not_eq_false, Bool.not_eq_true', Bool.not_eq_false', Bool.not_not, bne_iff_ne, beq_iff_eq] at h5)
        have hj : j < st.es.length := by omega
        obtain ⟨kid, hkid⟩ : ∃ k, st.es[j]? = some k := ⟨_, List.getElem?_eq_getElem hj⟩
        have hkm := List.mem_of_getElem? hkid
        have hlx := nXs_le st.es (j + 1)
        rw [nXs_take hkid] at hlx
        have hdx := dX_le kid
        refine r_skip ?_
        refine r_seq ?_
        refine r_block ?_
        refine r_seq ?_
        refine r_region ?_
        refine r_p (p_idx_sl (j := j) Try.underlying51 t57 rfl rfl (hs_sl (k := 10) rfl) (by first | rfl | omega) (by first | omega | (simp; done) | (simp; omega))) rfl ?_
        refine r_p (p_loadA t57 rfl rfl rfl (g_el' (hs_sl (k := 10) rfl) (by intro _; rfl) hkid (by rfl))) rfl ?_
        refine r_alloc t57 rfl rfl fun b9 => ?_
        refine r_store_all (k := 9) t57 rfl rfl rfl rfl rfl rfl ?_
        refine r_nil ?_
        refine r_region ?_
        refine r_p (p_move rfl) rfl ?_
        refine r_p (p_loadA t57 rfl rfl rfl (g_all (k := 9) rfl)) rfl ?_
        refine r_more 7 12 rfl (txs_kid hkm) ?_
        refine r_call (xs := [.tmp 51, .tmp 52]) (meas_spec c vp vn (va + (vYs (l.take i) : Int) + (if st.kind = 1 then 1 else 0 : Int)) er kid (hsg.2.mem kid hkm) (nd + (nYs (l.take i) : Int) + 1 + (nXs (st.es.take j) : Int)) (dp || dpYs d (l.take i) || decide (d > 8) || decide (dXs (st.es.take j) > 8)) (by omega) (by omega)) cb96 [0] [(false, 12)] [0] [] rfl rfl rfl rfl rfl rfl rfl rfl (fun _ _ => rfl) (fun _ _ _ => rfl) rfl (fun _ _ => ?_)
        refine r_nil ?_
        refine r_region ?_
        refine r_p (p_bin rfl rfl (b_add (by first | exact w_i64 (by omega) (by omega) | rfl))) rfl ?_
        refine r_p (p_move rfl) rfl ?_
        refine r_nil ?_
        refine r_here (j + 1) ⟨by omega, by omega⟩ rfl (by rw [dXs_take hkid, nXs_take hkid, ← dec_max, ← Bool.or_assoc, Int.natCast_add, ← Int.add_assoc]; rfl) rfl
      · (try simp only [decide_eq_true_eq, decide_eq_false_iff_not, Bool.and_eq_true, Bool.or_eq_true, Bool.and_eq_false_iff, Bool.or_eq_false_iff, Bool.not_eq_true, Bool.not_eq_false, Bool.not_eq_true', Bool.not_eq_false', Bool.not_not, bne_iff_ne, beq_iff_eq] at h5)
        have hj : j = st.es.length := by omega
        subst hj
        rw [List.take_length]
        refine r_exit ?_
        refine r_seq ?_
        refine r_region ?_
        refine r_p (p_move rfl) rfl ?_
        refine r_p (p_field0 fo54_3 rfl) rfl ?_
        refine r_p (p_load1 t52 rfl rfl (g_row1 (k := 7) rfl rfl)) rfl ?_
        refine r_p (p_move rfl) rfl ?_
        refine r_p (p_bin rfl rfl (b_add (by first | exact w_i64 (by omega) (by omega) | rfl))) rfl ?_
        refine r_call (xs := [.tmp 55, .tmp 57, .tmp 59]) ((ih st hsm).1 (d + 1) (nd + (nYs (l.take i) : Int) + 1 + (nXs st.es : Int)) (va + (vYs (l.take i) : Int) + (if st.kind = 1 then 1 else 0 : Int)) (dp || dpYs d (l.take i) || decide (d > 8) || decide (dXs st.es > 8)) (by omega) (by omega) (by omega) (by omega) (by omega)) cb81 [0] [(false, 8)] [0] [] rfl rfl rfl rfl rfl rfl rfl rfl (fun _ _ => rfl) (fun _ _ _ => rfl) rfl (fun _ _ => ?_)
        refine r_nil ?_
        refine r_region ?_
        refine r_p (p_move rfl) rfl ?_
        refine r_p (p_field0 fo54_4 rfl) rfl ?_
        refine r_p (p_load1 t52 rfl rfl (g_row1 (k := 7) rfl rfl)) rfl ?_
        refine r_p (p_move rfl) rfl ?_
        refine r_p (p_bin rfl rfl (b_add (by first | exact w_i64 (by omega) (by omega) | rfl))) rfl ?_
        refine r_call (xs := [.tmp 61, .tmp 63, .tmp 65]) ((ih st hsm).2 (d + 1) (nd + (nYs (l.take i) : Int) + 1 + (nXs st.es : Int) + (nYs st.body : Int)) (va + (vYs (l.take i) : Int) + (if st.kind = 1 then 1 else 0 : Int) + (vYs st.body : Int)) (dp || dpYs d (l.take i) || decide (d > 8) || decide (dXs st.es > 8) || dpYs (d + 1) st.body) (by omega) (by omega) (by omega) (by omega) (by omega)) cb81 [0] [(false, 9)] [0] [] rfl rfl rfl rfl rfl rfl rfl rfl (fun _ _ => rfl) (fun _ _ _ => rfl) rfl (fun _ _ => ?_)
        refine r_nil ?_
        refine r_region ?_
        refine r_p (p_bin rfl rfl (b_add (by first | exact w_i64 (by omega) (by omega) | rfl))) rfl ?_
        refine r_p (p_move rfl) rfl ?_
        refine r_nil ?_
        have hfin : cR vp vn (nd + (nYs (l.take i) : Int) + 1 + (nXs st.es : Int) + (nYs st.body : Int) + (nYs st.els : Int)) (va + (vYs (l.take i) : Int) + (if st.kind = 1 then 1 else 0 : Int) + (vYs st.body : Int) + (vYs st.els : Int)) (dp || dpYs d (l.take i) || decide (d > 8) || decide (dXs st.es > 8) || dpYs (d + 1) st.body || dpYs (d + 1) st.els) er = cR vp vn (nd + (nYs (l.take (i + 1)) : Int)) (va + (vYs (l.take (i + 1)) : Int)) (dp || dpYs d (l.take (i + 1))) er := by
          rw [nYs_take hst, vYs_take hst, dpYs_take hst, dpY_eq, or_mv2]
          congr 1
          · omega
          · rw [Int.natCast_add, hvy2]
            omega
        refine r_here (i + 1) ⟨by omega, by omega⟩ rfl (by rw [← hfin]; rfl) rfl
  · (try simp only [decide_eq_true_eq, decide_eq_false_iff_not, Bool.and_eq_true, Bool.or_eq_true, Bool.and_eq_false_iff, Bool.or_eq_false_iff, Bool.not_eq_true, Bool.not_eq_false, Bool.not_eq_true', Bool.not_eq_false', Bool.not_not, bne_iff_ne, beq_iff_eq] at h1)
    have hi : i = l.length := by omega
    subst hi
    rw [List.take_length]
    refine r_exit ?_
    refine r_end () trivial rfl rs0 rfl [0] [] rfl rfl rfl
theorem count_all (c : Nat) (vp vn : SV) (er : Int) : ∀ (n : Nat) (v : SV) (l : List Ty), SizeOf.sizeOf l < n → l.length ≤ 1000000 → GYs l → HCt c vp vn er v l
  | 0, _, _, h, _, _ => absurd h (Nat.not_lt_zero _)
  | n + 1, v, l, h, hl, hg => count_step c vp vn er v l hl hg fun u hu => by
    have h1 := List.sizeOf_lt_of_mem hu
    have h2 : SizeOf.sizeOf u.body < SizeOf.sizeOf u ∧ SizeOf.sizeOf u.els < SizeOf.sizeOf u := by
      cases u
      simp only [Ty.mk.sizeOf_spec, Ty.body, Ty.els]
      omega
    have h3 := hg.mem u hu
    exact ⟨count_all c vp vn er n u.vb u.body (by omega) (GY_body h3).1 (GY_body h3).2, count_all c vp vn er n u.vl u.els (by omega) (GY_els h3).1 (GY_els h3).2⟩
theorem count_spec (c : Nat) (vp vn : SV) (er : Int) (v : SV) (l : List Ty) (hl : l.length ≤ 1000000) (hg : GYs l) : HCt c vp vn er v l := count_all c vp vn er _ v l (Nat.lt_succ_self _) hl hg

end Go.Proofs.Ytdcbbkpdlcojfaa
