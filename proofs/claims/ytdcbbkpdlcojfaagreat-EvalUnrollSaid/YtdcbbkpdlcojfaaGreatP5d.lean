/-
  Part of the proof: the texts R4, S2, S3, AE, AF, KD, AG, AH, AV, AW, KJ, AX, AY, B0, C0, KL, C1, C2, BY, C3. Conditions are with the theorems.
-/
import Derived.Orders
import Derived.Recover
import Derived.Test.YtdcbbkpdlcojfaaGreatP5a
import Derived.Test.YtdcbbkpdlcojfaaGreatP5b
import Derived.Test.YtdcbbkpdlcojfaaGreatP5c
namespace Go.Proofs.YtdcbbkpdlcojfaaGreat
set_option linter.unusedSimpArgs false
set_option linter.unusedVariables false
open Go.RowKit
theorem fst_ne {a b : Int} (h : a ≠ 0) : fst a b = a := if_neg h
theorem eXs_hit {fs : List Tf} {ns : List ByteArray} {l : List Tx} {i : Nat} {u : Tx} (hu : l[i]? = some u) (h0 : eXs fs ns (l.take i) = 0) (h : eX fs ns u ≠ 0) : eXs fs ns l = eX fs ns u := by
 have h1 := eXs_app fs ns (l.take (i + 1)) (l.drop (i + 1))
 rw [List.take_append_drop, eXs_take hu, h0, zero_fst, fst_ne h] at h1
 exact h1
theorem eX_own {fs : List Tf} {ns : List ByteArray} {t : Tx} {z : Int} (h : nE fs ns t = z) (hz : z ≠ 0) : eX fs ns t = z := by rw [eX_eq, h, fst_ne hz]
theorem eX_kids {fs : List Tf} {ns : List ByteArray} {t : Tx} {z : Int} (h : nE fs ns t = 0) (h2 : eXs fs ns t.kids = z) : eX fs ns t = z := by rw [eX_eq, h, h2]; rfl
/-- The contract of scope.expr. -/
def HSe (c : Nat) (vp vn : SV) (fs : List Tf) (ns : List ByteArray) (t : Tx) : Prop := Spec Tryz.prog 55 [.pointer (some ⟨c, 0, none⟩), xV t] [] [row c 90 [sv vp, sv vn], sl 1 eS (sv vn) ns, tfsA vp fs, txsA t.v t.kids] (X := Unit) (fun _ => True) (fun _ => .int .i64 (eX fs ns t)) (fun _ => []) (fun _ => [])
set_option maxHeartbeats 2000000 in
set_option maxRecDepth 100000 in
theorem find9_spec (b : ByteArray) (vp : SV) (fs : List Tf) (hfl : fs.length ≤ 1000000) :
  Spec Tryz.prog 37 [.agg #[sv vp], .string b] [] [sl 3 eTf (sv vp) fs] (X := Unit) (fun _ => True) (fun _ => .int .i64 (fix fs b)) (fun _ => []) (fun _ => []) := by
 refine r_enter Tryz.func37 rfl Tryz.ntmps37 rfl fun w0 M H => ?_
 refine r_seq (r_region ?_)
 refine r_boxA rfl rfl fun b2 => ?_
 refine r_p (p_assign rfl) rfl (r_nil (r_seq (r_seq (r_region (r_p (p_assign rfl) rfl (r_nil (r_block ?_)))))))
 refine r_loop (X := Nat) (fun i => i ≤ fs.length ∧ ∀ j y, j < i → fs[j]? = some y → decide (y.name = b) = false) (fun i => [(1, .string b), (2, .pointer (some ⟨b2, 0, none⟩)), (5, .int .i64 (i : Int))]) (fun i => [(2, row b2 29 [sv vp])]) (fun i => [(0, sl 3 eTf (sv vp) fs)]) (fun i => fs.length - i) 0 ⟨Nat.zero_le _, fun j y h => absurd h (Nat.not_lt_zero _)⟩ rfl rfl rfl (fun i hx0 => ?_)
 obtain ⟨n1, n2⟩ := hx0
 refine r_seq (r_seq (r_region (r_p (p_move rfl) rfl ?_)))
 refine r_p (p_field0 fo29_0 rfl) rfl ?_
 refine r_p (p_load1 t27 rfl rfl (g_row1 (k := 2) rfl rfl)) rfl ?_
 refine r_p (p_len_sl Tryz.underlying27 rfl (hs_sl (k := 0) rfl)) rfl ?_
 refine r_p (p_bin rfl rfl b_lt) rfl ?_
 refine r_nil ?_
 refine r_cond rfl (fun h1 => ?_) (fun h1 => ?_)
 ·(try simp only [decide_eq_true_eq, decide_eq_false_iff_not, Bool.and_eq_true, Bool.or_eq_true, Bool.and_eq_false_iff, Bool.or_eq_false_iff, Bool.not_eq_true, Bool.not_eq_false, Bool.not_eq_true', Bool.not_eq_false', Bool.not_not, bne_iff_ne, beq_iff_eq] at h1)
  have hi : i < fs.length := by omega
  obtain ⟨f, hf⟩ : ∃ k, fs[i]? = some k := ⟨_, List.getElem?_eq_getElem hi⟩
  have hfm := List.mem_of_getElem? hf
  refine r_skip (r_seq (r_block (r_seq (r_region ?_))))
  refine r_p (p_field0 fo29_0 rfl) rfl ?_
  refine r_p (p_load1 t27 rfl rfl (g_row1 (k := 2) rfl rfl)) rfl ?_
  refine r_p (p_move rfl) rfl ?_
  refine r_p (p_idx_sl (j := i) Tryz.underlying27 t63 rfl rfl (hs_sl (k := 0) rfl) (by first | rfl | omega) (by first | omega | (simp; done) | (simp; omega))) rfl ?_
  refine r_p (p_field fo63_0 rfl) rfl ?_
  refine r_p (p_load1 t9 rfl rfl (g_elp (hs_sl (k := 0) rfl) (by intro _; rfl) hf rfl)) rfl ?_
  refine r_p (p_move rfl) rfl ?_
  refine r_p (p_bin rfl rfl b_seq) rfl ?_
  refine r_nil ?_
  refine r_cond rfl (fun h2 => ?_) (fun h2 => ?_)
  ·have hct : decide (f.name = b) = true := by rw [← ba_eq]; exact h2
   refine r_seq (r_region (r_p (p_move rfl) rfl (r_p (p_assign rfl) rfl (r_nil (r_cret ?_)))))
   refine r_ret () trivial rfl (rs1 (rv_tmp rfl)) (by rw [show fix fs b = (i : Int) from ixF_at hf hct n2]) [] [] rfl rfl rfl
  ·have hcf : decide (f.name = b) = false := by rw [← ba_eq]; exact h2
   refine r_skip (r_region (r_p (p_move rfl) rfl ?_))
   refine r_p (p_bin rfl rfl (b_add (by first | exact w_i64 (by omega) (by omega) | rfl))) rfl ?_
   refine r_p (p_assign rfl) rfl (r_nil ?_)
   refine r_here (i + 1) ⟨⟨by omega, fun j y hj hy => by
    by_cases h : j = i
    ·subst h
     rw [hf] at hy
     cases hy
     exact hcf
    ·exact n2 j y (by omega) hy⟩, by omega⟩ rfl rfl rfl
 ·(try simp only [decide_eq_true_eq, decide_eq_false_iff_not, Bool.and_eq_true, Bool.or_eq_true, Bool.and_eq_false_iff, Bool.or_eq_false_iff, Bool.not_eq_true, Bool.not_eq_false, Bool.not_eq_true', Bool.not_eq_false', Bool.not_not, bne_iff_ne, beq_iff_eq] at h1)
  have hi : i = fs.length := by omega
  subst hi
  refine r_exit (r_seq (r_region (r_p (p_assign rfl) rfl (r_nil (r_cret ?_)))))
  refine r_ret () trivial rfl (rs1 (rv_tmp rfl)) (by rw [show fix fs b = -1 from ixF_no n2]) [] [] rfl rfl rfl
set_option maxHeartbeats 4000000 in
set_option maxRecDepth 100000 in
theorem se_step (c : Nat) (vp vn : SV) (fs : List Tf) (ns : List ByteArray) (hfl : fs.length ≤ 1000000) (hns : ns.length ≤ 1000000) (t : Tx) (hkl : t.kids.length ≤ 1000000) (ih : ∀ u ∈ t.kids, HSe c vp vn fs ns u) :
  Spec Tryz.prog 55 [.pointer (some ⟨c, 0, none⟩), xV t] [] [row c 90 [sv vp, sv vn], sl 1 eS (sv vn) ns, tfsA vp fs, txsA t.v t.kids] (X := Unit) (fun _ => True) (fun _ => .int .i64 (eX fs ns t)) (fun _ => []) (fun _ => []) := by
 refine r_enter Tryz.func55 rfl Tryz.ntmps55 rfl fun w0 M H => ?_
 refine r_more 2 4 rfl tfs_sl ?_
 refine r_more 3 5 rfl txs_sl ?_
 refine r_seq (r_region ?_)
 refine r_boxA rfl rfl fun b3 => ?_
 refine r_p (p_assign rfl) rfl (r_nil ?_)
 refine r_seq_cut (X := Unit) (fun _ => t.kind = 2 → memB t.name ns = true) (fun _ => [(0, .pointer (some ⟨c, 0, none⟩)), (3, .pointer (some ⟨b3, 0, none⟩))]) (fun _ => [(3, row b3 48 (eTx t))]) (fun _ => [(0, row c 90 [sv vp, sv vn]), (1, sl 1 eS (sv vn) ns), (2, tfsA vp fs), (3, txsA t.v t.kids), (4, sl 3 eTf (sv vp) fs), (5, sl 4 eTx (sv t.v) t.kids)]) ?_ (fun _ hm2 => ?_)
 ·refine r_seq (r_region ?_)
  refine r_p (p_field0 fo48_0 rfl) rfl ?_
  refine r_p (p_load1 t3 rfl rfl (g_row1 (k := 3) rfl rfl)) rfl ?_
  refine r_p (p_bin rfl rfl b_eq) rfl ?_
  refine r_nil ?_
  refine r_cond rfl (fun h1 => ?_) (fun h1 => ?_)
  ·have q2 : t.kind = 2 := of_decide_eq_true h1
   refine r_seq ?_
   refine r_draw [12, 13, 14, 15, 16, 17, 18, 5] _ rfl (stg_mem (V := [(0, 12, _), (1, 13, _), (2, 14, _), (3, 15, _), (4, 16, _), (5, 17, _)]) [0, 1, 2, 3, 4, 5] 6 [6, 5, 4, 3, 2, 1, 0] [7] (fun _ => [(7, 5, _)]) rfl rfl (prs_cons (pri rfl (p_field0 fo48_2 rfl)) (prs_cons (pri rfl (p_load1 t9 rfl rfl (g_row1 (k := 3) rfl rfl))) (prs_cons (pri rfl (p_move rfl)) (prs_cons (pri rfl (p_nilCheck rfl)) (prs_cons (pri rfl (p_field0 fo90_1 rfl)) (prs_cons (pri rfl (p_load1 t58 rfl rfl (g_row1R (k := 0) rfl rfl))) prs_nil)))))) rfl rfl rfl rfl rfl rfl rfl rfl rfl rfl rfl (fun _ _ => rfl) rfl (ms_callN (xs := [.tmp 13, .tmp 17]) (among_spec t.name vn ns hns) cb39 [] [(false, 1)] [] rfl rfl rfl rfl rfl rfl rfl rfl (fun _ _ => rfl) (fun _ _ _ => rfl)) (fun _ _ => stg_end [7] rfl rfl (prs_cons (pri rfl (p_assign rfl)) prs_nil) rfl rfl rfl ?_))
   refine r_seq (r_region (r_p (p_move rfl) rfl ?_))
   refine r_p (p_not rfl) rfl ?_
   refine r_nil ?_
   refine r_cond rfl (fun h2 => ?_) (fun h2 => ?_)
   ·have qm : memB t.name ns = false := by simpa using h2
    refine r_seq (r_region (r_p (p_assign rfl) rfl (r_nil (r_cret ?_))))
    refine r_ret () trivial rfl (rs1 (rv_tmp rfl)) (by rw [eX_own (show nE fs ns t = 21 by rw [nE_2 q2, qm]; rfl) (by decide)]) [] [] rfl rfl rfl
   ·have qm : memB t.name ns = true := by simpa using h2
    refine r_skip ?_
    refine r_here () (fun _ => qm) rfl rfl rfl
  ·have q2 : ¬ t.kind = 2 := of_decide_eq_false h1
   refine r_skip ?_
   refine r_here () (fun h => absurd h q2) rfl rfl rfl
 ·refine r_seq_cut (X := Unit) (fun _ => nE fs ns t = 0) (fun _ => [(0, .pointer (some ⟨c, 0, none⟩)), (3, .pointer (some ⟨b3, 0, none⟩))]) (fun _ => [(3, row b3 48 (eTx t))]) (fun _ => [(0, row c 90 [sv vp, sv vn]), (1, sl 1 eS (sv vn) ns), (2, tfsA vp fs), (3, txsA t.v t.kids), (4, sl 3 eTf (sv vp) fs), (5, sl 4 eTx (sv t.v) t.kids)]) ?_ (fun _ hn0 => ?_)
  ·refine r_seq (r_region ?_)
   refine r_p (p_field0 fo48_0 rfl) rfl ?_
   refine r_p (p_load1 t3 rfl rfl (g_row1 (k := 3) rfl rfl)) rfl ?_
   refine r_p (p_bin rfl rfl b_eq) rfl ?_
   refine r_nil ?_
   refine r_cond rfl (fun h3 => ?_) (fun h3 => ?_)
   ·have q3 : t.kind = 3 := of_decide_eq_true h3
    refine r_seq ?_
    refine r_draw [24, 25, 26, 27, 28, 29, 30, 6] _ rfl (stg_mem (V := [(0, 24, _), (1, 25, _), (2, 26, _), (3, 27, _), (4, 28, _), (5, 29, _)]) [0, 1, 2, 3, 4, 5] 6 [6, 5, 4, 3, 2, 1, 0] [7] (fun _ => [(7, 6, _)]) rfl rfl (prs_cons (pri rfl (p_move rfl)) (prs_cons (pri rfl (p_nilCheck rfl)) (prs_cons (pri rfl (p_field0 fo90_0 rfl)) (prs_cons (pri rfl (p_loadA t29 rfl rfl rfl (g_rowR (us := [sv vp]) (k := 0) rfl rfl))) (prs_cons (pri rfl (p_field0 fo48_2 rfl)) (prs_cons (pri rfl (p_load1 t9 rfl rfl (g_row1 (k := 3) rfl rfl))) prs_nil)))))) rfl rfl rfl rfl rfl rfl rfl rfl rfl rfl rfl (fun _ _ => rfl) rfl (ms_callN (xs := [.tmp 27, .tmp 29]) (find9_spec t.name vp fs hfl) cb37 [] [(false, 4)] [] rfl rfl rfl rfl rfl rfl rfl rfl (fun _ _ => rfl) (fun _ _ _ => rfl)) (fun _ _ => stg_end [7] rfl rfl (prs_cons (pri rfl (p_assign rfl)) prs_nil) rfl rfl rfl ?_))
    refine r_seq (r_seq (r_region (r_p (p_move rfl) rfl ?_)))
    refine r_p (p_bin rfl rfl b_lt) rfl ?_
    refine r_nil ?_
    refine r_cond rfl (fun h4 => ?_) (fun h4 => ?_)
    ·have hff : ffind fs t.name = none := ffind_fix.1.1 (of_decide_eq_true h4)
     refine r_seq (r_region (r_p (p_assign rfl) rfl (r_nil (r_cret ?_))))
     refine r_ret () trivial rfl (rs1 (rv_tmp rfl)) (by rw [eX_own (nE_none q3 hff) (by decide)]) [] [] rfl rfl rfl
    ·have hq1 : ¬ fix fs t.name < 0 := of_decide_eq_false h4
     obtain ⟨f, hff⟩ : ∃ f, ffind fs t.name = some f := by
      cases hf : ffind fs t.name with
      | none => exact absurd (ffind_fix.1.2 hf) hq1
      | some f => exact ⟨f, rfl⟩
     obtain ⟨m, hxm, hfx⟩ := ffind_fix.2 f hff
     have hfm := List.mem_of_getElem? hfx
     have hml : m < fs.length := (List.getElem?_eq_some_iff.1 hfx).1
     rw [hxm]
     refine r_more 2 6 rfl (tfs_f hfm) ?_
     refine r_more 6 7 rfl tf_ps ?_
     refine r_skip (r_seq ?_)
     refine r_draw [33, 34, 35, 36, 37, 38, 39, 40, 41, 42, 43, 44, 45, 46] _ rfl (stg_end (V := [(0, 33, _), (1, 34, _), (2, 35, _), (3, 36, _), (4, 37, _), (5, 38, _), (6, 39, _), (7, 40, _), (8, 41, _), (9, 42, _), (10, 43, _), (11, 44, _), (12, 45, _), (13, 46, _)]) [0, 1, 2, 3, 4, 5, 6, 7, 8, 9, 10, 11, 12, 13] rfl rfl (prs_cons (pri rfl (p_move rfl)) (prs_cons (pri rfl (p_nilCheck rfl)) (prs_cons (pri rfl (p_field0 fo90_0 rfl)) (prs_cons (pri rfl (p_field0 fo29_0 rfl)) (prs_cons (pri rfl (p_load1 t27 rfl rfl (g_row1R (k := 0) rfl rfl))) (prs_cons (pri rfl (p_move rfl)) (prs_cons (pri rfl (p_idx_sl (j := m) Tryz.underlying27 t63 rfl rfl (hs_sl (k := 4) rfl) rfl hml)) (prs_cons (pri rfl (p_field fo63_1 rfl)) (prs_cons (pri rfl (p_load1 t58 rfl rfl (g_elp (hs_sl (k := 4) rfl) (by intro _; rfl) hfx rfl))) (prs_cons (pri rfl (p_len_sl Tryz.underlying58 rfl (hs_sl (k := 7) rfl))) (prs_cons (pri rfl (p_field0 fo48_3 rfl)) (prs_cons (pri rfl (p_load1 t46 rfl rfl (g_row1 (k := 3) rfl rfl))) (prs_cons (pri rfl (p_len_sl Tryz.underlying46 rfl (hs_sl (k := 5) rfl))) (prs_cons (pri rfl (p_bin rfl rfl b_ne)) prs_nil)))))))))))))) rfl rfl rfl ?_)
     refine r_cond rfl (fun h5 => ?_) (fun h5 => ?_)
     ·(try simp only [decide_eq_true_eq, decide_eq_false_iff_not, Bool.and_eq_true, Bool.or_eq_true, Bool.and_eq_false_iff, Bool.or_eq_false_iff, Bool.not_eq_true, Bool.not_eq_false, Bool.not_eq_true', Bool.not_eq_false', Bool.not_not, bne_iff_ne, beq_iff_eq] at h5)
      have hpl : ¬ f.ps.length = t.kids.length := by omega
      refine r_seq (r_region (r_p (p_assign rfl) rfl (r_nil (r_cret ?_))))
      refine r_ret () trivial rfl (rs1 (rv_tmp rfl)) (by rw [eX_own (show nE fs ns t = 23 by rw [nE_some q3 hff, if_neg hpl]) (by decide)]) [] [] rfl rfl rfl
     ·(try simp only [decide_eq_true_eq, decide_eq_false_iff_not, Bool.and_eq_true, Bool.or_eq_true, Bool.and_eq_false_iff, Bool.or_eq_false_iff, Bool.not_eq_true, Bool.not_eq_false, Bool.not_eq_true', Bool.not_eq_false', Bool.not_not, bne_iff_ne, beq_iff_eq] at h5)
      have hpl : f.ps.length = t.kids.length := by omega
      refine r_skip ?_
      refine r_here () (by rw [nE_some q3 hff, if_pos hpl]) rfl rfl rfl
   ·have q3 : ¬ t.kind = 3 := of_decide_eq_false h3
    refine r_skip ?_
    refine r_here () (by by_cases q2 : t.kind = 2; rw [nE_2 q2, if_pos (hm2 q2)]; exact nE_0 q2 q3) rfl rfl rfl
  ·refine r_seq (r_seq (r_region (r_p (p_assign rfl) rfl (r_nil (r_block ?_)))))
   refine r_loop (X := Nat) (fun i => i ≤ t.kids.length ∧ eXs fs ns (t.kids.take i) = 0) (fun i => [(0, .pointer (some ⟨c, 0, none⟩)), (3, .pointer (some ⟨b3, 0, none⟩)), (7, .int .i64 (i : Int))]) (fun i => [(3, row b3 48 (eTx t))]) (fun i => [(0, row c 90 [sv vp, sv vn]), (1, sl 1 eS (sv vn) ns), (2, tfsA vp fs), (3, txsA t.v t.kids), (4, sl 3 eTf (sv vp) fs), (5, sl 4 eTx (sv t.v) t.kids)]) (fun i => t.kids.length - i) 0 ⟨Nat.zero_le _, rfl⟩ rfl rfl rfl (fun i hx0 => ?_)
   obtain ⟨n1, n2⟩ := hx0
   refine r_seq (r_seq (r_region (r_p (p_move rfl) rfl ?_)))
   refine r_p (p_field0 fo48_3 rfl) rfl ?_
   refine r_p (p_load1 t46 rfl rfl (g_row1 (k := 3) rfl rfl)) rfl ?_
   refine r_p (p_len_sl Tryz.underlying46 rfl (hs_sl (k := 5) rfl)) rfl ?_
   refine r_p (p_bin rfl rfl b_lt) rfl ?_
   refine r_nil ?_
   refine r_cond rfl (fun h6 => ?_) (fun h6 => ?_)
   ·(try simp only [decide_eq_true_eq, decide_eq_false_iff_not, Bool.and_eq_true, Bool.or_eq_true, Bool.and_eq_false_iff, Bool.or_eq_false_iff, Bool.not_eq_true, Bool.not_eq_false, Bool.not_eq_true', Bool.not_eq_false', Bool.not_not, bne_iff_ne, beq_iff_eq] at h6)
    have hi : i < t.kids.length := by omega
    obtain ⟨u, hu⟩ : ∃ u, t.kids[i]? = some u := ⟨_, List.getElem?_eq_getElem hi⟩
    have hum := List.mem_of_getElem? hu
    refine r_skip (r_seq (r_block (r_seq (r_region (r_p (p_move rfl) rfl ?_)))))
    refine r_p (p_field0 fo48_3 rfl) rfl ?_
    refine r_p (p_load1 t46 rfl rfl (g_row1 (k := 3) rfl rfl)) rfl ?_
    refine r_p (p_move rfl) rfl ?_
    refine r_p (p_idx_sl (j := i) Tryz.underlying46 t48 rfl rfl (hs_sl (k := 5) rfl) (by first | rfl | omega) (by first | omega | (simp; done) | (simp; omega))) rfl ?_
    refine r_p (p_loadA t48 rfl rfl rfl (g_el' (hs_sl (k := 5) rfl) (by intro _; rfl) hu (by rfl))) rfl ?_
    refine r_more 3 9 rfl (txs_kid hum) ?_
    refine r_callN (xs := [.tmp 54, .tmp 59]) (ih u hum) cb55 [] [(false, 0), (false, 1), (false, 2), (false, 9)] [] rfl rfl rfl rfl rfl rfl rfl rfl (fun _ _ => rfl) (fun _ _ _ => rfl) rfl (fun _ _ => ?_)
    refine r_p (p_assign rfl) rfl (r_nil (r_seq (r_region (r_p (p_move rfl) rfl ?_))))
    refine r_p (p_bin rfl rfl b_ne) rfl ?_
    refine r_nil ?_
    refine r_cond rfl (fun h7 => ?_) (fun h7 => ?_)
    ·(try simp only [decide_eq_true_eq, decide_eq_false_iff_not, Bool.and_eq_true, Bool.or_eq_true, Bool.and_eq_false_iff, Bool.or_eq_false_iff, Bool.not_eq_true, Bool.not_eq_false, Bool.not_eq_true', Bool.not_eq_false', Bool.not_not, bne_iff_ne, beq_iff_eq] at h7)
     have hct : eX fs ns u ≠ 0 := h7
     refine r_seq (r_region (r_p (p_move rfl) rfl (r_p (p_assign rfl) rfl (r_nil (r_cret ?_)))))
     refine r_ret () trivial rfl (rs1 (rv_tmp rfl)) (by rw [eX_kids hn0 (eXs_hit hu n2 hct)]) [] [] rfl rfl rfl
    ·(try simp only [decide_eq_true_eq, decide_eq_false_iff_not, Bool.and_eq_true, Bool.or_eq_true, Bool.and_eq_false_iff, Bool.or_eq_false_iff, Bool.not_eq_true, Bool.not_eq_false, Bool.not_eq_true', Bool.not_eq_false', Bool.not_not, bne_iff_ne, beq_iff_eq] at h7)
     have hcf : eX fs ns u = 0 := h7
     refine r_skip (r_region (r_p (p_move rfl) rfl ?_))
     refine r_p (p_bin rfl rfl (b_add (by first | exact w_i64 (by omega) (by omega) | rfl))) rfl ?_
     refine r_p (p_assign rfl) rfl (r_nil ?_)
     refine r_here (i + 1) ⟨⟨by omega, by rw [eXs_take hu, n2, hcf]; rfl⟩, by omega⟩ rfl rfl rfl
   ·(try simp only [decide_eq_true_eq, decide_eq_false_iff_not, Bool.and_eq_true, Bool.or_eq_true, Bool.and_eq_false_iff, Bool.or_eq_false_iff, Bool.not_eq_true, Bool.not_eq_false, Bool.not_eq_true', Bool.not_eq_false', Bool.not_not, bne_iff_ne, beq_iff_eq] at h6)
    have hi : i = t.kids.length := by omega
    subst hi
    rw [List.take_length] at n2
    refine r_exit (r_seq (r_region (r_p (p_assign rfl) rfl (r_nil (r_cret ?_)))))
    refine r_ret () trivial rfl (rs1 (rv_tmp rfl)) (by rw [eX_kids hn0 n2]) [] [] rfl rfl rfl
theorem se_all (c : Nat) (vp vn : SV) (fs : List Tf) (ns : List ByteArray) (hfl : fs.length ≤ 1000000) (hns : ns.length ≤ 1000000) : ∀ (n : Nat) (t : Tx), SizeOf.sizeOf t < n → GX t → HSe c vp vn fs ns t
 | 0, _, h, _ => absurd h (Nat.not_lt_zero _)
 | n + 1, t, h, ht => se_step c vp vn fs ns hfl hns t (GX_len ht) fun u hu => se_all c vp vn fs ns hfl hns n u (by have := tx_lt hu; omega) ((GX_kids ht).mem u hu)
theorem se_spec (c : Nat) (vp vn : SV) (fs : List Tf) (ns : List ByteArray) (hfl : fs.length ≤ 1000000) (hns : ns.length ≤ 1000000) (t : Tx) (ht : GX t) : HSe c vp vn fs ns t := se_all c vp vn fs ns hfl hns _ t (Nat.lt_succ_self _) ht
/-- The frame and the state behind statements. -/
structure Sb where
 fr : Vs
 vN : SV
 vV : SV
 done : Bool
 val : Int
 x : Sx
def FitB (e : Rn) (r : Re (Vs × Option Int)) (y : Sb) : Prop := (∃ vs ro s vo, r = .ok (vs, ro) s ∧ y.x = xS e s vo ∧ FrEq y.fr vs ∧ (y.fr.length : Int) + max s.fuel 0 ≤ 1000001000000 ∧ y.done = ro.isSome ∧ y.val = ro.getD 0) ∨ (y.x.er ≠ 0 ∧ r = .err y.x.er)
structure RkB (e : Rn) (fr vs : Vs) (s : Ms) : Prop where
 k : RkE e s
 v : okVs vs
 f : FrEq fr vs
 n : (fr.length : Int) + max s.fuel 0 ≤ 1000001000000
/-- The frame of a call while its parameters are set. -/
structure Yf where
 i : Nat
 fr : Vs
 vN : SV
 vV : SV
/-- The state of the loop over statements. -/
structure Yb where
 i : Nat
 g : Nat
 y : Sb
def BIn (e : Rn) (g d : Nat) (l : List Ty) (y : Sb) (r : Re (Vs × Option Int)) : Prop := (∃ vs s vo, y.x = xS e s vo ∧ RkB e y.fr vs s ∧ y.done = false ∧ y.val = 0 ∧ evB g e.fs d vs l s = some r) ∨ ((y.done = true ∨ y.x.er ≠ 0) ∧ FitB e r y)
theorem BIn.done {e : Rn} {g d : Nat} {y : Sb} {r : Re (Vs × Option Int)} (h : BIn e g d [] y r) : FitB e r y := by
 rcases h with ⟨vs, s, vo, h1, h2, h3, h4, h5⟩ | h
 ·exact .inl ⟨vs, none, s, vo, evB_nil h5, h1, h2.f, h2.n, h3, h4⟩
 ·exact h.2
theorem BIn.stop {e : Rn} {g d : Nat} {l : List Ty} {y : Sb} {r : Re (Vs × Option Int)} (h : BIn e g d l y r) (hs : y.done = true ∨ y.x.er ≠ 0) : FitB e r y := by
 rcases h with ⟨vs, s, vo, h1, h2, h3, h4, h5⟩ | h
 ·rcases hs with hs | hs
  ·rw [h3] at hs; cases hs
  ·rw [h1] at hs; exact absurd rfl hs
 ·exact h.2
theorem BIn.step {e : Rn} {g d : Nat} {t : Ty} {l : List Ty} {y : Sb} {r : Re (Vs × Option Int)} (hF : VF e.fs) (ht : VY e.fs t) (h : BIn e g d (t :: l) y r) (hd : y.done = false) (he : y.x.er = 0) :
  ∃ g2 q vs s vo, g = g2 + 1 ∧ y.x = xS e s vo ∧ RkB e y.fr vs s ∧ y.val = 0 ∧ evS g2 e.fs d vs t s = some q ∧ ∀ z, FitB e q z → BIn e g2 d l z r := by
 rcases h with ⟨vs, s, vo, h1, h2, h3, h4, h5⟩ | ⟨h, _⟩
 ·obtain ⟨g2, q, hg, hx, hre, hrs, hrn⟩ := evB_cons h5
  refine ⟨g2, q, vs, s, vo, hg, h1, h2, h4, hx, fun z hz => ?_⟩
  rcases hz with ⟨vs1, ro, s1, vo1, z1, z2, z3, z4, z5, z6⟩ | ⟨z1, z2⟩
  ·rw [z1] at hx
   obtain ⟨k1, k2, k3⟩ := (ev_ok hF g2).s d vs t s _ s1 ht h2.v h2.k.ok hx
   cases ro with
   | none => exact .inl ⟨vs1, s1, vo1, z2, ⟨h2.k.kp k3, k1, z3, z4⟩, z5, z6, hrn vs1 s1 z1⟩
   | some x => exact .inr ⟨.inl z5, .inl ⟨vs1, some x, s1, vo1, hrs vs1 x s1 z1, z2, z3, z4, z5, z6⟩⟩
  ·exact .inr ⟨.inr z1, .inr ⟨z1, hre _ z2⟩⟩
 ·rcases h with h | h
  ·rw [hd] at h; cases h
  ·exact absurd he h
def WIn (e : Rn) (g d : Nat) (t : Tx) (l : List Ty) (v : Int) (y : Sb) (r : Re (Vs × Option Int)) : Prop := (∃ vs s vo, y.x = xS e s vo ∧ RkB e y.fr vs s ∧ y.done = false ∧ y.val = 0 ∧ evW g e.fs d vs t l v s = some r) ∨ ((y.done = true ∨ y.x.er ≠ 0) ∧ FitB e r y)
def WMid (e : Rn) (g d : Nat) (t : Tx) (l : List Ty) (y : Sb) (r : Re (Vs × Option Int)) : Prop := (∃ vs s vo rx, y.x = xS e s vo ∧ RkB e y.fr vs s ∧ y.done = false ∧ y.val = 0 ∧ evX g e.fs d vs t s = some rx ∧ ∀ w, FitX e rx w → WIn e g d t l w.1 { y with x := w.2 } r) ∨ ((y.done = true ∨ y.x.er ≠ 0) ∧ FitB e r y)
theorem WIn.out {e : Rn} {g d : Nat} {t : Tx} {l : List Ty} {v : Int} {y : Sb} {r : Re (Vs × Option Int)} (h : WIn e g d t l v y r) (hv : v = 0) : FitB e r y := by
 rcases h with ⟨vs, s, vo, h1, h2, h3, h4, h5⟩ | h
 ·exact .inl ⟨vs, none, s, vo, evW_out h5 hv, h1, h2.f, h2.n, h3, h4⟩
 ·exact h.2
theorem WIn.stop {e : Rn} {g d : Nat} {t : Tx} {l : List Ty} {v : Int} {y : Sb} {r : Re (Vs × Option Int)} (h : WIn e g d t l v y r) (hs : y.done = true ∨ y.x.er ≠ 0) : FitB e r y := by
 rcases h with ⟨vs, s, vo, h1, h2, h3, h4, h5⟩ | h
 ·rcases hs with hs | hs
  ·rw [h3] at hs; cases hs
  ·rw [h1] at hs; exact absurd rfl hs
 ·exact h.2
theorem WIn.step {e : Rn} {g d : Nat} {t : Tx} {l : List Ty} {v : Int} {y : Sb} {r : Re (Vs × Option Int)} (hF : VF e.fs) (ht : VX e.fs t) (hl : VYs e.fs l) (h : WIn e g d t l v y r) (hv : ¬ v = 0) (hd : y.done = false) (he : y.x.er = 0) :
  ∃ g2 q vs s vo, g = g2 + 1 ∧ y.x = xS e s vo ∧ RkB e y.fr vs s ∧ y.val = 0 ∧ evB g2 e.fs d vs l s = some q ∧ ∀ z, FitB e q z → WMid e g2 d t l z r := by
 rcases h with ⟨vs, s, vo, h1, h2, h3, h4, h5⟩ | ⟨h, _⟩
 ·obtain ⟨g2, q, hg, hx, hre, hrs, hrn⟩ := evW_in h5 hv
  refine ⟨g2, q, vs, s, vo, hg, h1, h2, h4, hx, fun z hz => ?_⟩
  rcases hz with ⟨vs1, ro, s1, vo1, z1, z2, z3, z4, z5, z6⟩ | ⟨z1, z2⟩
  ·rw [z1] at hx
   obtain ⟨k1, k2, k3⟩ := (ev_ok hF g2).b d vs l s _ s1 hl h2.v h2.k.ok hx
   have k4 : RkB e z.fr vs1 s1 := ⟨h2.k.kp k3, k1, z3, z4⟩
   cases ro with
   | none =>
    obtain ⟨rx, r1, r2, r3⟩ := hrn vs1 s1 z1
    refine .inl ⟨vs1, s1, vo1, rx, z2, k4, z5, z6, r1, fun w hw => ?_⟩
    rcases hw with ⟨s2, vo2, w1, w2⟩ | ⟨w1, w2⟩
    ·rw [w1] at r1
     obtain ⟨x1, x2⟩ := (ev_ok hF g2).x d vs1 t s1 w.1 s2 ht k1 k4.k.ok r1
     refine .inl ⟨vs1, s2, vo2, w2, ⟨k4.k.kp x2, k1, z3, ?_⟩, z5, z6, r3 w.1 s2 w1⟩
     have h8 := x2.fl
     show (z.fr.length : Int) + _ ≤ _
     omega
    ·exact .inr ⟨.inr w1, .inr ⟨w1, r2 _ w2⟩⟩
   | some x => exact .inr ⟨.inl z5, .inl ⟨vs1, some x, s1, vo1, hrs vs1 x s1 z1, z2, z3, z4, z5, z6⟩⟩
  ·exact .inr ⟨.inr z1, .inr ⟨z1, hre _ z2⟩⟩
 ·rcases h with h | h
  ·rw [hd] at h; cases h
  ·exact absurd he h
theorem WMid.go {e : Rn} {g d : Nat} {t : Tx} {l : List Ty} {y : Sb} {r : Re (Vs × Option Int)} (h : WMid e g d t l y r) (hd : y.done = false) (he : y.x.er = 0) : ∃ vs s vo rx, y.x = xS e s vo ∧ RkB e y.fr vs s ∧ y.val = 0 ∧ evX g e.fs d vs t s = some rx ∧ ∀ w, FitX e rx w → WIn e g d t l w.1 { y with x := w.2 } r := by
 rcases h with ⟨vs, s, vo, rx, h1, h2, h3, h4, h5, h6⟩ | ⟨h, _⟩
 ·exact ⟨vs, s, vo, rx, h1, h2, h4, h5, h6⟩
 ·rcases h with h | h
  ·rw [hd] at h; cases h
  ·exact absurd he h
theorem WMid.stop {e : Rn} {g d : Nat} {t : Tx} {l : List Ty} {y : Sb} {r : Re (Vs × Option Int)} (h : WMid e g d t l y r) (hs : y.done = true ∨ y.x.er ≠ 0) (v : Int) : WIn e g d t l v y r := by
 rcases h with ⟨vs, s, vo, rx, h1, h2, h3, h4, h5, h6⟩ | h
 ·rcases hs with hs | hs
  ·rw [h3] at hs; cases hs
  ·rw [h1] at hs; exact absurd rfl hs
 ·exact .inr h
/-- The state of a while loop. -/
structure Yw where
 g : Nat
 v : Int
 y : Sb
/-- More gas changes nothing. -/
structure Mono (fs : List Tf) (g : Nat) : Prop where
 x : ∀ d vs t s r, evX g fs d vs t s = some r → evX (g + 1) fs d vs t s = some r
 k : ∀ d vs acc l s r, evK g fs d vs acc l s = some r → evK (g + 1) fs d vs acc l s = some r
 c : ∀ d f al s r, evC g fs d f al s = some r → evC (g + 1) fs d f al s = some r
 b : ∀ d vs l s r, evB g fs d vs l s = some r → evB (g + 1) fs d vs l s = some r
 s : ∀ d vs t s r, evS g fs d vs t s = some r → evS (g + 1) fs d vs t s = some r
 w : ∀ d vs e l v s r, evW g fs d vs e l v s = some r → evW (g + 1) fs d vs e l v s = some r
theorem mono (fs : List Tf) : ∀ g, Mono fs g
 | 0 => ⟨fun _ _ _ _ _ h => by simp [evX] at h, fun _ _ _ _ _ _ h => by simp [evK] at h, fun _ _ _ _ _ h => by simp [evC] at h, fun _ _ _ _ _ h => by simp [evB] at h, fun _ _ _ _ _ h => by simp [evS] at h, fun _ _ _ _ _ _ _ h => by simp [evW] at h⟩
 | g + 1 => by
  have ih := mono fs g
  refine ⟨fun d vs t s r h => ?_, fun d vs acc l s r h => ?_, fun d f al s r h => ?_, fun d vs l s r h => ?_, fun d vs t s r h => ?_, fun d vs e l v s r h => ?_⟩
  ·rw [evX] at h ⊢
   by_cases hf : s.fuel ≤ 0
   ·rw [if_pos hf] at h ⊢; exact h
   ·rw [if_neg hf] at h ⊢
    cases hk : evK g fs d vs [] t.kids { s with fuel := s.fuel - 1 } with
    | none => rw [hk] at h; simp at h
    | some q =>
     rw [hk] at h
     rw [ih.k _ _ _ _ _ _ hk]
     cases q with
     | err z => exact h
     | ok ks s1 =>
      dsimp only at h ⊢
      by_cases q1 : t.kind = 1
      ·rw [if_pos q1] at h ⊢; exact h
      rw [if_neg q1] at h ⊢
      by_cases q2 : t.kind = 2
      ·rw [if_pos q2] at h ⊢; exact h
      rw [if_neg q2] at h ⊢
      by_cases q4 : t.kind = 4
      ·rw [if_pos q4] at h ⊢; exact h
      rw [if_neg q4] at h ⊢
      by_cases q5 : t.kind = 5
      ·rw [if_pos q5] at h ⊢; exact h
      rw [if_neg q5] at h ⊢
      by_cases q6 : t.kind = 6
      ·rw [if_pos q6] at h ⊢; exact h
      rw [if_neg q6] at h ⊢
      by_cases q7 : t.kind = 7
      ·rw [if_pos q7] at h ⊢; exact h
      rw [if_neg q7] at h ⊢
      cases hf : ffind fs t.name with
      | none => rw [hf] at h; simp at h
      | some f => rw [hf] at h; exact ih.c _ _ _ _ _ h
  ·cases l with
   | nil => rw [evK] at h ⊢; exact h
   | cons t l =>
    rw [evK] at h ⊢
    cases hx : evX g fs d vs t s with
    | none => rw [hx] at h; simp at h
    | some q =>
     rw [hx] at h
     rw [ih.x _ _ _ _ _ hx]
     cases q with
     | err z => exact h
     | ok v s1 => exact ih.k _ _ _ _ _ _ h
  ·rw [evC] at h ⊢
   by_cases hd : d = 12
   ·rw [if_pos hd] at h ⊢; exact h
   ·rw [if_neg hd] at h ⊢
    cases hb : evB g fs (d + 1) (vbind [] f.ps al) f.body s with
    | none => rw [hb] at h; simp at h
    | some q => rw [hb] at h; rw [ih.b _ _ _ _ _ hb]; exact h
  ·cases l with
   | nil => rw [evB] at h ⊢; exact h
   | cons t l =>
    rw [evB] at h ⊢
    cases hx : evS g fs d vs t s with
    | none => rw [hx] at h; simp at h
    | some q =>
     rw [hx] at h
     rw [ih.s _ _ _ _ _ hx]
     cases q with
     | err z => exact h
     | ok p s1 =>
      obtain ⟨vs1, ro⟩ := p
      cases ro with
      | some y => exact h
      | none => exact ih.b _ _ _ _ _ h
  ·rw [evS] at h ⊢
   by_cases hf : s.fuel ≤ 0
   ·rw [if_pos hf] at h ⊢; exact h
   ·rw [if_neg hf] at h ⊢
    cases he : t.es with
    | nil => rw [he] at h; simp at h
    | cons e es =>
     rw [he] at h
     dsimp only at h ⊢
     cases hx : evX g fs d vs e { s with fuel := s.fuel - 1 } with
     | none => rw [hx] at h; simp at h
     | some q =>
      rw [hx] at h
      rw [ih.x _ _ _ _ _ hx]
      cases q with
      | err z => exact h
      | ok v s1 =>
       dsimp only at h ⊢
       by_cases q1 : t.kind = 1 ∨ t.kind = 2
       ·rw [if_pos q1] at h ⊢; exact h
       rw [if_neg q1] at h ⊢
       by_cases q3 : t.kind = 3
       ·rw [if_pos q3] at h ⊢
        cases es with
        | nil => simp at h
        | cons e2 es =>
         dsimp only at h ⊢
         cases hy : evX g fs d vs e2 s1 with
         | none => rw [hy] at h; simp at h
         | some q => rw [hy] at h; rw [ih.x _ _ _ _ _ hy]; exact h
       rw [if_neg q3] at h ⊢
       by_cases q4 : t.kind = 4
       ·rw [if_pos q4] at h ⊢; exact ih.b _ _ _ _ _ h
       rw [if_neg q4] at h ⊢
       by_cases q5 : t.kind = 5
       ·rw [if_pos q5] at h ⊢; exact ih.w _ _ _ _ _ _ _ h
       rw [if_neg q5] at h ⊢
       exact h
  ·rw [evW] at h ⊢
   by_cases hv : v = 0
   ·rw [if_pos hv] at h ⊢; exact h
   ·rw [if_neg hv] at h ⊢
    cases hb : evB g fs d vs l s with
    | none => rw [hb] at h; simp at h
    | some q =>
     rw [hb] at h
     rw [ih.b _ _ _ _ _ hb]
     cases q with
     | err z => exact h
     | ok p s1 =>
      obtain ⟨vs1, ro⟩ := p
      cases ro with
      | some y => exact h
      | none =>
       dsimp only at h ⊢
       cases hx : evX g fs d vs1 e s1 with
       | none => rw [hx] at h; simp at h
       | some q =>
        rw [hx] at h
        rw [ih.x _ _ _ _ _ hx]
        cases q with
        | err z => exact h
        | ok w s2 => exact ih.w _ _ _ _ _ _ _ h
theorem mono_x {fs : List Tf} {g g' : Nat} (h : g ≤ g') {d vs t s r} (hr : evX g fs d vs t s = some r) : evX g' fs d vs t s = some r := by
 induction h with
 | refl => exact hr
 | step _ ih => exact (mono fs _).x _ _ _ _ _ ih
theorem mono_k {fs : List Tf} {g g' : Nat} (h : g ≤ g') {d vs acc l s r} (hr : evK g fs d vs acc l s = some r) : evK g' fs d vs acc l s = some r := by
 induction h with
 | refl => exact hr
 | step _ ih => exact (mono fs _).k _ _ _ _ _ _ ih
theorem mono_c {fs : List Tf} {g g' : Nat} (h : g ≤ g') {d f al s r} (hr : evC g fs d f al s = some r) : evC g' fs d f al s = some r := by
 induction h with
 | refl => exact hr
 | step _ ih => exact (mono fs _).c _ _ _ _ _ ih
theorem mono_b {fs : List Tf} {g g' : Nat} (h : g ≤ g') {d vs l s r} (hr : evB g fs d vs l s = some r) : evB g' fs d vs l s = some r := by
 induction h with
 | refl => exact hr
 | step _ ih => exact (mono fs _).b _ _ _ _ _ ih
theorem mono_s {fs : List Tf} {g g' : Nat} (h : g ≤ g') {d vs t s r} (hr : evS g fs d vs t s = some r) : evS g' fs d vs t s = some r := by
 induction h with
 | refl => exact hr
 | step _ ih => exact (mono fs _).s _ _ _ _ _ ih
theorem mono_w {fs : List Tf} {g g' : Nat} (h : g ≤ g') {d vs e l v s r} (hr : evW g fs d vs e l v s = some r) : evW g' fs d vs e l v s = some r := by
 induction h with
 | refl => exact hr
 | step _ ih => exact (mono fs _).w _ _ _ _ _ _ _ ih
/-- An expression costs at least one unit. -/
theorem evX_cost {fs : List Tf} (hF : VF fs) {g d vs t s v s'} (ht : VX fs t) (hv : okVs vs) (hs : okMs s) (h : evX g fs d vs t s = some (.ok v s')) : s'.fuel + 1 ≤ s.fuel := by
 cases g with
 | zero => simp [evX] at h
 | succ g =>
  rw [evX] at h
  by_cases hf : s.fuel ≤ 0
  ·rw [if_pos hf] at h; simp at h
  ·rw [if_neg hf] at h
   have hp := Kp.pay hs hf
   cases hk : evK g fs d vs [] t.kids { s with fuel := s.fuel - 1 } with
   | none => rw [hk] at h; simp at h
   | some q =>
    rw [hk] at h
    cases q with
    | err z => simp at h
    | ok ks s1 =>
     obtain ⟨k1, _, k3⟩ := (ev_ok hF g).k d vs [] t.kids _ ks s1 (by cases t; exact ht.2.2.2.2.2.2) hv hp.ok (by simp) hk
     have h3 := k3.fl
     dsimp only at h3 h
     have fin : ∀ {a : Int} {s2 : Ms}, some (Re.ok a s2) = some (Re.ok v s') → s2.fuel = s1.fuel → s'.fuel + 1 ≤ s.fuel := fun h hs2 => by
      simp only [Option.some.injEq, Re.ok.injEq] at h
      obtain ⟨-, rfl⟩ := h
      omega
     split at h
     ·exact fin h rfl
     ·split at h
      ·exact fin h rfl
      ·split at h
       ·exact fin h rfl
       ·split at h
        ·split at h
         ·exact fin h rfl
         ·exact fin h rfl
        ·split at h
         ·exact fin h rfl
         ·split at h
          ·exact fin h rfl
          ·split at h
           ·simp at h
           ·rename_i f hff
            have := ((ev_ok hF g).c d f ks s1 v s' (ffind_mem hff) k1 k3.ok h).2.fl
            omega
/-- With at most n units, everything ends. -/
structure Tot (fs : List Tf) (n : Nat) : Prop where
 x : ∀ d vs t s, VX fs t → okVs vs → okMs s → s.fuel ≤ (n : Int) → ∃ g r, evX g fs d vs t s = some r
 k : ∀ d vs l acc s, VXs fs l → okVs vs → okMs s → s.fuel ≤ (n : Int) → ∃ g r, evK g fs d vs acc l s = some r
 b : ∀ d vs l s, VYs fs l → okVs vs → okMs s → s.fuel ≤ (n : Int) → ∃ g r, evB g fs d vs l s = some r
 c : ∀ d f al s, f ∈ fs → (∀ a ∈ al, oW a) → okMs s → s.fuel ≤ (n : Int) → ∃ g r, evC g fs d f al s = some r
 w : ∀ d vs e l v s, VX fs e → VYs fs l → okVs vs → okMs s → s.fuel ≤ (n : Int) → ∃ g r, evW g fs d vs e l v s = some r
theorem tot_k {fs : List Tf} (hF : VF fs) {n : Nat} (hx : ∀ d vs t s, VX fs t → okVs vs → okMs s → s.fuel ≤ (n : Int) → ∃ g r, evX g fs d vs t s = some r) :
  ∀ d vs l acc s, VXs fs l → okVs vs → okMs s → s.fuel ≤ (n : Int) → ∃ g r, evK g fs d vs acc l s = some r
 | d, vs, [], acc, s, _, _, _, _ => ⟨1, .ok acc s, by rw [evK]⟩
 | d, vs, t :: l, acc, s, hl, hv, hs, hn => by
  obtain ⟨g1, r1, h1⟩ := hx d vs t s hl.1 hv hs hn
  cases r1 with
  | err z => exact ⟨g1 + 1, .err z, by rw [evK, h1]⟩
  | ok v s1 =>
   have hk := ((ev_ok hF g1).x d vs t s v s1 hl.1 hv hs h1).2
   obtain ⟨g2, r2, h2⟩ := tot_k hF hx d vs l (acc ++ [v]) s1 hl.2 hv hk.ok (Int.le_trans hk.fl hn)
   refine ⟨g1 + g2 + 1, r2, ?_⟩
   rw [evK, mono_x (by omega : g1 ≤ g1 + g2) h1]
   exact mono_k (by omega : g2 ≤ g1 + g2) h2
theorem tot_b {fs : List Tf} (hF : VF fs) {n : Nat} (hx : ∀ d vs t s, VY fs t → okVs vs → okMs s → s.fuel ≤ (n : Int) → ∃ g r, evS g fs d vs t s = some r) :
  ∀ d vs l s, VYs fs l → okVs vs → okMs s → s.fuel ≤ (n : Int) → ∃ g r, evB g fs d vs l s = some r
 | d, vs, [], s, _, _, _, _ => ⟨1, .ok (vs, none) s, by rw [evB]⟩
 | d, vs, t :: l, s, hl, hv, hs, hn => by
  obtain ⟨g1, r1, h1⟩ := hx d vs t s hl.1 hv hs hn
  cases r1 with
  | err z => exact ⟨g1 + 1, .err z, by rw [evB, h1]⟩
  | ok p s1 =>
   obtain ⟨vs1, ro⟩ := p
   obtain ⟨k1, _, hk⟩ := (ev_ok hF g1).s d vs t s _ s1 hl.1 hv hs h1
   cases ro with
   | some y => exact ⟨g1 + 1, .ok (vs1, some y) s1, by rw [evB, h1]⟩
   | none =>
    obtain ⟨g2, r2, h2⟩ := tot_b hF hx d vs1 l s1 hl.2 k1 hk.ok (Int.le_trans hk.fl hn)
    refine ⟨g1 + g2 + 1, r2, ?_⟩
    rw [evB, mono_s (by omega : g1 ≤ g1 + g2) h1]
    exact mono_b (by omega : g2 ≤ g1 + g2) h2
theorem tot_x {fs : List Tf} (hF : VF fs) {n : Nat} (hT : ∀ k, n = k + 1 → Tot fs k) (d : Nat) (vs : Vs) (t : Tx) (s : Ms) (ht : VX fs t) (hv : okVs vs) (hs : okMs s) (hn : s.fuel ≤ (n : Int)) : ∃ g r, evX g fs d vs t s = some r := by
 by_cases hf : s.fuel ≤ 0
 ·exact ⟨1, .err 25, by rw [evX, if_pos hf]⟩
 ·obtain ⟨k, rfl⟩ : ∃ k, n = k + 1 := ⟨n - 1, by omega⟩
  have T := hT k rfl
  have hp := Kp.pay hs hf
  obtain ⟨g1, r1, h1⟩ := T.k d vs t.kids [] _ (VX_kids ht) hv hp.ok (by dsimp only; omega)
  cases r1 with
  | err z => exact ⟨g1 + 1, .err z, by rw [evX, if_neg hf, h1]⟩
  | ok ks s1 =>
   obtain ⟨k1, _, k3⟩ := (ev_ok hF g1).k d vs [] t.kids _ ks s1 (VX_kids ht) hv hp.ok (by simp) h1
   have k4 := k3.fl
   dsimp only at k4
   by_cases q1 : t.kind = 1
   ·exact ⟨g1 + 1, _, by rw [evX, if_neg hf, h1]; dsimp only; rw [if_pos q1]⟩
   by_cases q2 : t.kind = 2
   ·exact ⟨g1 + 1, _, by rw [evX, if_neg hf, h1]; dsimp only; rw [if_neg q1, if_pos q2]⟩
   by_cases q4 : t.kind = 4
   ·exact ⟨g1 + 1, _, by rw [evX, if_neg hf, h1]; dsimp only; rw [if_neg q1, if_neg q2, if_pos q4]⟩
   by_cases q5 : t.kind = 5
   ·cases hi : s1.inp with
    | nil => exact ⟨g1 + 1, _, by rw [evX, if_neg hf, h1]; dsimp only; rw [if_neg q1, if_neg q2, if_neg q4, if_pos q5, hi]⟩
    | cons a r => exact ⟨g1 + 1, _, by rw [evX, if_neg hf, h1]; dsimp only; rw [if_neg q1, if_neg q2, if_neg q4, if_pos q5, hi]⟩
   by_cases q6 : t.kind = 6
   ·exact ⟨g1 + 1, _, by rw [evX, if_neg hf, h1]; dsimp only; rw [if_neg q1, if_neg q2, if_neg q4, if_neg q5, if_pos q6]⟩
   by_cases q7 : t.kind = 7
   ·exact ⟨g1 + 1, _, by rw [evX, if_neg hf, h1]; dsimp only; rw [if_neg q1, if_neg q2, if_neg q4, if_neg q5, if_neg q6, if_pos q7]⟩
   obtain ⟨f, hff, _⟩ := VX_call ht q1 q2 q4 q5 q6 q7
   obtain ⟨g2, r2, h2⟩ := T.c d f ks s1 (ffind_mem hff) k1 k3.ok (by omega)
   refine ⟨g1 + g2 + 1, r2, ?_⟩
   rw [evX, if_neg hf, mono_k (by omega : g1 ≤ g1 + g2) h1]
   dsimp only
   rw [if_neg q1, if_neg q2, if_neg q4, if_neg q5, if_neg q6, if_neg q7, hff]
   exact mono_c (by omega : g2 ≤ g1 + g2) h2
theorem tot_s {fs : List Tf} (hF : VF fs) {n : Nat} (hT : ∀ k, n = k + 1 → Tot fs k) (d : Nat) (vs : Vs) (t : Ty) (s : Ms) (ht : VY fs t) (hv : okVs vs) (hs : okMs s) (hn : s.fuel ≤ (n : Int)) : ∃ g r, evS g fs d vs t s = some r := by
 by_cases hf : s.fuel ≤ 0
 ·exact ⟨1, .err 25, by rw [evS, if_pos hf]⟩
 ·obtain ⟨k, rfl⟩ : ∃ k, n = k + 1 := ⟨n - 1, by omega⟩
  have T := hT k rfl
  have hp := Kp.pay hs hf
  obtain ⟨v1, v2, v3, v4⟩ := VY_es ht
  cases hes : t.es with
  | nil => rw [hes] at v1; simp at v1
  | cons e es =>
   rw [hes] at v4 v3
   obtain ⟨g1, r1, h1⟩ := T.x d vs e _ v4.1 hv hp.ok (by dsimp only; omega)
   cases r1 with
   | err z => exact ⟨g1 + 1, .err z, by rw [evS, if_neg hf, hes]; dsimp only; rw [h1]⟩
   | ok v s1 =>
    obtain ⟨k1, k3⟩ := (ev_ok hF g1).x d vs e _ v s1 v4.1 hv hp.ok h1
    have k4 := k3.fl
    dsimp only at k4
    by_cases q1 : t.kind = 1 ∨ t.kind = 2
    ·exact ⟨g1 + 1, _, by rw [evS, if_neg hf, hes]; dsimp only; rw [h1]; dsimp only; rw [if_pos q1]⟩
    by_cases q3 : t.kind = 3
    ·cases es with
     | nil => have := v3 q3; simp at this
     | cons e2 es =>
      obtain ⟨g2, r2, h2⟩ := T.x d vs e2 s1 v4.2.1 hv k3.ok (by omega)
      cases r2 with
      | err z => exact ⟨g1 + g2 + 1, .err z, by rw [evS, if_neg hf, hes]; dsimp only; rw [mono_x (by omega : g1 ≤ g1 + g2) h1]; dsimp only; rw [if_neg q1, if_pos q3, mono_x (by omega : g2 ≤ g1 + g2) h2]⟩
      | ok w s2 => exact ⟨g1 + g2 + 1, _, by rw [evS, if_neg hf, hes]; dsimp only; rw [mono_x (by omega : g1 ≤ g1 + g2) h1]; dsimp only; rw [if_neg q1, if_pos q3, mono_x (by omega : g2 ≤ g1 + g2) h2]⟩
    by_cases q4 : t.kind = 4
    ·obtain ⟨g2, r2, h2⟩ := T.b d vs (if v = 0 then t.els else t.body) s1 (by split; exact (VY_els ht).2; exact (VY_body ht).2) hv k3.ok (by omega)
     refine ⟨g1 + g2 + 1, r2, ?_⟩
     rw [evS, if_neg hf, hes]; dsimp only; rw [mono_x (by omega : g1 ≤ g1 + g2) h1]; dsimp only; rw [if_neg q1, if_neg q3, if_pos q4]
     exact mono_b (by omega : g2 ≤ g1 + g2) h2
    by_cases q5 : t.kind = 5
    ·obtain ⟨g2, r2, h2⟩ := T.w d vs e t.body v s1 v4.1 (VY_body ht).2 hv k3.ok (by omega)
     refine ⟨g1 + g2 + 1, r2, ?_⟩
     rw [evS, if_neg hf, hes]; dsimp only; rw [mono_x (by omega : g1 ≤ g1 + g2) h1]; dsimp only; rw [if_neg q1, if_neg q3, if_neg q4, if_pos q5]
     exact mono_w (by omega : g2 ≤ g1 + g2) h2
    by_cases q6 : t.kind = 6
    ·exact ⟨g1 + 1, _, by rw [evS, if_neg hf, hes]; dsimp only; rw [h1]; dsimp only; rw [if_neg q1, if_neg q3, if_neg q4, if_neg q5, if_pos q6]⟩
    by_cases q7 : t.kind = 7
    ·exact ⟨g1 + 1, _, by rw [evS, if_neg hf, hes]; dsimp only; rw [h1]; dsimp only; rw [if_neg q1, if_neg q3, if_neg q4, if_neg q5, if_neg q6, if_pos q7]⟩
    exact ⟨g1 + 1, _, by rw [evS, if_neg hf, hes]; dsimp only; rw [h1]; dsimp only; rw [if_neg q1, if_neg q3, if_neg q4, if_neg q5, if_neg q6, if_neg q7]⟩
theorem tot_w {fs : List Tf} (hF : VF fs) {n : Nat} (hT : ∀ k, n = k + 1 → Tot fs k) (hb : ∀ d vs l s, VYs fs l → okVs vs → okMs s → s.fuel ≤ (n : Int) → ∃ g r, evB g fs d vs l s = some r) (d : Nat) (vs : Vs) (e : Tx) (l : List Ty) (v : Int) (s : Ms) (he : VX fs e) (hl : VYs fs l) (hv : okVs vs) (hs : okMs s) (hn : s.fuel ≤ (n : Int)) : ∃ g r, evW g fs d vs e l v s = some r := by
 by_cases q : v = 0
 ·exact ⟨1, _, by rw [evW, if_pos q]⟩
 ·obtain ⟨g1, r1, h1⟩ := hb d vs l s hl hv hs hn
  cases r1 with
  | err z => exact ⟨g1 + 1, .err z, by rw [evW, if_neg q, h1]⟩
  | ok p s1 =>
   obtain ⟨vs1, ro⟩ := p
   obtain ⟨k1, _, k3⟩ := (ev_ok hF g1).b d vs l s _ s1 hl hv hs h1
   cases ro with
   | some y => exact ⟨g1 + 1, .ok (vs1, some y) s1, by rw [evW, if_neg q, h1]⟩
   | none =>
    obtain ⟨g2, r2, h2⟩ := tot_x hF hT d vs1 e s1 he k1 k3.ok (Int.le_trans k3.fl hn)
    cases r2 with
    | err z => exact ⟨g1 + g2 + 1, .err z, by rw [evW, if_neg q, mono_b (by omega : g1 ≤ g1 + g2) h1]; dsimp only; rw [mono_x (by omega : g2 ≤ g1 + g2) h2]⟩
    | ok w s2 =>
     have hc := evX_cost hF he k1 k3.ok h2
     have k5 := k3.fl
     by_cases hz : s2.fuel ≤ 0 ∧ n = 0
     ·exfalso
      have h3 := hz.2
      -- with no units left the condition would have failed
      cases g2 with
      | zero => simp [evX] at h2
      | succ g2 => rw [evX, if_pos (by omega)] at h2; simp at h2
     ·by_cases hn0 : n = 0
      ·exfalso
       cases g2 with
       | zero => simp [evX] at h2
       | succ g2 => rw [evX, if_pos (by omega)] at h2; simp at h2
      ·obtain ⟨k, rfl⟩ : ∃ k, n = k + 1 := ⟨n - 1, by omega⟩
       obtain ⟨g3, r3, h3⟩ := (hT k rfl).w d vs1 e l w s2 he hl k1 ((ev_ok hF g2).x d vs1 e s1 w s2 he k1 k3.ok h2).2.ok (by omega)
       refine ⟨g1 + g2 + g3 + 1, r3, ?_⟩
       rw [evW, if_neg q, mono_b (by omega : g1 ≤ g1 + g2 + g3) h1]
       dsimp only
       rw [mono_x (by omega : g2 ≤ g1 + g2 + g3) h2]
       exact mono_w (by omega : g3 ≤ g1 + g2 + g3) h3
theorem tot_of {fs : List Tf} (hF : VF fs) {n : Nat} (hT : ∀ k, n = k + 1 → Tot fs k) : Tot fs n := by
 have hx := tot_x hF hT
 have hb := tot_b hF (n := n) (tot_s hF hT)
 refine ⟨hx, tot_k hF hx, hb, fun d f al s hf ha hs hn => ?_, tot_w hF hT hb⟩
 by_cases hd : d = 12
 ·exact ⟨1, .err 26, by rw [evC, if_pos hd]⟩
 ·obtain ⟨g1, r1, h1⟩ := hb (d + 1) (vbind [] f.ps al) f.body s (hF f hf).2.2 (okVs.bind _ _ (fun p hp => by simp at hp) ha) hs hn
  cases r1 with
  | err z => exact ⟨g1 + 1, .err z, by rw [evC, if_neg hd, h1]⟩
  | ok p s1 => exact ⟨g1 + 1, _, by rw [evC, if_neg hd, h1]⟩
/-- Everything ends. -/
theorem tot {fs : List Tf} (hF : VF fs) : ∀ n, Tot fs n
 | 0 => tot_of hF fun k h => by omega
 | n + 1 => tot_of hF fun k h => by
  obtain rfl : k = n := by omega
  exact tot hF k
/-- A frame with more deferred calls. -/
def more (ds : List Deferred) (a : Act) : Act := { a with defers := a.defers ++ ds }
theorem more_put (ds : List Deferred) (a : Act) (d : Option Nat) (v : Value) : (more ds a).put d v = more ds (a.put d v) := by
 unfold more Act.put
 cases d <;> rfl
theorem upon_more (P : Program) (ds : List Deferred) (o : Oper) (a : Act) (next : Act → World → Prop) (Q : Exit → Act → World → Prop) (r : Result Next)
  (h : o.upon P a (fun a w => next (more ds a) w) (fun e a w => Q e (more ds a) w) r) : o.upon P (more ds a) next Q r := by
 unfold Oper.upon at h ⊢
 split at h
 ·rw [more_put]; exact h
 ·rw [more_put]; exact h
 ·rename_i d w'
  rw [← more_put] at h
  exact h
 ·refine h.mono ?_
  intro e w' he
  cases e with
  | returned v => dsimp only at he ⊢; rw [more_put]; exact he
  | panicked c => exact he
  | outgrown =>
   obtain ⟨a', w'', hq⟩ := he
   exact ⟨_, w'', hq⟩
 ·simpa only [more_put] using h
 ·exact h
 ·exact h
theorem wpOps_more (P : Program) (ds : List Deferred) (ops : Array Oper) (Q : Exit → Act → World → Prop) : ∀ (l : List Nat) (a : Act) (w : World), wpOps P ops (fun e a w => Q e (more ds a) w) l a w → wpOps P ops Q l (more ds a) w
 | [], a, w, h => h
 | i :: rest, a, w, h => by
  unfold wpOps at h ⊢
  split at h
  ·rename_i hn
   exact wpOps_more P ds ops Q rest a w h
  ·rename_i o ho
   split at h
   ·rename_i hw
    have hw' : Region.wanted o (yielded ops (more ds a).tmps) = true := hw
    rw [if_pos hw']
    rcases h with h | ⟨h1, a', w', h2⟩
    ·left
     have himp : ∀ a w, wpOps P ops (fun e a w => Q e (more ds a) w) rest a w → wpOps P ops Q rest (more ds a) w := wpOps_more P ds ops Q rest
     exact upon_more P ds o a _ Q _ (Oper.wp_mono himp h)
    ·right
     exact ⟨h1, _, w', h2⟩
   ·rename_i hw
    have hw' : ¬ Region.wanted o (yielded ops (more ds a).tmps) = true := hw
    rw [if_neg hw', more_put]
    exact wpOps_more P ds ops Q rest _ w h
section
variable {P : Program} {N : Nat} {w0 : World} {M H : Nat → Prop} {E : Env} {Γ R : Ctx} {Q : Exit → Act → World → Prop} {ds : List Deferred}
/-- The same as At, for a frame that has deferred calls. -/
def AtD (ds : List Deferred) (N : Nat) (w0 : World) (M H : Nat → Prop) (E : Env) (Γ R : Ctx) (Rel : Act → World → Prop) : Prop :=
 At N w0 M H E Γ R fun a w => Rel (more ds a) w
theorem wpOps_of_list {l : List Oper} {a : Act} {w : World} (h : wpList P l.toArray Q l a w) : wpOps P l.toArray Q (List.range l.toArray.size) a w := by
 have := wpOps_eq_wpList (P := P) (ops := l.toArray) (Q := Q) l 0 (fun j => by simp)
 rw [List.range_eq_range', List.size_toArray, this]
 exact h
theorem r_regionD {id : Nat} {l : List Oper} (h : At N w0 M H E Γ R (wpList P l.toArray (fun e a w => Q e (more ds a) w) l)) : AtD ds N w0 M H E Γ R ((Code.region id l.toArray false).wp P Q) := fun a w hE hC =>
 wp_region (wpOps_more P ds l.toArray Q _ a w (wpOps_of_list (h a w hE hC)))
theorem r_seqD {x y : Code} (h : AtD ds N w0 M H E Γ R (x.wp P (XT (y.wp P Q) Q))) : AtD ds N w0 M H E Γ R ((Code.seq x y).wp P Q) := fun a w hE hC => by
 have := h a w hE hC
 refine wp_seq (Code.wp_mono (fun e a w hq => ?_) this)
 cases e <;> exact hq
/-- A call of a closure is deferred. -/
theorem r_defer {ops : Array Oper} {rest : List Oper} {T : TypeId} {ps : String} {af : Array Edge} {f : Operand} {n : Nat} {cap : Array Value} (hf : ev E f = some (.func (.func n) #[] cap)) (k : AtD [{ target := .fn (.func n) cap, args := #[] }] N w0 M H E Γ R (Q .normal)) :
  At N w0 M H E Γ R (wpList P ops Q [⟨none, .defer { callee := .value f, args := #[], argTypes := #[] }, T, ps, af, none⟩]) := by
 intro a w hE hC
 unfold wpList
 rw [if_pos (by simp [Region.wanted])]
 left
 unfold Oper.wp
 have hrun : (execOp a.eval ⟨none, .defer { callee := .value f, args := #[], argTypes := #[] }, T, ps, af, none⟩).run P w = .ok (.defer { target := .fn (.func n) cap, args := #[] }) w := by
  simp [execOp, resolve, hE.ev hf, Deferred.ofValue]
 rw [hrun]
 have := k a w hE hC
 show Q .normal ({ a with defers := _ :: a.defers } : Act) w
 have hd := hE.defers
 rw [hd]
 have hm : more [{ target := Target.fn (Fn.func n) cap, args := #[] }] a = { a with defers := [{ target := Target.fn (Fn.func n) cap, args := #[] }] } := by
  unfold more
  rw [hd]
  rfl
 dsimp only at this
 rw [hm] at this
 exact this
/-- A return before anything was deferred. -/
theorem r_ret0D {fn : Func} {rv : Array ResultVar} {u : Value} {X : Type} {φ : X → Prop} {v : X → Fin} {L' R' : X → List Asn} (x : X) (hφ : φ x) (hr : fn.results = rv) (hrs : RS P N w0 M H E Γ R rv u) (hu : .ret u = v x)
  (ks : List Nat) (rs : List Nat) (hnd : ndB ks = true) (hL : cgets Γ ks = somes (L' x)) (hR : cgets R rs = somes (R' x)) : At N w0 M H E Γ R (bodyPostD P fn (RetE w0 M H φ v L' R') .ret) := fun a w hE hC => by
 show Leaves P fn a.tmps _ a.defers .returning w
 rw [hE.defers]
 exact ⟨u, hrs fn a w hr hE hC, x, hφ, by rw [← hu]; rfl, hC.toL ks hnd hL rs hR⟩
/-- A return, where one closure is deferred that turns nothing then. -/
theorem r_ret1D {fn : Func} {n : Nat} {cap : Array Value} {rv : Array ResultVar} {u : Value} {X : Type} {φ : X → Prop} {v : X → Fin} {L' R' : X → List Asn} (hcl : ∀ w, COk w0 M H Γ R w → CallsD P n cap .returning w fun e u' w' => u' = .returning ∧ e = .returned (.tuple #[]) ∧ COk w0 M H Γ R w') (hcb : Cb P n)
  (x : X) (hφ : φ x) (hr : fn.results = rv) (hrs : RS P N w0 M H E Γ R rv u) (hu : .ret u = v x)
  (ks : List Nat) (rs : List Nat) (hnd : ndB ks = true) (hL : cgets Γ ks = somes (L' x)) (hR : cgets R rs = somes (R' x)) : AtD [{ target := .fn (.func n) cap, args := #[] }] N w0 M H E Γ R (bodyPostD P fn (RetE w0 M H φ v L' R') .ret) := fun a w hE hC => by
 show Leaves P fn (more _ a).tmps _ (more _ a).defers .returning w
 unfold more
 rw [hE.defers]
 refine ⟨by simp, .func n, cap, n, cap, rfl, ?_, ?_⟩
 ·simp [invoke, run_callFunc hcb]
 ·have h := hcl w hC
  intro c cs hc
  obtain ⟨e, u', w', fr, ⟨h1, h2, h3⟩, h4, h5, h6⟩ := h c cs hc
  refine ⟨e, u', w', fr, ?_, h4, h5, h6⟩
  subst h1 h2
  exact ⟨u, hrs fn a w' hr hE h3, x, hφ, by rw [← hu]; rfl, h3.toL ks hnd hL rs hR⟩
/-- A panic, where one closure is deferred that recovers it. -/
theorem r_out1D {fn : Func} {n : Nat} {cap : Array Value} {pv : Value} {rv : Array ResultVar} {u : Value} {X : Type} {φ : X → Prop} {v : X → Fin} {L' R' : X → List Asn} {Γ' : Ctx}
  (hcl : ∀ w, COk w0 M H Γ R w → CallsD P n cap (.panicking [{ v := pv, recovered := false }]) w fun e u' w' => u' = .panicking [{ v := pv, recovered := true }] ∧ e = .returned (.tuple #[]) ∧ COk w0 M H Γ' R w') (hcb : Cb P n)
  (x : X) (hφ : φ x) (hr : fn.results = rv) (hrs : RS P N w0 M H E Γ' R rv u) (hu : .ret u = v x)
  (ks : List Nat) (rs : List Nat) (hnd : ndB ks = true) (hL : cgets Γ' ks = somes (L' x)) (hR : cgets R rs = somes (R' x)) : AtD [{ target := .fn (.func n) cap, args := #[] }] N w0 M H E Γ R (bodyPostD P fn (RetE w0 M H φ v L' R') (.panic [{ v := pv, recovered := false }])) := fun a w hE hC => by
 show Leaves P fn (more _ a).tmps _ (more _ a).defers (.panicking _) w
 unfold more
 rw [hE.defers]
 refine ⟨by simp, .func n, cap, n, cap, rfl, ?_, ?_⟩
 ·simp [invoke, run_callFunc hcb]
 ·have h := hcl w hC
  intro c cs hc
  obtain ⟨e, u', w', fr, ⟨h1, h2, h3⟩, h4, h5, h6⟩ := h c cs hc
  refine ⟨e, u', w', fr, ?_, h4, h5, h6⟩
  subst h1 h2
  exact ⟨u, hrs fn a w' hr hE h3, x, hφ, by rw [← hu]; rfl, h3.toL ks hnd hL rs hR⟩
end
theorem of_at {P : Program} {N : Nat} {w0 : World} {M H : Nat → Prop} {E : Env} {Γ R : Ctx} {c : Code} {Q : Exit → Act → World → Prop} {a : Act} {w : World} (hE : EOk N E a) (hC : COk w0 M H Γ R w) (h : At N w0 M H E Γ R (c.wp P Q)) : c.wp P Q a w := h a w hE hC
section
variable {N : Nat} {w0 : World} {M H : Nat → Prop} {E : Env} {Γ R : Ctx}
theorem p_nilIs {S' : TypeId} {x : Operand} (hx : ev E x = some .nilIface) : PR Tryz.prog N w0 M H E Γ R (.binOp .eql 20 x (.const .nilIface) S') (.bool true) := fun _ _ _ a w hE _ _ _ => by
 have h : (do eqGuard .eql 20 x (.const .nilIface) .nilIface .nilIface; binOp .eql 20 .nilIface .nilIface : Sem Value).run Tryz.prog w = .ok (.bool true) w := by
  have h2 : (Op.equal 20 .nilIface .nilIface).run Tryz.prog w = .ok true w := by kernel_rfl
  simp [eqGuard, binOp, h2]
 simp only [execOp, hE.ev hx, hE.ev (x := .const .nilIface) rfl, Sem.run_bind] at h ⊢
 rw [h]; rfl
theorem p_nilNot {S' T : TypeId} {v : Value} {x : Operand} (hx : ev E x = some (.iface T v)) : PR Tryz.prog N w0 M H E Γ R (.binOp .eql 20 x (.const .nilIface) S') (.bool false) := fun _ _ _ a w hE _ _ _ => by
 have h : (do eqGuard .eql 20 x (.const .nilIface) (.iface T v) .nilIface; binOp .eql 20 (.iface T v) .nilIface : Sem Value).run Tryz.prog w = .ok (.bool false) w := by
  have h2 : (Op.equal 20 (.iface T v) .nilIface).run Tryz.prog w = .ok false w := by kernel_rfl
  simp [eqGuard, binOp, h2]
 simp only [execOp, hE.ev hx, hE.ev (x := .const .nilIface) rfl, Sem.run_bind] at h ⊢
 rw [h]; rfl
end
set_option maxHeartbeats 4000000 in
set_option maxRecDepth 100000 in
theorem run1_ret {w0 : World} {M H : Nat → Prop} {Γ R : Ctx} (b6 b7 b8 : Nat) (w : World) (hC : COk w0 M H Γ R w) : CallsD Tryz.prog 44 #[.pointer (some ⟨b6, 0, none⟩), .pointer (some ⟨b7, 0, none⟩), .pointer (some ⟨b8, 0, none⟩)] .returning w fun e u' w' => u' = .returning ∧ e = .returned (.tuple #[]) ∧ COk w0 M H Γ R w' := by
 refine callsD_of_wpS Tryz.func44 rfl fun c₀ cs hu => ?_
 apply wpS_seq
 apply wpS_region
 simp [wpOpsS, go_sem, recoverD, hu, Tryz.ntmps44, Exit.thenS]
 refine wpS_of_wp ?_
 refine of_at (N := 19) (E := [(3, .nilIface)]) ⟨rfl, by simp, fun t u ht => ?_⟩ hC ?_
 ·simp only [eget] at ht
  cases hb : Nat.beq 3 t with
  | true =>
   rw [hb] at ht
   have := Nat.eq_of_beq_eq_true hb
   subst this
   simp at ht
   subst ht
   rfl
  | false => rw [hb] at ht; simp at ht
 refine r_seq (r_seq (r_region (r_p (p_move rfl) rfl ?_)))
 refine r_p (p_nilIs rfl) rfl ?_
 refine r_nil ?_
 refine r_cond rfl (fun h1 => ?_) (fun h1 => absurd h1 (by simp))
 refine r_cret ?_
 intro a w' hE hC'
 show a.defers = [] ∧ _
 refine ⟨hE.defers, c₀.mode, rfl, .tuple #[], ?_, hu, rfl, hC'⟩
 exact results_none rfl _ _ _
section
variable {N : Nat} {w0 : World} {M H : Nat → Prop} {E : Env} {Γ R : Ctx}
theorem r_forget (k : Nat) {A : Asn} {Rel : Act → World → Prop} (hk : cget Γ k = some A) (h : At N w0 M H E ((k, emp) :: Γ) R Rel) : At N w0 M H E Γ R Rel :=
 h.weak (fun _ h => h) fun w hC => hC.upd hk fun G hG hlt => ⟨fun _ => False, fun _ h => h, fun _ h => h.elim, Touch.refl _ _⟩
theorem p_assertOk {v : Value} {x : Operand} (hx : ev E x = some (.iface 103 v)) : PR Tryz.prog N w0 M H E Γ R (.typeAssert x 20 103 true) (.tuple #[v, .bool true]) := fun _ _ _ a w hE _ _ _ => by
 have h : (Instr.typeAssert (.iface 103 v) 20 103 true).run Tryz.prog w = .ok (.tuple #[v, .bool true]) w := by kernel_rfl
 simp [execOp, hE.ev hx, h]
end
set_option maxHeartbeats 8000000 in
set_option maxRecDepth 100000 in
theorem run1_pan {w0 : World} {M H : Nat → Prop} {R : Ctx} (b6 b7 b8 : Nat) (c6 c7 c8 : Value) (Γ : Ctx) (z : Int) (w : World) (hC : COk w0 M H ((6, row b6 23 [c6]) :: (7, row b7 23 [c7]) :: (8, row b8 40 [c8]) :: Γ) R w) : CallsD Tryz.prog 44 #[.pointer (some ⟨b6, 0, none⟩), .pointer (some ⟨b7, 0, none⟩), .pointer (some ⟨b8, 0, none⟩)] (.panicking [{ v := fail z, recovered := false }]) w fun e u' w' => u' = .panicking [{ v := fail z, recovered := true }] ∧ e = .returned (.tuple #[]) ∧ COk w0 M H ((4, emp) :: (8, row b8 40 [.int .i64 z]) :: (7, row b7 23 [sv nilS]) :: (6, row b6 23 [sv nilS]) :: Γ) R w' := by
 refine callsD_of_wpS Tryz.func44 rfl fun c₀ cs hu => ?_
 apply wpS_seq
 apply wpS_region
 simp [wpOpsS, go_sem, recoverD, hu, Tryz.ntmps44, Exit.thenS]
 refine wpS_of_wp ?_
 refine of_at (N := 19) (E := [(3, fail z), (0, .pointer (some ⟨b6, 0, none⟩)), (1, .pointer (some ⟨b7, 0, none⟩)), (2, .pointer (some ⟨b8, 0, none⟩))]) ⟨rfl, by simp, fun t u ht => ?_⟩ hC ?_
 ·simp only [eget] at ht
  cases q3 : Nat.beq 3 t with
  | true => rw [q3] at ht; have := Nat.eq_of_beq_eq_true q3; subst this; simp at ht; subst ht; rfl
  | false =>
   rw [q3] at ht
   cases q0 : Nat.beq 0 t with
   | true => rw [q0] at ht; have := Nat.eq_of_beq_eq_true q0; subst this; simp at ht; subst ht; rfl
   | false =>
    rw [q0] at ht
    cases q1 : Nat.beq 1 t with
    | true => rw [q1] at ht; have := Nat.eq_of_beq_eq_true q1; subst this; simp at ht; subst ht; rfl
    | false =>
     rw [q1] at ht
     cases q2 : Nat.beq 2 t with
     | true => rw [q2] at ht; have := Nat.eq_of_beq_eq_true q2; subst this; simp at ht; subst ht; rfl
     | false => rw [q2] at ht; simp at ht
 refine r_seq (r_seq (r_region (r_p (p_move rfl) rfl ?_)))
 refine r_p (p_nilNot rfl) rfl ?_
 refine r_nil ?_
 refine r_cond rfl (fun h1 => ?_) (fun h1 => ?_)
 ·exact absurd h1 (by simp)
 ·(try simp only [decide_eq_true_eq, decide_eq_false_iff_not, Bool.and_eq_true, Bool.or_eq_true, Bool.and_eq_false_iff, Bool.or_eq_false_iff, Bool.not_eq_true, Bool.not_eq_false, Bool.not_eq_true', Bool.not_eq_false', Bool.not_not, bne_iff_ne, beq_iff_eq] at h1)
  refine r_skip (r_seq (r_region (r_p (p_move rfl) rfl ?_)))
  refine r_p (p_assertOk rfl) rfl ?_
  refine r_p (p_move rfl) rfl ?_
  refine r_p (p_extract rfl rfl) rfl ?_
  refine r_p (p_extract rfl rfl) rfl ?_
  refine r_alloc t103 rfl rfl fun b4 => ?_
  refine r_store_all (k := 4) t103 rfl rfl rfl rfl rfl rfl ?_
  refine r_p (p_assign rfl) rfl (r_nil (r_seq (r_seq (r_region (r_p (p_move rfl) rfl ?_)))))
  refine r_p (p_not rfl) rfl ?_
  refine r_nil ?_
  refine r_cond rfl (fun h2 => ?_) (fun h2 => ?_)
  ·exact absurd h2 (by simp)
  ·(try simp only [decide_eq_true_eq, decide_eq_false_iff_not, Bool.and_eq_true, Bool.or_eq_true, Bool.and_eq_false_iff, Bool.or_eq_false_iff, Bool.not_eq_true, Bool.not_eq_false, Bool.not_eq_true', Bool.not_eq_false', Bool.not_not, bne_iff_ne, beq_iff_eq] at h2)
   refine r_skip ?_
   refine r_drawM [0, 1, 2, 3, 4] [2, 3, 0, 1, 4] [17, 18] _ rfl rfl rfl (stg_mem0 (V := [(0, 17, _), (1, 18, _)]) [0, 1] 2 [2] [] (fun _ => []) rfl rfl (prs_cons (pri rfl (p_field0 fo103_0 rfl)) (prs_cons (pri rfl (p_load1 t40 rfl rfl (g_row1 (k := 4) rfl rfl))) prs_nil)) rfl rfl rfl rfl rfl rfl rfl rfl rfl (fun _ _ => rfl) rfl (ms_store_row (k := 6) t23 rfl rfl rfl rfl rfl rfl rfl rfl) (fun _ _ => stg_mem0 [0, 1] 3 [3, 2] [] (fun _ => []) rfl rfl (prs_cons (pri rfl (p_field0 fo103_0 rfl)) (prs_cons (pri rfl (p_load1 t40 rfl rfl (g_row1 (k := 4) rfl rfl))) prs_nil)) rfl rfl rfl rfl rfl rfl rfl rfl rfl (fun _ _ => rfl) rfl (ms_store_row (k := 7) t23 rfl rfl rfl rfl rfl rfl rfl rfl) (fun _ _ => stg_mem0 [0, 1] 4 [4, 3, 2, 1, 0] [] (fun _ => []) rfl rfl (prs_cons (pri rfl (p_field0 fo103_0 rfl)) (prs_cons (pri rfl (p_load1 t40 rfl rfl (g_row1 (k := 4) rfl rfl))) prs_nil)) rfl rfl rfl rfl rfl rfl rfl rfl rfl (fun _ _ => rfl) rfl (ms_store_row (k := 8) t40 rfl rfl rfl rfl rfl rfl rfl rfl) (fun _ _ => stg_end [] rfl rfl prs_nil rfl rfl rfl ?_))))
   refine r_forget 4 rfl ?_
   intro a w2 hE hC2
   have hg : cget ((4, emp) :: (8, row b8 40 [.int .i64 z]) :: (7, row b7 23 [sv nilS]) :: (6, row b6 23 [sv nilS]) :: (4, row b4 103 [.int .i64 z]) :: (4, row b4 103 [.int .i64 0]) :: (6, row b6 23 [c6]) :: (7, row b7 23 [c7]) :: (8, row b8 40 [c8]) :: Γ) = cget ((4, emp) :: (8, row b8 40 [.int .i64 z]) :: (7, row b7 23 [sv nilS]) :: (6, row b6 23 [sv nilS]) :: Γ) := by
    funext k
    simp only [cget]
    cases Nat.beq 4 k <;> cases Nat.beq 8 k <;> cases Nat.beq 7 k <;> cases Nat.beq 6 k <;> rfl
   have hC3 : COk w0 M H ((4, emp) :: (8, row b8 40 [.int .i64 z]) :: (7, row b7 23 [sv nilS]) :: (6, row b6 23 [sv nilS]) :: (4, row b4 103 [.int .i64 z]) :: (4, row b4 103 [.int .i64 0]) :: (6, row b6 23 [c6]) :: (7, row b7 23 [c7]) :: (8, row b8 40 [c8]) :: Γ) R w2 := hC2
   unfold COk at hC3
   rw [hg] at hC3
   exact ⟨hE.defers, .panicking [{ v := fail z, recovered := true }], rfl, .tuple #[], results_none rfl _ _ _, rfl, rfl, hC3⟩
theorem bin_some {nm : ByteArray} (h : isBin nm = true) (a b : Int) : (biF nm a b).isSome = true := by
 unfold isBin at h
 obtain ⟨p, hp⟩ := Option.isSome_iff_exists.1 h
 have h1 := List.mem_of_find?_eq_some hp
 have h2 := List.find?_some hp
 have h2 : p.1 = nm := by simpa using h2
 subst h2
 simp only [lvL, List.mem_cons, List.not_mem_nil, or_false] at h1
 rcases h1 with rfl | rfl | rfl | rfl | rfl | rfl | rfl | rfl | rfl | rfl | rfl | rfl | rfl | rfl | rfl | rfl <;> rfl
theorem un_some {nm : ByteArray} (h : memB nm unL = true) (a : Int) : (unF nm a).isSome = true := by
 unfold memB at h
 obtain ⟨p, h1, h2⟩ := List.any_eq_true.1 h
 have h2 : nm = p := by simpa using h2
 subst h2
 simp only [unL, List.mem_cons, List.not_mem_nil, or_false] at h1
 rcases h1 with rfl | rfl | rfl <;> rfl
theorem okX_cases {k : Int} {nm : ByteArray} {n : Nat} (h : okX k nm n = true) : (k = 1 ∧ n = 0) ∨ (k = 5 ∧ n = 0) ∨ (k = 2 ∧ n = 0) ∨ k = 3 ∨ (k = 4 ∧ n = 1) ∨ (k = 6 ∧ memB nm unL = true ∧ n = 1) ∨ (k = 7 ∧ isBin nm = true ∧ n = 2) := by
 unfold okX at h
 split at h
 ·rename_i hk
  simp only [Bool.and_eq_true, decide_eq_true_eq] at h
  rcases hk with hk | hk
  ·exact .inl ⟨hk, h.2⟩
  ·exact .inr (.inl ⟨hk, h.2⟩)
 ·split at h
  ·rename_i hk
   simp only [Bool.and_eq_true, decide_eq_true_eq] at h
   exact .inr (.inr (.inl ⟨hk, h.2⟩))
  ·split at h
   ·rename_i hk
    exact .inr (.inr (.inr (.inl hk)))
   ·split at h
    ·rename_i hk
     simp only [Bool.and_eq_true, decide_eq_true_eq] at h
     exact .inr (.inr (.inr (.inr (.inl ⟨hk, h.2⟩))))
    ·split at h
     ·rename_i hk
      simp only [Bool.and_eq_true, decide_eq_true_eq] at h
      exact .inr (.inr (.inr (.inr (.inr (.inl ⟨hk, h.1, h.2⟩)))))
     ·split at h
      ·rename_i hk
       simp only [Bool.and_eq_true, decide_eq_true_eq] at h
       exact .inr (.inr (.inr (.inr (.inr (.inr ⟨hk, h.1, h.2⟩)))))
      ·cases h
theorem call_fits {fs : List Tf} {ns : List ByteArray} {t : Tx} (h : nE fs ns t = 0) (hk : t.kind = 3) : ∃ f, ffind fs t.name = some f ∧ f.ps.length = t.kids.length := by
 cases hf : ffind fs t.name with
 | none => rw [nE_none hk hf] at h; cases h
 | some f =>
  rw [nE_some hk hf] at h
  refine ⟨f, rfl, ?_⟩
  split at h
  ·assumption
  ·cases h
mutual
theorem vx_of {fs : List Tf} {ns : List ByteArray} : ∀ t : Tx, GX t → rX t = true → eX fs ns t = 0 → VX fs t
 | .mk k n nm v kids, hg, hr, he => by
  have hr2 : (okX k nm kids.length && (decide (k = 1) || decide (n = 0)) && rXs kids) = true := hr
  simp only [Bool.and_eq_true] at hr2
  obtain ⟨⟨h1, _⟩, h3⟩ := hr2
  have he2 := eX_eq fs ns (.mk k n nm v kids)
  rw [he] at he2
  obtain ⟨e1, e2⟩ := fst_eq_zero.1 he2.symm
  have hc := okX_cases h1
  refine ⟨hg.1, hg.2.2.1, fun hk => by omega, fun hk => ?_, fun hk => ?_, fun k1 k2 k4 k5 k6 k7 => ?_, vxs_of kids hg.2.2.2 h3 e2⟩
  ·have : memB nm unL = true ∧ kids.length = 1 := by
    rcases hc with hc | hc | hc | hc | hc | ⟨_, hc, hn⟩ | hc
    ·omega
    ·omega
    ·omega
    ·omega
    ·omega
    ·exact ⟨hc, hn⟩
    ·omega
   exact ⟨by omega, un_some this.1⟩
  ·have : isBin nm = true ∧ kids.length = 2 := by
    rcases hc with hc | hc | hc | hc | hc | hc | ⟨_, hc, hn⟩
    ·omega
    ·omega
    ·omega
    ·omega
    ·omega
    ·omega
    ·exact ⟨hc, hn⟩
   exact ⟨by omega, bin_some this.1⟩
  ·have hk : k = 3 := by omega
   obtain ⟨f, hf1, hf2⟩ := call_fits e1 hk
   exact ⟨f, hf1, by rw [hf2]; exact Nat.le_refl _⟩
theorem vxs_of {fs : List Tf} {ns : List ByteArray} : ∀ l : List Tx, GXs l → rXs l = true → eXs fs ns l = 0 → VXs fs l
 | [], _, _, _ => trivial
 | t :: r, hg, hr, he => by
  have hr2 : (rX t && rXs r) = true := hr
  rw [Bool.and_eq_true] at hr2
  obtain ⟨e1, e2⟩ := fst_eq_zero.1 he
  exact ⟨vx_of t hg.1 hr2.1 e1, vxs_of r hg.2 hr2.2 e2⟩
end
theorem okY_es {k : Int} {nm : ByteArray} {ne nb nl : Nat} (h : okY k nm ne nb nl = true) : 1 ≤ k ∧ k ≤ 8 ∧ ne = (if k = 3 then 2 else 1) ∧ (k = 4 ∨ k = 5 ∨ nb = 0) ∧ (k = 4 ∨ nl = 0) := by
 unfold okY at h
 simp only [Bool.and_eq_true, Bool.or_eq_true, decide_eq_true_eq] at h
 obtain ⟨⟨⟨⟨⟨h1, h2⟩, h3⟩, h4⟩, h5⟩, h6⟩ := h
 exact ⟨h1, h2, h3, by rcases h5 with (h | h) | h; exact .inl h; exact .inr (.inl h); exact .inr (.inr h), h6⟩
mutual
theorem vy_of {fs : List Tf} : ∀ (ns : List ByteArray) (t : Ty), GY t → rY t = true → (bY fs ns t).2 = 0 → VY fs t
 | ns, .mk k nm ve es vb body vl els, hg, hr, he => by
  have hr2 : (okY k nm es.length body.length els.length && rXs es && rYs body && rYs els) = true := hr
  simp only [Bool.and_eq_true] at hr2
  obtain ⟨⟨⟨h1, h2⟩, h3⟩, h4⟩ := hr2
  have hk := okY_es h1
  rw [bY_eq] at he
  obtain ⟨e1, he⟩ := fst_eq_zero.1 he
  obtain ⟨e2, he⟩ := fst_eq_zero.1 he
  obtain ⟨e3, he⟩ := fst_eq_zero.1 he
  obtain ⟨e4, e5⟩ := fst_eq_zero.1 he
  have hes : es.length = if k = 3 then 2 else 1 := hk.2.2.1
  exact ⟨⟨by rw [hes]; split <;> omega, hg.2.1.1, fun h3 => by rw [hes, if_pos h3]; exact Nat.le_refl _, vxs_of es hg.2.1.2 h2 e2⟩, ⟨hg.2.2.1.1, vys_of _ body hg.2.2.1.2 h3 e4⟩, hg.2.2.2.1, vys_of _ els hg.2.2.2.2 h4 e5⟩
theorem vys_of {fs : List Tf} : ∀ (ns : List ByteArray) (l : List Ty), GYs l → rYs l = true → (bYs fs ns l).2 = 0 → VYs fs l
 | _, [], _, _, _ => trivial
 | ns, t :: r, hg, hr, he => by
  have hr2 : (rY t && rYs r) = true := hr
  rw [Bool.and_eq_true] at hr2
  obtain ⟨e1, e2⟩ := fst_eq_zero.1 he
  exact ⟨vy_of ns t hg.1 hr2.1 e1, vys_of _ r hg.2 hr2.2 e2⟩
end
theorem chkFs_mem {fs : List Tf} : ∀ {l : List Tf}, chkFs fs l = 0 → ∀ f ∈ l, chkF fs f = 0
 | [], _, f, hf => by simp at hf
 | g :: r, h, f, hf => by
  obtain ⟨h1, h2⟩ := fst_eq_zero.1 h
  rcases List.mem_cons.1 hf with rfl | hf
  ·exact h1
  ·exact chkFs_mem h2 f hf
/-- What follows from a check without an error. -/
structure Fine (fs : List Tf) (f : Tf) : Prop where
 vf : VF fs
 main : ffind fs nMain = some f
 noP : f.ps = []
 len : fs.length ≤ 16
 once : ∀ (i : Nat) (f : Tf), fs[i]? = some f → fix fs f.name = (i : Int)
 each : ∀ f ∈ fs, chkF fs f = 0
theorem chk_fine {fs : List Tf} (hg : GP fs) (h : chk fs = 0) : ∃ f, Fine fs f := by
 unfold chk at h
 split at h
 ·cases h
 ·rename_i h1
  split at h
  ·cases h
  ·rename_i h2
   split at h
   ·cases h
   ·rename_i h3
    split at h
    ·cases h
    ·rename_i f hf
     split at h
     ·cases h
     ·rename_i h4
      have h1 : rP fs = true := by simpa using h1
      have h3 : once fs = true := by simpa using h3
      have hr := List.all_eq_true.1 h1
      have he := chkFs_mem h
      refine ⟨f, fun g hgm => ?_, hf, List.eq_nil_of_length_eq_zero (by omega), by omega, once_iff.1 h3, he⟩
      obtain ⟨g1, g2, g3, g4, g5, g6⟩ := hg.2 g hgm
      have hrg := hr g hgm
      unfold rF at hrg
      simp only [Bool.and_eq_true] at hrg
      have heg := he g hgm
      rw [chkF_eq] at heg
      have h6 := (fst_eq_zero.1 (fst_eq_zero.1 heg).2).2
      exact ⟨g3, g4, vys_of _ g.body g5 hrg.2 h6⟩
/-- The first state. -/
def ms0 (ins : List Int) (fuel : Int) : Ms := ⟨ins, [], fun _ => 0, fuel⟩
theorem ms0_ok {ins : List Int} {fuel : Int} (hi : ∀ x ∈ ins, oW x) (hf : fuel ≤ 1000000000000) : okMs (ms0 ins fuel) := ⟨hi, fun _ => oW0, by show fuel < _; omega, by show ((0 : Nat) : Int) + max fuel 0 ≤ _; omega⟩
/-- What Run gives: the error, the outputs, mem. -/
structure Ru where
 err : Int
 out : List Int
 mem : List Int
def ruOf : Re Int → Ru
 | .ok _ s => ⟨0, s.out, (List.range 256).map s.mem⟩
 | .err z => ⟨z, [], []⟩
/-- The result of Run. -/
inductive RunIs (fs : List Tf) (ins : List Int) (fuel : Int) : Ru → Prop where
 | bad (h : chk fs ≠ 0) : RunIs fs ins fuel ⟨chk fs, [], []⟩
 | run (f : Tf) (g : Nat) (r : Re Int) (h : chk fs = 0) (hf : ffind fs nMain = some f) (he : evC g fs 0 f [] (ms0 ins fuel) = some r) : RunIs fs ins fuel (ruOf r)
theorem runIs_ex {fs : List Tf} (hg : GP fs) {ins : List Int} {fuel : Int} (hi : ∀ x ∈ ins, oW x) (hf : fuel ≤ 1000000000000) : ∃ r, RunIs fs ins fuel r := by
 by_cases h : chk fs = 0
 ·obtain ⟨f, hfn⟩ := chk_fine hg h
  have ht := tot hfn.vf fuel.toNat
  obtain ⟨g, r, hr⟩ := ht.c 0 f [] (ms0 ins fuel) (ffind_mem hfn.main) (by simp) (ms0_ok hi hf) (by show fuel ≤ _; omega)
  exact ⟨_, .run f g r h hfn.main hr⟩
 ·exact ⟨_, .bad h⟩
theorem runIs_fun {fs : List Tf} {ins : List Int} {fuel : Int} {r r' : Ru} (h : RunIs fs ins fuel r) (h' : RunIs fs ins fuel r') : r = r' := by
 cases h with
 | bad h =>
  cases h' with
  | bad => rfl
  | run f g q h2 => exact absurd h2 h
 | run f g q h hf he =>
  cases h' with
  | bad h2 => exact absurd h h2
  | run f2 g2 q2 h2 hf2 he2 =>
   rw [hf] at hf2
   cases hf2
   have h3 := mono_c (Nat.le_max_left g g2) he
   have h4 := mono_c (Nat.le_max_right g g2) he2
   rw [h3] at h4
   cases h4
   rfl
section
variable {P : Program} {N : Nat} {w0 : World} {M H : Nat → Prop} {E : Env} {Γ R : Ctx} {Q : Exit → Act → World → Prop} {ds : List Deferred}
theorem r_drawMD {id : Nat} {l : List Oper} (rt rg : List Nat) (dl : List Nat) (V : Vals) (h1 : topoM .any rt l = true) (h2 : topoM .text rt l = true) (h3 : topoM .gc rg l = true) (h : Stg P N w0 M H (edel dl E) Γ R l (fun e a w => Q e (more ds a) w) V []) : AtD ds N w0 M H E Γ R ((Code.region id l.toArray true).wp P Q) := by
 intro a w hE hC
 refine wp_region_draw fun t => wpOps_more P ds l.toArray Q _ a _ (h _ (fun _ => false) a _ (sched_ordM _ l rt rg h1 h2 h3 t) ⟨(fun i hi => by cases hi), (fun i hi => by simp at hi), (fun i o _ hi => by cases hi), hE.del dl, (fun i d v _ hi => by cases hi), hC.stay ⟨rfl, rfl, rfl, Nat.le_refl _, fun _ _ _ => rfl⟩⟩)
theorem r_cretD (h : AtD ds N w0 M H E Γ R (Q .ret)) : AtD ds N w0 M H E Γ R (Code.ret.wp P Q) := fun a w hE hC => wp_ret (h a w hE hC)
theorem r_enterD {n : Nat} {fn : Func} {c : Code} {vs : List Value} {L R0 : List Asn} {X : Type} {φ : X → Prop} {v : X → Fin} {L' R' : X → List Asn} (hf : P.funcs[n]? = some fn) (hb : fn.body = some c) (hN : fn.ntmps = N) (hv : Nat.ble vs.length N = true)
  (h : ∀ w0 M H, At N w0 M H (aenv 0 vs) (cenv 0 L) (cenv 0 R0) (c.wp P (bodyPostD P fn (RetE w0 M H φ v L' R')))) : SpecE P n vs L R0 φ v L' R' := by
 intro w M H hL
 have key : ∀ (K : Ending → World → Prop), At N w M H (aenv 0 vs) (cenv 0 L) (cenv 0 R0) (c.wp P (bodyPostD P fn K)) → Calls P n vs.toArray w K := fun K hK => by
  refine calls_of_wp_defers hf hb (hK _ _ ⟨rfl, ?_, fun t u ht => ?_⟩ ?_)
  ·simp only [Array.size_append, Array.size_replicate]
   have := Nat.le_of_ble_eq_true hv
   simp only [List.size_toArray]
   omega
  ·obtain ⟨h1, h2⟩ := aenv_get ht
   simp only [Nat.sub_zero] at h2
   rw [Array.getElem?_append_left (by have := (List.getElem?_eq_some_iff.1 h2).1; simpa using this)]
   simpa using h2
  ·obtain ⟨F, hF⟩ := hL
   refine ⟨F, hF.touch, fun k A hk => hF.has k A ?_, hF.lt, hF.mine, hF.apart, fun k A hk => hF.ro k A ?_⟩
   ·simpa using (cenv_get hk).2
   ·simpa using (cenv_get hk).2
 exact key _ (h w M H)
end
theorem flat_eU : ∀ l : List Int, l.flatMap eU = l.map fun x => Value.int .u32 x
 | [] => rfl
 | a :: r => by rw [List.flatMap_cons, flat_eU r]; rfl
theorem mC_sl {mf mu mb : Nat} {vi vo : SV} {mem : Nat → Int} {fuel d : Int} {rt : Bool} {val : Int} : ((mC mf mu mb vi vo mem fuel d rt val).drop 5).take (((List.range 256).map mem).flatMap eU).length = ((List.range 256).map mem).flatMap eU := by
 rw [flat_eU, List.map_map]
 show List.take _ ((List.range 256).map (fun i => Value.int .u32 (mem i)) ++ _) = _
 rw [List.take_append_of_le_length (by simp), List.take_of_length_le (by simp)]
 rfl
theorem perm_new {l : List Tf} {f : Tf} {i : Nat} (hu : ∀ (j : Nat) (f : Tf), l[j]? = some f → fix l f.name = (j : Int)) (hi : l[i]? = some f) : (f :: (l.take i).filter fun a => decide (a.name ≠ f.name)).Perm (l.take (i + 1)) := by
 have h1 : (l.take i).filter (fun a => decide (a.name ≠ f.name)) = l.take i := by
  rw [List.filter_eq_self]
  intro a ha
  obtain ⟨j, hj, rfl⟩ := List.mem_iff_getElem.1 ha
  rw [List.length_take] at hj
  rw [List.getElem_take]
  have hj2 : l[j]? = some l[j] := List.getElem?_eq_getElem (by omega)
  have e1 := hu j _ hj2
  have e2 := hu i _ hi
  simp only [ne_eq, decide_eq_true_eq]
  intro e
  rw [e] at e1
  omega
 rw [h1, take_snoc hi]
 exact List.perm_append_comm (l₁ := [f])
set_option maxHeartbeats 16000000 in
set_option maxRecDepth 100000 in
theorem run_bad (vp vin : SV) (fs : List Tf) (ins : List Int) (fuel : Int) (hg : GP fs) (hi : ∀ x ∈ ins, oW x) (hil : ins.length ≤ 1000000) (hf : -9000000000000000000 ≤ fuel ∧ fuel ≤ 1000000000000) (hc : chk fs ≠ 0) :
  SpecE Tryz.prog 15 [.agg #[sv vp], sv vin, .int .i64 fuel] [] [tfsA vp fs, sl 1 eU (sv vin) ins] (X := SV × SV) (fun _ => True) (fun x => .ret (.tuple #[sv x.1, sv x.2, .int .i64 (⟨chk fs, [], []⟩ : Ru).err])) (fun x => [own 36 1 eU (sv x.1) (⟨chk fs, [], []⟩ : Ru).out, own 36 1 eU (sv x.2) (⟨chk fs, [], []⟩ : Ru).mem]) (fun _ => []) := by
 refine r_enterD Tryz.func15 rfl Tryz.ntmps15 rfl fun w0 M H => ?_
 refine r_seq (r_region ?_)
 refine r_boxA rfl rfl fun b3 => ?_
 refine r_alloc t23 rfl rfl fun b6 => ?_
 refine r_alloc t23 rfl rfl fun b7 => ?_
 refine r_alloc t40 rfl rfl fun b8 => ?_
 refine r_nil (r_seq (r_region ?_))
 refine r_p (p_loadA t29 rfl rfl rfl (g_all (k := 3) rfl)) rfl ?_
 refine r_call (xs := [.tmp 12]) (check_spec vp fs hg) cb41 [] [(false, 0)] [] [] rfl rfl rfl rfl rfl rfl rfl rfl (fun _ _ => rfl) (fun _ _ _ => rfl) rfl (fun _ _ => ?_)
 refine r_store_row (k := 8) t40 rfl rfl rfl rfl rfl rfl rfl rfl ?_
 refine r_nil (r_seq (r_seq (r_region ?_)))
 refine r_p (p_load1 t40 rfl rfl (g_row1 (k := 8) rfl rfl)) rfl ?_
 refine r_p (p_bin rfl rfl b_ne) rfl ?_
 refine r_nil ?_
 refine r_cond rfl (fun h1 => ?_) (fun h1 => ?_)
 ·(try simp only [decide_eq_true_eq, decide_eq_false_iff_not, Bool.and_eq_true, Bool.or_eq_true, Bool.and_eq_false_iff, Bool.or_eq_false_iff, Bool.not_eq_true, Bool.not_eq_false, Bool.not_eq_true', Bool.not_eq_false', Bool.not_not, bne_iff_ne, beq_iff_eq] at h1)
  refine r_seq ?_
  refine r_drawM [0, 1, 2, 3] [0, 1, 2, 3] [16] _ rfl rfl rfl (stg_mem0 (V := [(0, 16, _)]) [0] 1 [1] [] (fun _ => []) rfl rfl (prs_cons (pri rfl (p_load1 t40 rfl rfl (g_row1 (k := 8) rfl rfl))) prs_nil) rfl rfl rfl rfl rfl rfl rfl rfl rfl (fun _ _ => rfl) rfl (ms_store_row (k := 6) t23 rfl rfl rfl rfl rfl rfl rfl rfl) (fun _ _ => stg_mem0 [0] 2 [2, 1] [] (fun _ => []) rfl rfl (prs_cons (pri rfl (p_load1 t40 rfl rfl (g_row1 (k := 8) rfl rfl))) prs_nil) rfl rfl rfl rfl rfl rfl rfl rfl rfl (fun _ _ => rfl) rfl (ms_store_row (k := 7) t23 rfl rfl rfl rfl rfl rfl rfl rfl) (fun _ _ => stg_mem0 [0] 3 [3, 2, 1, 0] [] (fun _ => []) rfl rfl (prs_cons (pri rfl (p_load1 t40 rfl rfl (g_row1 (k := 8) rfl rfl))) prs_nil) rfl rfl rfl rfl rfl rfl rfl rfl rfl (fun _ _ => rfl) rfl (ms_store_row (k := 8) t40 rfl rfl rfl rfl rfl rfl rfl rfl) (fun _ _ => stg_end [] rfl rfl prs_nil rfl rfl rfl ?_))))
  refine r_cret ?_
  refine r_nilown 20 (α := Int) (S := 36) (s := 1) (enc := eU) ?_
  refine r_nilown 21 (α := Int) (S := 36) (s := 1) (enc := eU) ?_
  refine r_ret0D (nilS, nilS) trivial rfl (rs3 (rv_cell1 t23 rfl rfl (g_row1 (k := 6) rfl rfl)) (rv_cell1 t23 rfl rfl (g_row1 (k := 7) rfl rfl)) (rv_cell1 t40 rfl rfl (g_row1 (k := 8) rfl rfl))) rfl [20, 21] [] rfl rfl rfl
 ·exact absurd (by simpa using h1) hc
theorem mR_0 (m mf mu mb : Nat) (vin : SV) (ins : List Int) (fs : List Tf) (fuel : Int) : mR ⟨m, mf, mu, mb, vin, ins, fs⟩ (ms0 ins fuel) nilS 0 false 0 = mC mf mu mb vin nilS (fun _ => 0) fuel 0 false 0 := by
 unfold mR ms0
 dsimp only
 rw [Nat.sub_self]
 rfl
set_option maxHeartbeats 16000000 in
set_option maxRecDepth 100000 in
theorem run_ok (vp vin : SV) (fs : List Tf) (ins : List Int) (fuel : Int) (hg : GP fs) (hi : ∀ x ∈ ins, oW x) (hil : ins.length ≤ 1000000) (hf : -9000000000000000000 ≤ fuel ∧ fuel ≤ 1000000000000) (hc : chk fs = 0) (f : Tf) (hm : Fine fs f) (g : Nat) (r : Re Int) (hr : evC g fs 0 f [] (ms0 ins fuel) = some r) :
  SpecE Tryz.prog 15 [.agg #[sv vp], sv vin, .int .i64 fuel] [] [tfsA vp fs, sl 1 eU (sv vin) ins] (X := SV × SV) (fun _ => True) (fun x => .ret (.tuple #[sv x.1, sv x.2, .int .i64 (ruOf r).err])) (fun x => [own 36 1 eU (sv x.1) (ruOf r).out, own 36 1 eU (sv x.2) (ruOf r).mem]) (fun _ => []) := by
 refine r_enterD Tryz.func15 rfl Tryz.ntmps15 rfl fun w0 M H => ?_
 refine r_more 0 2 rfl tfs_sl ?_
 have hfl := hg.1
 refine r_seq (r_region ?_)
 refine r_boxA rfl rfl fun b3 => ?_
 refine r_alloc t23 rfl rfl fun b6 => ?_
 refine r_alloc t23 rfl rfl fun b7 => ?_
 refine r_alloc t40 rfl rfl fun b8 => ?_
 refine r_nil (r_seq (r_region ?_))
 refine r_p (p_loadA t29 rfl rfl rfl (g_all (k := 3) rfl)) rfl ?_
 refine r_call (xs := [.tmp 12]) (check_spec vp fs hg) cb41 [] [(false, 0)] [] [] rfl rfl rfl rfl rfl rfl rfl rfl (fun _ _ => rfl) (fun _ _ _ => rfl) rfl (fun _ _ => ?_)
 refine r_store_row (k := 8) t40 rfl rfl rfl rfl rfl rfl rfl rfl ?_
 refine r_nil (r_seq (r_seq (r_region ?_)))
 refine r_p (p_load1 t40 rfl rfl (g_row1 (k := 8) rfl rfl)) rfl ?_
 refine r_p (p_bin rfl rfl b_ne) rfl ?_
 refine r_nil ?_
 refine r_cond rfl (fun h1 => ?_) (fun h1 => ?_)
 ·exact absurd hc (by simpa using h1)
 ·(try simp only [decide_eq_true_eq, decide_eq_false_iff_not, Bool.and_eq_true, Bool.or_eq_true, Bool.and_eq_false_iff, Bool.or_eq_false_iff, Bool.not_eq_true, Bool.not_eq_false, Bool.not_eq_true', Bool.not_eq_false', Bool.not_not, bne_iff_ne, beq_iff_eq] at h1)
  refine r_skip (r_seq (r_region ?_))
  refine r_makeMap Tf.name mkS tfV rfl fun b17 => ?_
  refine r_call (xs := []) unaries_spec cb42 [] [] [18] [] rfl rfl rfl rfl rfl rfl rfl rfl (fun _ _ => rfl) (fun _ _ _ => rfl) rfl (fun bu _ => ?_)
  refine r_call (xs := []) binaries_spec cb43 [] [] [19] [] rfl rfl rfl rfl rfl rfl rfl rfl (fun _ _ => rfl) (fun _ _ _ => rfl) rfl (fun bb _ => ?_)
  refine r_p (p_move rfl) rfl (r_p (p_move rfl) rfl ?_)
  refine r_p (p_build (cs := (mC b17 bu bb vin nilS (fun _ => 0) fuel 0 false 0).toArray) (parts := [(0, .tmp 17), (1, .tmp 18), (2, .tmp 19), (3, .tmp 20), (6, .tmp 21)]) t101 pl101 rfl (by kernel_rfl)) rfl ?_
  refine r_boxA rfl rfl fun b23 => ?_
  refine r_p (p_assign rfl) rfl (r_nil (r_seq (r_seq (r_region ?_))))
  refine r_p (p_field0 fo29_0 rfl) rfl ?_
  refine r_p (p_load1 t27 rfl rfl (g_row1 (k := 3) rfl rfl)) rfl ?_
  refine r_p (p_len_sl Tryz.underlying27 rfl (hs_sl (k := 2) rfl)) rfl ?_
  refine r_p (p_move rfl) rfl (r_nil (r_block ?_))
  refine r_loop (X := Nat) (fun i => i ≤ fs.length) (fun i => [(3, .pointer (some ⟨b3, 0, none⟩)), (6, .pointer (some ⟨b6, 0, none⟩)), (7, .pointer (some ⟨b7, 0, none⟩)), (8, .pointer (some ⟨b8, 0, none⟩)), (9, .pointer (some ⟨b23, 0, none⟩)), (25, sv vp), (26, .int .i64 (fs.length : Int)), (27, .int .i64 (i : Int))]) (fun i => [(3, row b3 29 [sv vp]), (6, row b6 23 [sv nilS]), (7, row b7 23 [sv nilS]), (8, row b8 40 [.int .i64 (chk fs)]), (17, mp mkS Tf.name tfV (some b17) (fs.take i)), (18, mp mkS Prod.fst vF (some bu) uL), (19, mp mkS Prod.fst vF (some bb) bL), (23, row b23 101 (mC b17 bu bb vin nilS (fun _ => 0) fuel 0 false 0))]) (fun i => [(0, tfsA vp fs), (1, sl 1 eU (sv vin) ins), (2, sl 3 eTf (sv vp) fs)]) (fun i => fs.length - i) 0 (Nat.zero_le _) rfl rfl rfl (fun i n1 => ?_)
  refine r_seq (r_region ?_)
  refine r_p (p_bin rfl rfl b_lt) rfl ?_
  refine r_nil (r_seq ?_)
  refine r_cond rfl (fun h2 => ?_) (fun h2 => ?_)
  ·(try simp only [decide_eq_true_eq, decide_eq_false_iff_not, Bool.and_eq_true, Bool.or_eq_true, Bool.and_eq_false_iff, Bool.or_eq_false_iff, Bool.not_eq_true, Bool.not_eq_false, Bool.not_eq_true', Bool.not_eq_false', Bool.not_not, bne_iff_ne, beq_iff_eq] at h2)
   have hi2 : i < fs.length := by omega
   obtain ⟨f2, hst⟩ : ∃ k, fs[i]? = some k := ⟨_, List.getElem?_eq_getElem hi2⟩
   refine r_skip (r_seq (r_block (r_seq (r_region ?_))))
   refine r_p (p_idx_sl (j := i) Tryz.underlying27 t63 rfl rfl (hs_sl (k := 2) rfl) (by first | rfl | omega) (by first | omega | (simp; done) | (simp; omega))) rfl ?_
   refine r_p (p_loadA t63 rfl rfl rfl (g_el' (hs_sl (k := 2) rfl) (by intro _; rfl) hst (by rfl))) rfl ?_
   refine r_alloc t63 rfl rfl fun b11 => ?_
   refine r_store_all (k := 11) t63 rfl rfl rfl rfl rfl rfl ?_
   refine r_nil ?_
   refine r_draw [31, 32, 33, 34, 35, 36, 37] _ rfl (stg_mem0 (V := [(0, 31, _), (1, 32, _), (2, 33, _), (3, 34, _), (4, 35, _), (5, 36, _), (6, 37, _)]) [0, 1, 2, 3, 4, 5, 6] 7 [7, 6, 5, 4, 3, 2, 1, 0] [] (fun _ => []) rfl rfl (prs_cons (pri rfl (p_move rfl)) (prs_cons (pri rfl (p_nilCheck rfl)) (prs_cons (pri rfl (p_field0 fo101_0 rfl)) (prs_cons (pri rfl (p_load1 t94 rfl rfl (g_row1 (k := 23) rfl rfl))) (prs_cons (pri rfl (p_field0 fo63_0 rfl)) (prs_cons (pri rfl (p_load1 t9 rfl rfl (g_row1 (k := 11) rfl rfl))) (prs_cons (pri rfl (p_loadA t63 rfl rfl rfl (g_all (k := 11) rfl))) prs_nil))))))) rfl rfl rfl rfl rfl rfl rfl rfl rfl (fun _ _ => rfl) rfl (ms_mapUpdate (k := 17) f2 (fs.take (i + 1)) Tryz.underlying94 keyS rfl rfl rfl rfl (perm_new hm.once hst)) (fun _ _ => stg_end [] rfl rfl prs_nil rfl rfl rfl ?_))
   refine r_region ?_
   refine r_p (p_bin rfl rfl (b_add (by first | exact w_i64 (by omega) (by omega) | rfl))) rfl ?_
   refine r_p (p_move rfl) rfl (r_nil ?_)
   refine r_here (i + 1) ⟨by omega, by omega⟩ rfl rfl rfl
  ·(try simp only [decide_eq_true_eq, decide_eq_false_iff_not, Bool.and_eq_true, Bool.or_eq_true, Bool.and_eq_false_iff, Bool.or_eq_false_iff, Bool.not_eq_true, Bool.not_eq_false, Bool.not_eq_true', Bool.not_eq_false', Bool.not_not, bne_iff_ne, beq_iff_eq] at h2)
   have hi2 : i = fs.length := by omega
   subst hi2
   rw [List.take_length]
   refine r_exit (r_seq (r_region ?_))
   refine r_p (p_makeFunc (first := []) (cap := [.tmp 6, .tmp 7, .tmp 8]) rfl rfl) rfl ?_
   refine r_defer (rest := []) rfl ?_
   refine r_seqD ?_
   refine r_regionD ?_
   refine r_p (p_move rfl) rfl (r_p (p_move rfl) rfl (r_p (p_nilCheck rfl) rfl ?_))
   refine r_p (p_field0 fo101_0 rfl) rfl ?_
   refine r_p (p_load1 t94 rfl rfl (g_row1 (k := 23) rfl rfl)) rfl ?_
   refine r_p (p_lookup Tryz.underlying94 keyS t63 rfl rfl (hm_own (k := 17) rfl) hm.main) rfl ?_
   refine r_more 0 4 rfl tfs_fns ?_
   refine r_more 0 5 rfl (tfs_f (ffind_mem hm.main)) ?_
   refine r_nilsl 30 (α := Int) (s := 1) (enc := eU) ?_
   refine r_nilown 22 (α := Int) (S := 36) (s := 1) (enc := eU) ?_
   refine r_conva (k := 23) (A' := row b23 101 (mR (⟨b23, b17, bu, bb, vin, ins, fs⟩ : En) (ms0 ins fuel) nilS 0 false 0)) rfl (fun _ _ h => by rw [mR_0]; exact h) ?_
   refine r_callE (xs := [.tmp 40, .tmp 45, .const (.slice Option.none 0 0)]) (hc_all (e := (⟨b23, b17, bu, bb, vin, ins, fs⟩ : En)) hm.vf g f 0 nilS [] (ms0 ins fuel) nilS r (ffind_mem hm.main) (by simp) (by simp) (by omega) (ms0_ok hi hf.2) ⟨0, Nat.zero_le _, rfl⟩ hr) cb45 [23, 22] [(false, 30), (false, 5), (false, 4), (true, 17), (true, 18), (true, 19), (false, 1)] [23, 22] [] rfl rfl rfl rfl rfl rfl rfl rfl (fun o _ => lX_len o) (fun _ _ _ => rfl) rfl (fun o ho => ?_)
   rcases o with ⟨a, s, vo2⟩ | ⟨z, c, vo2, l⟩
   rotate_left
   ·refine aft_pan ?_
    have hq : r = .err z := ho
    subst hq
    dsimp only [ruOf]
    refine r_nilown 20 (α := Int) (S := 36) (s := 1) (enc := eU) ?_
    refine r_nilown 21 (α := Int) (S := 36) (s := 1) (enc := eU) ?_
    refine r_norm [(6, .pointer (some ⟨b6, 0, none⟩)), (7, .pointer (some ⟨b7, 0, none⟩)), (8, .pointer (some ⟨b8, 0, none⟩))] [(6, row b6 23 [sv nilS]), (7, row b7 23 [sv nilS]), (8, row b8 40 [.int .i64 (chk fs)]), (20, own 36 1 eU (sv nilS) []), (21, own 36 1 eU (sv nilS) [])] [] rfl rfl rfl ?_
    show AtD [{ target := .fn (.func 44) #[.pointer (some ⟨b6, 0, none⟩), .pointer (some ⟨b7, 0, none⟩), .pointer (some ⟨b8, 0, none⟩)], args := #[] }] _ _ _ _ _ _ _ (bodyPostD Tryz.prog Tryz.f15 _ (.panic _))
    refine r_out1D (fun w hC => run1_pan b6 b7 b8 _ _ _ _ z w hC) cb44 (nilS, nilS) trivial rfl (rs3 (rv_cell1 t23 rfl rfl (g_row1 (k := 6) rfl rfl)) (rv_cell1 t23 rfl rfl (g_row1 (k := 7) rfl rfl)) (rv_cell1 t40 rfl rfl (g_row1 (k := 8) rfl rfl))) rfl [20, 21] [] rfl rfl rfl
   refine aft_ret ?_
   have hq : r = .ok a s := ho
   subst hq
   refine r_freeze 23 40 rfl (fun _ _ h => h) ?_
   refine r_more 40 41 rfl (row_sl (o := 5) (s := 1) (enc := eU) (n := 256) (l := (List.range 256).map s.mem) (by simp) (by unfold maxLen; omega) mC_sl) ?_
   refine r_nil ?_
   refine r_seqD ?_
   refine r_drawMD [0, 1, 2, 3, 4, 5, 6, 7, 8, 9, 10, 11] [0, 1, 2, 3, 4, 5, 6, 7, 8, 9, 10, 11] [47, 48, 49, 50, 51, 52, 53, 54, 55] _ rfl rfl rfl (stg_mem (V := [(0, 47, _), (1, 48, _), (2, 49, _), (3, 50, _), (4, 51, _), (5, 52, _), (6, 53, _), (7, 54, _)]) [0, 1, 2, 3, 4, 5, 6, 7] 8 [8, 7, 6, 5, 4] [] (fun v55 => []) rfl rfl (prs_cons (pri rfl (p_move rfl)) (prs_cons (pri rfl (p_nilCheck rfl)) (prs_cons (pri rfl (p_field0 fo101_4 rfl)) (prs_cons (pri rfl (p_load1 t23 rfl rfl (g_row1R (k := 40) rfl rfl))) (prs_cons (pri rfl (p_move rfl)) (prs_cons (pri rfl (p_nilCheck rfl)) (prs_cons (pri rfl (p_field0 fo101_5 rfl)) (prs_cons (pri rfl (p_slice_arr Tryz.underlying99 t36 rfl (by decide))) prs_nil)))))))) rfl rfl rfl rfl rfl rfl rfl rfl rfl rfl rfl (fun _ _ => rfl) rfl (ms_call (xs := [.tmp 54]) (clone_spec ⟨some ⟨b23, 5, none⟩, 256, 256⟩ ((List.range 256).map s.mem) (by simp)) cb46 [] [(false, 41)] [55] [] rfl rfl rfl rfl rfl rfl rfl rfl (fun _ _ => rfl) (fun _ _ _ => rfl)) (fun v55 _ => stg_mem0 [0, 1, 2, 3] 9 [9, 8, 7, 6, 5, 4, 3, 2, 1, 0] [] (fun _ => []) rfl rfl (prs_cons (pri rfl (p_move rfl)) (prs_cons (pri rfl (p_nilCheck rfl)) (prs_cons (pri rfl (p_field0 fo101_4 rfl)) (prs_cons (pri rfl (p_load1 t23 rfl rfl (g_row1R (k := 40) rfl rfl))) prs_nil)))) rfl rfl rfl rfl rfl rfl rfl rfl rfl (fun _ _ => rfl) rfl (ms_store_row (k := 6) t23 rfl rfl rfl rfl rfl rfl rfl rfl) (fun _ _ => stg_mem0 [] 10 [10, 9, 8, 7, 6, 5, 4, 3, 2, 1, 0] [] (fun _ => []) rfl rfl prs_nil rfl rfl rfl rfl rfl rfl rfl rfl rfl (fun _ _ => rfl) rfl (ms_store_row (k := 7) t23 rfl rfl rfl rfl rfl rfl rfl rfl) (fun _ _ => stg_mem0 [] 11 [11, 10, 9, 8, 7, 6, 5, 4, 3, 2, 1, 0] [] (fun _ => []) rfl rfl prs_nil rfl rfl rfl rfl rfl rfl rfl rfl rfl (fun _ _ => rfl) rfl (ms_store_row (k := 8) t40 rfl rfl rfl rfl rfl rfl rfl rfl) (fun _ _ => stg_end [] rfl rfl prs_nil rfl rfl rfl ?_)))))
   refine r_cretD ?_
   refine r_ret1D (fun w hC => run1_ret b6 b7 b8 w hC) cb44 (vo2, v55) trivial rfl (rs3 (rv_cell1 t23 rfl rfl (g_row1 (k := 6) rfl rfl)) (rv_cell1 t23 rfl rfl (g_row1 (k := 7) rfl rfl)) (rv_cell1 t40 rfl rfl (g_row1 (k := 8) rfl rfl))) rfl [22, 55] [] rfl rfl rfl
theorem run_spec (vp vin : SV) (fs : List Tf) (ins : List Int) (fuel : Int) (hg : GP fs) (hi : ∀ x ∈ ins, oW x) (hil : ins.length ≤ 1000000) (hf : -9000000000000000000 ≤ fuel ∧ fuel ≤ 1000000000000) (ru : Ru) (hru : RunIs fs ins fuel ru) :
  Spec Tryz.prog 15 [.agg #[sv vp], sv vin, .int .i64 fuel] [] [tfsA vp fs, sl 1 eU (sv vin) ins] (X := SV × SV) (fun _ => True) (fun x => .tuple #[sv x.1, sv x.2, .int .i64 ru.err]) (fun x => [own 36 1 eU (sv x.1) ru.out, own 36 1 eU (sv x.2) ru.mem]) (fun _ => []) := by
 cases hru with
 | bad h => exact (run_bad vp vin fs ins fuel hg hi hil hf h).toSpec _ fun _ _ => rfl
 | run f g r h hfm he =>
  obtain ⟨f2, hf2⟩ := chk_fine hg h
  have : f2 = f := by
   have := hf2.main
   rw [hfm] at this
   exact (Option.some.inj this).symm
  subst this
  exact (run_ok vp vin fs ins fuel hg hi hil hf h f2 hf2 g r he).toSpec _ fun _ _ => rfl
end Go.Proofs.YtdcbbkpdlcojfaaGreat
namespace Go.Proofs.YtdcbbkpdlcojfaaGreat
set_option linter.unusedVariables false
/-- The entries of some operations, in the order of their numbers. -/
def vsel (is : List Nat) (V : Vals) : Vals := is.flatMap fun i => V.filter fun p => Nat.beq i p.1
theorem vpick_in {is : List Nat} : ∀ {V : Vals} {p : Nat × Nat × Value}, p ∈ vpick is V → p ∈ V ∧ is.any (Nat.beq p.1) = true
 | [], p, h => by simp [vpick] at h
 | (i, d, v) :: r, p, h => by
  simp only [vpick] at h
  cases hb : is.any (Nat.beq i) with
  | true =>
   rw [hb] at h
   rcases List.mem_cons.1 h with rfl | h
   ·exact ⟨List.mem_cons_self .., hb⟩
   ·exact ⟨List.mem_cons_of_mem _ (vpick_in h).1, (vpick_in h).2⟩
  | false =>
   rw [hb] at h
   exact ⟨List.mem_cons_of_mem _ (vpick_in h).1, (vpick_in h).2⟩
section
variable {P : Program} {N : Nat} {w0 : World} {M H : Nat → Prop} {E : Env} {Γ R : Ctx} {Q : Exit → Act → World → Prop}
theorem prs_all {l : List Oper} {V : Vals} : ∀ {I : Vals}, (∀ i d v, (i, d, v) ∈ I → PRi P N w0 M H E Γ R l V i d v) → PRs P N w0 M H E Γ R l V I
 | [], _ => trivial
 | (i, d, v) :: r, h => ⟨h i d v (List.mem_cons_self ..), prs_all fun i d v hm => h i d v (List.mem_cons_of_mem _ hm)⟩
theorem prs_sel {l : List Oper} {V I : Vals} {is : List Nat} (h0 : vsel is V = I) (h : PRs P N w0 M H E Γ R l V I) : PRs P N w0 M H E Γ R l V (vpick is V) := prs_all fun i d v hm => by
 obtain ⟨h1, h2⟩ := vpick_in hm
 refine h.get i d v ?_
 rw [← h0]
 obtain ⟨j, hj1, hj2⟩ := List.any_eq_true.1 h2
 refine List.mem_flatMap.2 ⟨j, hj1, List.mem_filter.2 ⟨h1, ?_⟩⟩
 have := Nat.eq_of_beq_eq_true hj2
 dsimp only at this ⊢
 rw [this]
 exact Nat.beq_refl _
theorem stg_memJ {l : List Oper} {V : Vals} {C : List Nat} (is : List Nat) {I : Vals} (c : Nat) (C' Jx : List Nat) {X : Type} {φ : X → Prop} {v : X → Value} {Γ' R' : X → Ctx} {d : Nat} {o : Oper} (J' : X → Vals) (hI0 : vsel is V = I) (hst : stOk N E V = true) (hI : PRs P N w0 M H E Γ R l V I) (hcov : covOk V is C = true)
  (hcls : clsOk l (vidx V ++ C) (some c) = true) (ho : l[c]? = some o) (hdst : o.dst = some d) (hgd : o.guard = none) (hd : Nat.blt d N = true) (hdE : eget E d = none) (hdV : inB (vslots V) d = false) (hcV : inB (vidx V ++ C) c = false)
  (hcl : clOk l C c [] C' = true) (hCC0 : C.all (inB C') = true) (hJ : ∀ x, φ x → vidx (J' x) = Jx) (hJx : Jx.all (fun j => !(inB (vidx V ++ C) j) && !(Nat.beq j c)) = true) (hms : MS P N w0 M H (vpre (preds o) V ++ E) Γ R o φ v Γ' R')
  (hJp : ∀ x, φ x → PRs P N w0 M H E (Γ' x) (R' x) l (J' x ++ (c, d, v x) :: V) (J' x))
  (k : ∀ x, φ x → Stg P N w0 M H E (Γ' x) (R' x) l Q (J' x ++ (c, d, v x) :: V) C') : Stg P N w0 M H E Γ R l Q V C :=
 stg_mem is c C' Jx J' rfl hst (prs_sel hI0 hI) hcov hcls ho hdst hgd hd hdE hdV hcV hcl hCC0 hJ hJx hms k
theorem stg_mem0J {l : List Oper} {V : Vals} {C : List Nat} (is : List Nat) {I : Vals} (c : Nat) (C' Jx : List Nat) {X : Type} {φ : X → Prop} {v : X → Value} {Γ' R' : X → Ctx} {o : Oper} (J' : X → Vals) (hI0 : vsel is V = I) (hst : stOk N E V = true) (hI : PRs P N w0 M H E Γ R l V I) (hcov : covOk V is C = true)
  (hcls : clsOk l (vidx V ++ C) (some c) = true) (ho : l[c]? = some o) (hdst : o.dst = none) (hgd : o.guard = none) (hcC' : inB C' c = true) (hcV : inB (vidx V ++ C) c = false)
  (hcl : clOk l C c [] C' = true) (hCC0 : C.all (inB C') = true) (hJ : ∀ x, φ x → vidx (J' x) = Jx) (hJx : Jx.all (fun j => !(inB (vidx V ++ C) j) && !(Nat.beq j c)) = true) (hms : MS P N w0 M H (vpre (preds o) V ++ E) Γ R o φ v Γ' R')
  (hJp : ∀ x, φ x → PRs P N w0 M H E (Γ' x) (R' x) l (J' x ++ V) (J' x))
  (k : ∀ x, φ x → Stg P N w0 M H E (Γ' x) (R' x) l Q (J' x ++ V) C') : Stg P N w0 M H E Γ R l Q V C :=
 stg_mem0 is c C' Jx J' rfl hst (prs_sel hI0 hI) hcov hcls ho hdst hgd hcC' hcV hcl hCC0 hJ hJx hms k
theorem nx_memJ {l : List Oper} {V : Vals} {C : List Nat} (c : Nat) (C' Jx : List Nat) {X : Type} {φ : X → Prop} {v : X → Value} {Γ' R' : X → Ctx} {d : Nat} {o : Oper} (J' : X → Vals)
  (ho : l[c]? = some o) (hdst : o.dst = some d) (hgd : o.guard = none) (hd : Nat.blt d N = true) (hdE : eget E d = none) (hdV : inB (vslots V) d = false) (hcV : inB (vidx V ++ C) c = false)
  (hcl : clOk l C c [] C' = true) (hCC0 : C.all (inB C') = true) (hJ : ∀ x, φ x → vidx (J' x) = Jx) (hJx : Jx.all (fun j => !(inB (vidx V ++ C) j) && !(Nat.beq j c)) = true) (hms : MS P N w0 M H (vpre (preds o) V ++ E) Γ R o φ v Γ' R')
  (hJp : ∀ x, φ x → PRs P N w0 M H E (Γ' x) (R' x) l (J' x ++ (c, d, v x) :: V) (J' x))
  (k : ∀ x, φ x → Stg P N w0 M H E (Γ' x) (R' x) l Q (J' x ++ (c, d, v x) :: V) C') : Nx P N w0 M H E Γ R l Q V C c :=
 nx_mem c C' Jx J' ho hdst hgd hd hdE hdV hcV hcl hCC0 hJ hJx hms k
theorem stg_altsJ {l : List Oper} {V : Vals} {C : List Nat} (is : List Nat) {I : Vals} (hI0 : vsel is V = I) (hst : stOk N E V = true) (hI : PRs P N w0 M H E Γ R l V I) (hcov : covOk V is C = true) (cs : List Nat)
  (hcls : clsOkL l (vidx V ++ C) cs = true) (hne : (match cs with | c :: _ => Nat.blt c l.length && !(inB (vidx V ++ C) c) | [] => false) = true) (hmem : NxAll P N w0 M H E Γ R l Q V C cs) :
  Stg P N w0 M H E Γ R l Q V C :=
 stg_alts is rfl hst (prs_sel hI0 hI) hcov cs hcls hne hmem
theorem stg_endJ {l : List Oper} {V : Vals} {C : List Nat} (is : List Nat) {I : Vals} (hI0 : vsel is V = I) (hst : stOk N E V = true) (hI : PRs P N w0 M H E Γ R l V I) (hcov : covOk V is C = true) (hcls : clsOk l (vidx V ++ C) none = true)
  (hall : (vidx V).all (fun i => Nat.blt i l.length) = true) (k : At N w0 M H (venv V ++ E) Γ R (Q .normal)) : Stg P N w0 M H E Γ R l Q V C :=
 stg_end is rfl hst (prs_sel hI0 hI) hcov hcls hall k
end
end Go.Proofs.YtdcbbkpdlcojfaaGreat
namespace Go.Proofs.YtdcbbkpdlcojfaaGreat
set_option linter.unusedSimpArgs false
set_option linter.unusedVariables false
open Go.RowKit
abbrev tNum (n : Int) : Tx := .mk 1 n oNil nilS []
abbrev tName (s : ByteArray) : Tx := .mk 2 0 s nilS []
abbrev tIn : Tx := .mk 5 0 oNil nilS []
abbrev tBin (op : ByteArray) (v : SV) (a b : Tx) : Tx := .mk 7 0 op v [a, b]
abbrev yOut (v : SV) (t : Tx) : Ty := .mk 7 oNil v [t] nilS [] nilS []
abbrev fMain (vb : SV) (l : List Ty) : Tf := ⟨nMain, nilS, [], vb, l⟩
def nX1 : ByteArray := ⟨#[120]⟩
set_option maxRecDepth 100000 in
theorem num_spec (n : Int) :
  Spec Tryz.prog 22 [.int .u32 n] [] [] (X := Unit) (fun _ => True) (fun _ => xV (tNum n)) (fun _ => []) (fun _ => []) := by
 refine r_enter Tryz.func22 rfl Tryz.ntmps22 rfl fun w0 M H => ?_
 refine r_seq (r_region ?_)
 refine r_alloc t48 rfl rfl fun b2 => ?_
 refine r_nil (r_seq (r_region (r_p (p_move rfl) rfl ?_)))
 refine r_p (p_build (parts := [(0, .const (.int .i64 1)), (1, .tmp 3)]) t48 pl48 rfl rfl) rfl ?_
 refine r_store_all (k := 2) t48 rfl rfl rfl rfl rfl rfl ?_
 refine r_nil (r_cret ?_)
 refine r_ret () trivial rfl (rs1 (rv_cellA t48 rfl rfl rfl (g_all (k := 2) rfl))) rfl [] [] rfl rfl rfl
set_option maxRecDepth 100000 in
theorem name_spec (s : ByteArray) :
  Spec Tryz.prog 23 [.string s] [] [] (X := Unit) (fun _ => True) (fun _ => xV (tName s)) (fun _ => []) (fun _ => []) := by
 refine r_enter Tryz.func23 rfl Tryz.ntmps23 rfl fun w0 M H => ?_
 refine r_seq (r_region ?_)
 refine r_alloc t48 rfl rfl fun b2 => ?_
 refine r_nil (r_seq (r_region (r_p (p_move rfl) rfl ?_)))
 refine r_p (p_build (parts := [(0, .const (.int .i64 2)), (2, .tmp 3)]) t48 pl48 rfl rfl) rfl ?_
 refine r_store_all (k := 2) t48 rfl rfl rfl rfl rfl rfl ?_
 refine r_nil (r_cret ?_)
 refine r_ret () trivial rfl (rs1 (rv_cellA t48 rfl rfl rfl (g_all (k := 2) rfl))) rfl [] [] rfl rfl rfl
set_option maxRecDepth 100000 in
theorem output_spec (t : Tx) :
  Spec Tryz.prog 19 [xV t] [] [] (X := SV) (fun _ => True) (fun v => yV (yOut v t)) (fun v => [own 48 4 eTx (sv v) [t]]) (fun _ => []) := by
 refine r_enter Tryz.func19 rfl Tryz.ntmps19 rfl fun w0 M H => ?_
 refine r_seq (r_region ?_)
 refine r_boxA rfl rfl fun b1 => ?_
 refine r_alloc t53 rfl rfl fun b2 => ?_
 refine r_nil (r_seq (r_region ?_))
 refine r_p (p_loadA t48 rfl rfl rfl (g_all (k := 1) rfl)) rfl ?_
 refine r_bslice1 eTx t Tryz.underlying46 t48 rfl (by decide) (by decide) rfl rfl rfl rfl fun v4 => ?_
 refine r_p (p_build (parts := [(0, .const (.int .i64 7)), (2, .tmp 4)]) t53 pl53 rfl rfl) rfl ?_
 refine r_store_all (k := 2) t53 rfl rfl rfl rfl rfl rfl ?_
 refine r_nil (r_cret ?_)
 refine r_ret v4 trivial rfl (rs1 (rv_cellA t53 rfl rfl rfl (g_all (k := 2) rfl))) rfl [4] [] rfl rfl rfl
set_option maxRecDepth 100000 in
theorem main_spec (vb : SV) (l : List Ty) :
  Spec Tryz.prog 18 [sv vb] [] [] (X := SV) (fun _ => True) (fun v => .agg #[sv v]) (fun v => [own 63 3 eTf (sv v) [fMain vb l]]) (fun _ => []) := by
 refine r_enter Tryz.func18 rfl Tryz.ntmps18 rfl fun w0 M H => ?_
 refine r_seq (r_region ?_)
 refine r_alloc t29 rfl rfl fun b2 => ?_
 refine r_nil (r_seq (r_region (r_p (p_move rfl) rfl ?_)))
 refine r_p (p_build (parts := [(0, .const (.string (ByteArray.mk #[109, 97, 105, 110]))), (2, .tmp 3)]) t63 pl63 rfl rfl) rfl ?_
 refine r_bslice1 eTf (fMain vb l) Tryz.underlying27 t63 rfl (by decide) (by decide) rfl rfl rfl rfl fun v5 => ?_
 refine r_p (p_build (parts := [(0, .tmp 5)]) t29 pl29 rfl rfl) rfl ?_
 refine r_store_all (k := 2) t29 rfl rfl rfl rfl rfl rfl ?_
 refine r_nil (r_cret ?_)
 refine r_ret v5 trivial rfl (rs1 (rv_cellA t29 rfl rfl rfl (g_all (k := 2) rfl))) rfl [5] [] rfl rfl rfl
set_option maxRecDepth 100000 in
theorem binary_spec9 (op : ByteArray) (a b : Tx) :
  Spec Tryz.prog 26 [.string op, xV a, xV b] [] [] (X := SV) (fun _ => True) (fun v => xV (tBin op v a b)) (fun v => [own 48 4 eTx (sv v) [a, b]]) (fun _ => []) := by
 refine r_enter Tryz.func26 rfl Tryz.ntmps26 rfl fun w0 M H => ?_
 refine r_seq (r_region ?_)
 refine r_boxA rfl rfl fun b4 => ?_
 refine r_boxA rfl rfl fun b5 => ?_
 refine r_alloc t48 rfl rfl fun b6 => ?_
 refine r_nil (r_seq (r_region (r_p (p_move rfl) rfl ?_)))
 refine r_p (p_loadA t48 rfl rfl rfl (g_all (k := 4) rfl)) rfl ?_
 refine r_p (p_loadA t48 rfl rfl rfl (g_all (k := 5) rfl)) rfl ?_
 refine r_bslice eTx [a, b] (parts := [(0, .tmp 8), (1, .tmp 9)]) Tryz.underlying46 t48 rfl (by decide) (by intro _; rfl) rfl (by decide) (by decide) rfl rfl rfl rfl fun v10 => ?_
 refine r_p (p_build (parts := [(0, .const (.int .i64 7)), (2, .tmp 7), (3, .tmp 10)]) t48 pl48 rfl rfl) rfl ?_
 refine r_store_all (k := 6) t48 rfl rfl rfl rfl rfl rfl ?_
 refine r_nil (r_cret ?_)
 refine r_ret v10 trivial rfl (rs1 (rv_cellA t48 rfl rfl rfl (g_all (k := 6) rfl))) rfl [10] [] rfl rfl rfl
/-- The program that counts down. -/
abbrev lpWhile (v1 v2 v3 v4 v5 : SV) : Ty := .mk 5 oNil v1 [tName nX1] v2 [yOut v3 (tName nX1), .mk 2 nX1 v4 [tBin oSub v5 (tName nX1) (tNum 1)] nilS [] nilS []] nilS []
abbrev lpBody (n : Int) (v0 v1 v2 v3 v4 v5 : SV) : List Ty := [.mk 1 nX1 v0 [tNum n] nilS [] nilS [], lpWhile v1 v2 v3 v4 v5]
abbrev lpP (n : Int) (v0 v1 v2 v3 v4 v5 v6 : SV) : List Tf := [fMain v6 (lpBody n v0 v1 v2 v3 v4 v5)]
structure Lv where
 v0 : SV
 v1 : SV
 v2 : SV
 v3 : SV
 v4 : SV
 v5 : SV
 v6 : SV
 v7 : SV
abbrev Lv.p (x : Lv) (n : Int) : List Tf := lpP n x.v0 x.v1 x.v2 x.v3 x.v4 x.v5 x.v6
theorem loop_all {n : Int} {v0 v1 v2 v3 v4 v5 v6 v7 : SV} (w : World) (F : Nat → Prop) (h : AllIn w F [own 48 4 eTx (sv v0) [tNum n], own 48 4 eTx (sv v1) [tName nX1], own 53 5 eTy (sv v2) [yOut v3 (tName nX1), .mk 2 nX1 v4 [tBin oSub v5 (tName nX1) (tNum 1)] nilS [] nilS []], own 48 4 eTx (sv v3) [tName nX1],
   own 48 4 eTx (sv v4) [tBin oSub v5 (tName nX1) (tNum 1)], own 48 4 eTx (sv v5) [tName nX1, tNum 1], own 53 5 eTy (sv v6) (lpBody n v0 v1 v2 v3 v4 v5), own 63 3 eTf (sv v7) (lpP n v0 v1 v2 v3 v4 v5 v6)]) : (tfsA v7 (lpP n v0 v1 v2 v3 v4 v5 v6)).pred w F := by
 obtain ⟨⟨_, a0, b0⟩, ⟨_, a1, b1⟩, ⟨_, a2, b2⟩, ⟨_, a3, b3⟩, ⟨_, a4, b4⟩, ⟨_, a5, b5⟩, ⟨_, a6, b6⟩, ⟨_, a7, b7⟩, _⟩ := h
 have hx : TxIn w F (tName nX1) := ⟨nil_in, trivial⟩
 have hn : ∀ n, TxIn w F (tNum n) := fun _ => ⟨nil_in, trivial⟩
 have hb : TxIn w F (tBin oSub v5 (tName nX1) (tNum 1)) := ⟨own_in a5 b5, hx, hn 1, trivial⟩
 have hny : SlIn' w F 5 eTy (sv nilS) [] ∧ TysIn w F [] := ⟨nil_in, trivial⟩
 have y1 : TyIn w F (.mk 1 nX1 v0 [tNum n] nilS [] nilS []) := ⟨⟨own_in a0 b0, hn n, trivial⟩, hny, hny⟩
 have y2 : TyIn w F (yOut v3 (tName nX1)) := ⟨⟨own_in a3 b3, hx, trivial⟩, hny, hny⟩
 have y3 : TyIn w F (.mk 2 nX1 v4 [tBin oSub v5 (tName nX1) (tNum 1)] nilS [] nilS []) := ⟨⟨own_in a4 b4, hb, trivial⟩, hny, hny⟩
 have y4 : TyIn w F (lpWhile v1 v2 v3 v4 v5) := ⟨⟨own_in a1 b1, hx, trivial⟩, ⟨own_in a2 b2, y2, y3, trivial⟩, hny⟩
 refine ⟨own_in a7 b7, fun f hf => ?_⟩
 rw [List.mem_singleton.1 hf]
 exact ⟨nil_in, own_in a6 b6, y1, y4, trivial⟩
set_option maxHeartbeats 4000000 in
set_option maxRecDepth 100000 in
theorem loop_spec (n : Int) :
  Spec Tryz.prog 27 [.int .u32 n] [] [] (X := Lv) (fun _ => True) (fun x => .agg #[sv x.v7]) (fun x => [tfsA x.v7 (x.p n)]) (fun _ => []) := by
 refine r_enter Tryz.func27 rfl Tryz.ntmps27 rfl fun w0 M H => ?_
 refine r_seq (r_region ?_)
 refine r_alloc t29 rfl rfl fun b2 => ?_
 refine r_nil (r_seq (r_region ?_))
 refine r_call (xs := [.const (.string (ByteArray.mk #[120]))]) (name_spec nX1) cb23 [] [] [] [] rfl rfl rfl rfl rfl rfl rfl rfl (fun _ _ => rfl) (fun _ _ _ => rfl) rfl (fun _ _ => ?_)
 refine r_alloc t48 rfl rfl fun b3 => ?_
 refine r_store_all (k := 3) t48 rfl rfl rfl rfl rfl rfl ?_
 refine r_nil ?_
 refine r_seq_cut (X := Nat × SV × SV) (fun _ => True) (fun y => [(0, .int .u32 n), (2, .pointer (some ⟨b2, 0, none⟩)), (3, .pointer (some ⟨b3, 0, none⟩)), (4, .pointer (some ⟨y.1, 0, none⟩))]) (fun y => [(2, row b2 29 [.slice none 0 0]), (3, row b3 48 (eTx (tName nX1))), (4, row y.1 53 (eTy (.mk 2 nX1 y.2.2 [tBin oSub y.2.1 (tName nX1) (tNum 1)] nilS [] nilS []))), (8, own 48 4 eTx (sv y.2.1) [tName nX1, tNum 1]), (9, own 48 4 eTx (sv y.2.2) [tBin oSub y.2.1 (tName nX1) (tNum 1)])]) (fun y => []) ?_ (fun ⟨b4, v8, v9⟩ _ => ?_)
 ·refine r_draw [6, 7, 8, 9, 10, 4] _ rfl (stg_alts (V := [(0, 6, _)]) [0] rfl rfl (prs_cons (pri rfl (p_loadA t48 rfl rfl rfl (g_all (k := 3) rfl))) prs_nil) rfl [1, 5] rfl rfl (nx_cons (nx_mem 1 [1] [] (fun _ => []) rfl rfl rfl rfl rfl rfl rfl rfl rfl (fun _ _ => rfl) rfl (ms_call (xs := [.const (.int .u32 1)]) (num_spec 1) cb22 [] [] [] [] rfl rfl rfl rfl rfl rfl rfl rfl (fun _ _ => rfl) (fun _ _ _ => rfl)) (fun _ _ => stg_alts [0] rfl rfl (prs_cons (pri rfl (p_loadA t48 rfl rfl rfl (g_all (k := 3) rfl))) prs_nil) rfl [2, 5] rfl rfl (nx_cons (nx_mem 2 [2, 1, 0] [] (fun v8 => []) rfl rfl rfl rfl rfl rfl rfl rfl rfl (fun _ _ => rfl) rfl (ms_call (xs := [.const (.string (ByteArray.mk #[45])), .tmp 6, .tmp 7]) (binary_spec9 oSub (tName nX1) (tNum 1)) cb26 [] [] [8] [] rfl rfl rfl rfl rfl rfl rfl rfl (fun _ _ => rfl) (fun _ _ _ => rfl)) (fun v8 _ => stg_alts [] rfl rfl prs_nil rfl [3, 5] rfl rfl (nx_cons (nx_mem 3 [3, 2, 1, 0] [4] (fun v9 => [(4, 10, _)]) rfl rfl rfl rfl rfl rfl rfl rfl rfl (fun _ _ => rfl) rfl (ms_bslice1 eTx (tBin oSub v8 (tName nX1) (tNum 1)) Tryz.underlying46 t48 rfl (by decide) (by decide) rfl rfl rfl) (fun v9 _ => stg_mem [4] 5 [5, 3, 2, 1, 0] [] (fun b4 => []) rfl rfl (prs_cons (pri rfl (p_build (parts := [(0, .const (.int .i64 2)), (1, .const (.string (ByteArray.mk #[120]))), (2, .tmp 9)]) t53 pl53 rfl rfl)) prs_nil) rfl rfl rfl rfl rfl rfl rfl rfl rfl rfl rfl (fun _ _ => rfl) rfl (ms_alloc t53 rfl) (fun b4 _ => stg_mem0 [4] 6 [6, 5, 4, 3, 2, 1, 0] [] (fun _ => []) rfl rfl (prs_cons (pri rfl (p_build (parts := [(0, .const (.int .i64 2)), (1, .const (.string (ByteArray.mk #[120]))), (2, .tmp 9)]) t53 pl53 rfl rfl)) prs_nil) rfl rfl rfl rfl rfl rfl rfl rfl rfl (fun _ _ => rfl) rfl (ms_store_all (k := 4) t53 rfl rfl rfl rfl rfl rfl) (fun _ _ => stg_end [] rfl rfl prs_nil rfl rfl rfl ?_)))) (nx_cons (nx_mem 5 [5, 2, 1, 0] [] (fun b4 => []) rfl rfl rfl rfl rfl rfl rfl rfl rfl (fun _ _ => rfl) rfl (ms_alloc t53 rfl) (fun b4 _ => stg_mem [] 3 [5, 3, 2, 1, 0] [4] (fun v9 => [(4, 10, _)]) rfl rfl prs_nil rfl rfl rfl rfl rfl rfl rfl rfl rfl rfl rfl (fun _ _ => rfl) rfl (ms_bslice1 eTx (tBin oSub v8 (tName nX1) (tNum 1)) Tryz.underlying46 t48 rfl (by decide) (by decide) rfl rfl rfl) (fun v9 _ => stg_mem0 [4] 6 [6, 5, 4, 3, 2, 1, 0] [] (fun _ => []) rfl rfl (prs_cons (pri rfl (p_build (parts := [(0, .const (.int .i64 2)), (1, .const (.string (ByteArray.mk #[120]))), (2, .tmp 9)]) t53 pl53 rfl rfl)) prs_nil) rfl rfl rfl rfl rfl rfl rfl rfl rfl (fun _ _ => rfl) rfl (ms_store_all (k := 4) t53 rfl rfl rfl rfl rfl rfl) (fun _ _ => stg_end [] rfl rfl prs_nil rfl rfl rfl ?_)))) nx_nil)))) (nx_cons (nx_mem 5 [5, 1] [] (fun b4 => []) rfl rfl rfl rfl rfl rfl rfl rfl rfl (fun _ _ => rfl) rfl (ms_alloc t53 rfl) (fun b4 _ => stg_mem [0] 2 [5, 2, 1, 0] [] (fun v8 => []) rfl rfl (prs_cons (pri rfl (p_loadA t48 rfl rfl rfl (g_all (k := 3) rfl))) prs_nil) rfl rfl rfl rfl rfl rfl rfl rfl rfl rfl rfl (fun _ _ => rfl) rfl (ms_call (xs := [.const (.string (ByteArray.mk #[45])), .tmp 6, .tmp 7]) (binary_spec9 oSub (tName nX1) (tNum 1)) cb26 [] [] [8] [] rfl rfl rfl rfl rfl rfl rfl rfl (fun _ _ => rfl) (fun _ _ _ => rfl)) (fun v8 _ => stg_mem [] 3 [5, 3, 2, 1, 0] [4] (fun v9 => [(4, 10, _)]) rfl rfl prs_nil rfl rfl rfl rfl rfl rfl rfl rfl rfl rfl rfl (fun _ _ => rfl) rfl (ms_bslice1 eTx (tBin oSub v8 (tName nX1) (tNum 1)) Tryz.underlying46 t48 rfl (by decide) (by decide) rfl rfl rfl) (fun v9 _ => stg_mem0 [4] 6 [6, 5, 4, 3, 2, 1, 0] [] (fun _ => []) rfl rfl (prs_cons (pri rfl (p_build (parts := [(0, .const (.int .i64 2)), (1, .const (.string (ByteArray.mk #[120]))), (2, .tmp 9)]) t53 pl53 rfl rfl)) prs_nil) rfl rfl rfl rfl rfl rfl rfl rfl rfl (fun _ _ => rfl) rfl (ms_store_all (k := 4) t53 rfl rfl rfl rfl rfl rfl) (fun _ _ => stg_end [] rfl rfl prs_nil rfl rfl rfl ?_))))) nx_nil)))) (nx_cons (nx_mem 5 [5] [] (fun b4 => []) rfl rfl rfl rfl rfl rfl rfl rfl rfl (fun _ _ => rfl) rfl (ms_alloc t53 rfl) (fun b4 _ => stg_mem [0] 1 [5, 1] [] (fun _ => []) rfl rfl (prs_cons (pri rfl (p_loadA t48 rfl rfl rfl (g_all (k := 3) rfl))) prs_nil) rfl rfl rfl rfl rfl rfl rfl rfl rfl rfl rfl (fun _ _ => rfl) rfl (ms_call (xs := [.const (.int .u32 1)]) (num_spec 1) cb22 [] [] [] [] rfl rfl rfl rfl rfl rfl rfl rfl (fun _ _ => rfl) (fun _ _ _ => rfl)) (fun _ _ => stg_mem [0] 2 [5, 2, 1, 0] [] (fun v8 => []) rfl rfl (prs_cons (pri rfl (p_loadA t48 rfl rfl rfl (g_all (k := 3) rfl))) prs_nil) rfl rfl rfl rfl rfl rfl rfl rfl rfl rfl rfl (fun _ _ => rfl) rfl (ms_call (xs := [.const (.string (ByteArray.mk #[45])), .tmp 6, .tmp 7]) (binary_spec9 oSub (tName nX1) (tNum 1)) cb26 [] [] [8] [] rfl rfl rfl rfl rfl rfl rfl rfl (fun _ _ => rfl) (fun _ _ _ => rfl)) (fun v8 _ => stg_mem [] 3 [5, 3, 2, 1, 0] [4] (fun v9 => [(4, 10, _)]) rfl rfl prs_nil rfl rfl rfl rfl rfl rfl rfl rfl rfl rfl rfl (fun _ _ => rfl) rfl (ms_bslice1 eTx (tBin oSub v8 (tName nX1) (tNum 1)) Tryz.underlying46 t48 rfl (by decide) (by decide) rfl rfl rfl) (fun v9 _ => stg_mem0 [4] 6 [6, 5, 4, 3, 2, 1, 0] [] (fun _ => []) rfl rfl (prs_cons (pri rfl (p_build (parts := [(0, .const (.int .i64 2)), (1, .const (.string (ByteArray.mk #[120]))), (2, .tmp 9)]) t53 pl53 rfl rfl)) prs_nil) rfl rfl rfl rfl rfl rfl rfl rfl rfl (fun _ _ => rfl) rfl (ms_store_all (k := 4) t53 rfl rfl rfl rfl rfl rfl) (fun _ _ => stg_end [] rfl rfl prs_nil rfl rfl rfl ?_)))))) nx_nil)))
  ·refine r_here (b4, v8, v9) trivial rfl rfl rfl
  ·refine r_here (b4, v8, v9) trivial rfl rfl rfl
  ·refine r_here (b4, v8, v9) trivial rfl rfl rfl
  ·refine r_here (b4, v8, v9) trivial rfl rfl rfl
 ·dsimp only
  refine r_seq ?_
  refine r_draw [11, 12, 13, 14, 15, 16, 17, 18, 19, 20, 21, 22, 23] _ rfl (stg_altsJ (V := [(0, 11, _), (4, 15, _), (6, 17, _), (8, 19, _)]) [0, 4, 6, 8] rfl rfl (prs_cons (pri rfl (p_move rfl)) (prs_cons (pri rfl (p_loadA t48 rfl rfl rfl (g_all (k := 3) rfl))) (prs_cons (pri rfl (p_loadA t48 rfl rfl rfl (g_all (k := 3) rfl))) (prs_cons (pri rfl (p_loadA t53 rfl rfl rfl (g_all (k := 4) rfl))) prs_nil)))) rfl [1, 5] rfl rfl (nx_cons (nx_memJ 1 [1, 0] [] (fun _ => []) rfl rfl rfl rfl rfl rfl rfl rfl rfl (fun _ _ => rfl) rfl (ms_call (xs := [.tmp 11]) (num_spec n) cb22 [] [] [] [] rfl rfl rfl rfl rfl rfl rfl rfl (fun _ _ => rfl) (fun _ _ _ => rfl)) (fun _ _ => prs_nil) (fun _ _ => ?_)) (nx_cons (nx_memJ 5 [5, 4] [] (fun v16 => []) rfl rfl rfl rfl rfl rfl rfl rfl rfl (fun _ _ => rfl) rfl (ms_bslice1 eTx (tName nX1) Tryz.underlying46 t48 rfl (by decide) (by decide) rfl rfl rfl) (fun v16 _ => prs_nil) (fun v16 _ => ?_)) nx_nil)))
  all_goals first | refine stg_altsJ [4, 6, 8] rfl rfl (prs_cons (pri rfl (p_loadA t48 rfl rfl rfl (g_all (k := 3) rfl))) (prs_cons (pri rfl (p_loadA t48 rfl rfl rfl (g_all (k := 3) rfl))) (prs_cons (pri rfl (p_loadA t53 rfl rfl rfl (g_all (k := 4) rfl))) prs_nil))) rfl [2, 5, 7] rfl rfl (nx_cons (nx_memJ 2 [2, 1, 0] [3] (fun v13 => [(3, 14, _)]) rfl rfl rfl rfl rfl rfl rfl rfl rfl (fun _ _ => rfl) rfl (ms_bslice1 eTx (tNum n) Tryz.underlying46 t48 rfl (by decide) (by decide) rfl rfl rfl) (fun v13 _ => (prs_cons (pri rfl (p_build (parts := [(0, .const (.int .i64 1)), (1, .const (.string (ByteArray.mk #[120]))), (2, .tmp 13)]) t53 pl53 rfl rfl)) prs_nil)) (fun v13 _ => ?_)) (nx_cons (nx_memJ 5 [5, 4, 1, 0] [] (fun v16 => []) rfl rfl rfl rfl rfl rfl rfl rfl rfl (fun _ _ => rfl) rfl (ms_bslice1 eTx (tName nX1) Tryz.underlying46 t48 rfl (by decide) (by decide) rfl rfl rfl) (fun v16 _ => prs_nil) (fun v16 _ => ?_)) (nx_cons (nx_memJ 7 [7, 6, 1, 0] [] (fun v18 => []) rfl rfl rfl rfl rfl rfl rfl rfl rfl (fun _ _ => rfl) rfl (ms_call (xs := [.tmp 17]) (output_spec (tName nX1)) cb19 [] [] [18] [] rfl rfl rfl rfl rfl rfl rfl rfl (fun _ _ => rfl) (fun _ _ _ => rfl)) (fun v18 _ => prs_nil) (fun v18 _ => ?_)) nx_nil))) | refine stg_memJ [0, 6, 8] 1 [5, 4, 1, 0] [] (fun _ => []) rfl rfl (prs_cons (pri rfl (p_move rfl)) (prs_cons (pri rfl (p_loadA t48 rfl rfl rfl (g_all (k := 3) rfl))) (prs_cons (pri rfl (p_loadA t53 rfl rfl rfl (g_all (k := 4) rfl))) prs_nil))) rfl rfl rfl rfl rfl rfl rfl rfl rfl rfl rfl (fun _ _ => rfl) rfl (ms_call (xs := [.tmp 11]) (num_spec n) cb22 [] [] [] [] rfl rfl rfl rfl rfl rfl rfl rfl (fun _ _ => rfl) (fun _ _ _ => rfl)) (fun _ _ => prs_nil) (fun _ _ => ?_)
  all_goals first | refine stg_altsJ [3, 4, 6, 8] rfl rfl (prs_cons (pri rfl (p_build (parts := [(0, .const (.int .i64 1)), (1, .const (.string (ByteArray.mk #[120]))), (2, .tmp 13)]) t53 pl53 rfl rfl)) (prs_cons (pri rfl (p_loadA t48 rfl rfl rfl (g_all (k := 3) rfl))) (prs_cons (pri rfl (p_loadA t48 rfl rfl rfl (g_all (k := 3) rfl))) (prs_cons (pri rfl (p_loadA t53 rfl rfl rfl (g_all (k := 4) rfl))) prs_nil)))) rfl [5, 7] rfl rfl (nx_cons (nx_memJ 5 [5, 4, 2, 1, 0] [] (fun v16 => []) rfl rfl rfl rfl rfl rfl rfl rfl rfl (fun _ _ => rfl) rfl (ms_bslice1 eTx (tName nX1) Tryz.underlying46 t48 rfl (by decide) (by decide) rfl rfl rfl) (fun v16 _ => prs_nil) (fun v16 _ => ?_)) (nx_cons (nx_memJ 7 [7, 6, 2, 1, 0] [] (fun v18 => []) rfl rfl rfl rfl rfl rfl rfl rfl rfl (fun _ _ => rfl) rfl (ms_call (xs := [.tmp 17]) (output_spec (tName nX1)) cb19 [] [] [18] [] rfl rfl rfl rfl rfl rfl rfl rfl (fun _ _ => rfl) (fun _ _ _ => rfl)) (fun v18 _ => prs_nil) (fun v18 _ => ?_)) nx_nil)) | refine stg_altsJ [6, 8] rfl rfl (prs_cons (pri rfl (p_loadA t48 rfl rfl rfl (g_all (k := 3) rfl))) (prs_cons (pri rfl (p_loadA t53 rfl rfl rfl (g_all (k := 4) rfl))) prs_nil)) rfl [2, 7] rfl rfl (nx_cons (nx_memJ 2 [5, 4, 2, 1, 0] [3] (fun v13 => [(3, 14, _)]) rfl rfl rfl rfl rfl rfl rfl rfl rfl (fun _ _ => rfl) rfl (ms_bslice1 eTx (tNum n) Tryz.underlying46 t48 rfl (by decide) (by decide) rfl rfl rfl) (fun v13 _ => (prs_cons (pri rfl (p_build (parts := [(0, .const (.int .i64 1)), (1, .const (.string (ByteArray.mk #[120]))), (2, .tmp 13)]) t53 pl53 rfl rfl)) prs_nil)) (fun v13 _ => ?_)) (nx_cons (nx_memJ 7 [7, 6, 5, 4, 1, 0] [] (fun v18 => []) rfl rfl rfl rfl rfl rfl rfl rfl rfl (fun _ _ => rfl) rfl (ms_call (xs := [.tmp 17]) (output_spec (tName nX1)) cb19 [] [] [18] [] rfl rfl rfl rfl rfl rfl rfl rfl (fun _ _ => rfl) (fun _ _ _ => rfl)) (fun v18 _ => prs_nil) (fun v18 _ => ?_)) nx_nil)) | refine stg_altsJ [4, 8] rfl rfl (prs_cons (pri rfl (p_loadA t48 rfl rfl rfl (g_all (k := 3) rfl))) (prs_cons (pri rfl (p_loadA t53 rfl rfl rfl (g_all (k := 4) rfl))) prs_nil)) rfl [2, 5, 9] rfl rfl (nx_cons (nx_memJ 2 [7, 6, 2, 1, 0] [3] (fun v13 => [(3, 14, _)]) rfl rfl rfl rfl rfl rfl rfl rfl rfl (fun _ _ => rfl) rfl (ms_bslice1 eTx (tNum n) Tryz.underlying46 t48 rfl (by decide) (by decide) rfl rfl rfl) (fun v13 _ => (prs_cons (pri rfl (p_build (parts := [(0, .const (.int .i64 1)), (1, .const (.string (ByteArray.mk #[120]))), (2, .tmp 13)]) t53 pl53 rfl rfl)) prs_nil)) (fun v13 _ => ?_)) (nx_cons (nx_memJ 5 [7, 6, 5, 4, 1, 0] [] (fun v16 => []) rfl rfl rfl rfl rfl rfl rfl rfl rfl (fun _ _ => rfl) rfl (ms_bslice1 eTx (tName nX1) Tryz.underlying46 t48 rfl (by decide) (by decide) rfl rfl rfl) (fun v16 _ => prs_nil) (fun v16 _ => ?_)) (nx_cons (nx_memJ 9 [9, 8, 7, 6, 1, 0] [] (fun v20 => []) rfl rfl rfl rfl rfl rfl rfl rfl rfl (fun _ _ => rfl) rfl (ms_bslice eTy [yOut v18 (tName nX1), .mk 2 nX1 v9 [tBin oSub v8 (tName nX1) (tNum 1)] nilS [] nilS []] (parts := [(0, .tmp 18), (1, .tmp 19)]) Tryz.underlying51 t53 rfl (by decide) (by intro _; rfl) rfl (by decide) (by decide) rfl rfl rfl) (fun v20 _ => prs_nil) (fun v20 _ => ?_)) nx_nil)))
  all_goals first | refine stg_memJ [3, 6, 8] 7 [7, 6, 5, 4, 2, 1, 0] [] (fun v18 => []) rfl rfl (prs_cons (pri rfl (p_build (parts := [(0, .const (.int .i64 1)), (1, .const (.string (ByteArray.mk #[120]))), (2, .tmp 13)]) t53 pl53 rfl rfl)) (prs_cons (pri rfl (p_loadA t48 rfl rfl rfl (g_all (k := 3) rfl))) (prs_cons (pri rfl (p_loadA t53 rfl rfl rfl (g_all (k := 4) rfl))) prs_nil))) rfl rfl rfl rfl rfl rfl rfl rfl rfl rfl rfl (fun _ _ => rfl) rfl (ms_call (xs := [.tmp 17]) (output_spec (tName nX1)) cb19 [] [] [18] [] rfl rfl rfl rfl rfl rfl rfl rfl (fun _ _ => rfl) (fun _ _ _ => rfl)) (fun v18 _ => prs_nil) (fun v18 _ => ?_) | refine stg_altsJ [3, 4, 8] rfl rfl (prs_cons (pri rfl (p_build (parts := [(0, .const (.int .i64 1)), (1, .const (.string (ByteArray.mk #[120]))), (2, .tmp 13)]) t53 pl53 rfl rfl)) (prs_cons (pri rfl (p_loadA t48 rfl rfl rfl (g_all (k := 3) rfl))) (prs_cons (pri rfl (p_loadA t53 rfl rfl rfl (g_all (k := 4) rfl))) prs_nil))) rfl [5, 9] rfl rfl (nx_cons (nx_memJ 5 [7, 6, 5, 4, 2, 1, 0] [] (fun v16 => []) rfl rfl rfl rfl rfl rfl rfl rfl rfl (fun _ _ => rfl) rfl (ms_bslice1 eTx (tName nX1) Tryz.underlying46 t48 rfl (by decide) (by decide) rfl rfl rfl) (fun v16 _ => prs_nil) (fun v16 _ => ?_)) (nx_cons (nx_memJ 9 [9, 8, 7, 6, 2, 1, 0] [] (fun v20 => []) rfl rfl rfl rfl rfl rfl rfl rfl rfl (fun _ _ => rfl) rfl (ms_bslice eTy [yOut v18 (tName nX1), .mk 2 nX1 v9 [tBin oSub v8 (tName nX1) (tNum 1)] nilS [] nilS []] (parts := [(0, .tmp 18), (1, .tmp 19)]) Tryz.underlying51 t53 rfl (by decide) (by intro _; rfl) rfl (by decide) (by decide) rfl rfl rfl) (fun v20 _ => prs_nil) (fun v20 _ => ?_)) nx_nil)) | refine stg_altsJ [8] rfl rfl (prs_cons (pri rfl (p_loadA t53 rfl rfl rfl (g_all (k := 4) rfl))) prs_nil) rfl [2, 9] rfl rfl (nx_cons (nx_memJ 2 [7, 6, 5, 4, 2, 1, 0] [3] (fun v13 => [(3, 14, _)]) rfl rfl rfl rfl rfl rfl rfl rfl rfl (fun _ _ => rfl) rfl (ms_bslice1 eTx (tNum n) Tryz.underlying46 t48 rfl (by decide) (by decide) rfl rfl rfl) (fun v13 _ => (prs_cons (pri rfl (p_build (parts := [(0, .const (.int .i64 1)), (1, .const (.string (ByteArray.mk #[120]))), (2, .tmp 13)]) t53 pl53 rfl rfl)) prs_nil)) (fun v13 _ => ?_)) (nx_cons (nx_memJ 9 [9, 8, 7, 6, 5, 4, 1, 0] [10] (fun v20 => [(10, 21, _)]) rfl rfl rfl rfl rfl rfl rfl rfl rfl (fun _ _ => rfl) rfl (ms_bslice eTy [yOut v18 (tName nX1), .mk 2 nX1 v9 [tBin oSub v8 (tName nX1) (tNum 1)] nilS [] nilS []] (parts := [(0, .tmp 18), (1, .tmp 19)]) Tryz.underlying51 t53 rfl (by decide) (by intro _; rfl) rfl (by decide) (by decide) rfl rfl rfl) (fun v20 _ => (prs_cons (pri rfl (p_build (parts := [(0, .const (.int .i64 5)), (2, .tmp 16), (3, .tmp 20)]) t53 pl53 rfl rfl)) prs_nil)) (fun v20 _ => ?_)) nx_nil)) | refine stg_altsJ [4] rfl rfl (prs_cons (pri rfl (p_loadA t48 rfl rfl rfl (g_all (k := 3) rfl))) prs_nil) rfl [2, 5] rfl rfl (nx_cons (nx_memJ 2 [9, 8, 7, 6, 2, 1, 0] [3] (fun v13 => [(3, 14, _)]) rfl rfl rfl rfl rfl rfl rfl rfl rfl (fun _ _ => rfl) rfl (ms_bslice1 eTx (tNum n) Tryz.underlying46 t48 rfl (by decide) (by decide) rfl rfl rfl) (fun v13 _ => (prs_cons (pri rfl (p_build (parts := [(0, .const (.int .i64 1)), (1, .const (.string (ByteArray.mk #[120]))), (2, .tmp 13)]) t53 pl53 rfl rfl)) prs_nil)) (fun v13 _ => ?_)) (nx_cons (nx_memJ 5 [9, 8, 7, 6, 5, 4, 1, 0] [10] (fun v16 => [(10, 21, _)]) rfl rfl rfl rfl rfl rfl rfl rfl rfl (fun _ _ => rfl) rfl (ms_bslice1 eTx (tName nX1) Tryz.underlying46 t48 rfl (by decide) (by decide) rfl rfl rfl) (fun v16 _ => (prs_cons (pri rfl (p_build (parts := [(0, .const (.int .i64 5)), (2, .tmp 16), (3, .tmp 20)]) t53 pl53 rfl rfl)) prs_nil)) (fun v16 _ => ?_)) nx_nil))
  all_goals first | refine stg_memJ [3, 8] 9 [9, 8, 7, 6, 5, 4, 2, 1, 0] [10] (fun v20 => [(10, 21, _)]) rfl rfl (prs_cons (pri rfl (p_build (parts := [(0, .const (.int .i64 1)), (1, .const (.string (ByteArray.mk #[120]))), (2, .tmp 13)]) t53 pl53 rfl rfl)) (prs_cons (pri rfl (p_loadA t53 rfl rfl rfl (g_all (k := 4) rfl))) prs_nil)) rfl rfl rfl rfl rfl rfl rfl rfl rfl rfl rfl (fun _ _ => rfl) rfl (ms_bslice eTy [yOut v18 (tName nX1), .mk 2 nX1 v9 [tBin oSub v8 (tName nX1) (tNum 1)] nilS [] nilS []] (parts := [(0, .tmp 18), (1, .tmp 19)]) Tryz.underlying51 t53 rfl (by decide) (by intro _; rfl) rfl (by decide) (by decide) rfl rfl rfl) (fun v20 _ => (prs_cons (pri rfl (p_build (parts := [(0, .const (.int .i64 5)), (2, .tmp 16), (3, .tmp 20)]) t53 pl53 rfl rfl)) prs_nil)) (fun v20 _ => ?_) | refine stg_memJ [3, 4] 5 [9, 8, 7, 6, 5, 4, 2, 1, 0] [10] (fun v16 => [(10, 21, _)]) rfl rfl (prs_cons (pri rfl (p_build (parts := [(0, .const (.int .i64 1)), (1, .const (.string (ByteArray.mk #[120]))), (2, .tmp 13)]) t53 pl53 rfl rfl)) (prs_cons (pri rfl (p_loadA t48 rfl rfl rfl (g_all (k := 3) rfl))) prs_nil)) rfl rfl rfl rfl rfl rfl rfl rfl rfl rfl rfl (fun _ _ => rfl) rfl (ms_bslice1 eTx (tName nX1) Tryz.underlying46 t48 rfl (by decide) (by decide) rfl rfl rfl) (fun v16 _ => (prs_cons (pri rfl (p_build (parts := [(0, .const (.int .i64 5)), (2, .tmp 16), (3, .tmp 20)]) t53 pl53 rfl rfl)) prs_nil)) (fun v16 _ => ?_) | refine stg_memJ [10] 2 [9, 8, 7, 6, 5, 4, 2, 1, 0] [3] (fun v13 => [(3, 14, _)]) rfl rfl (prs_cons (pri rfl (p_build (parts := [(0, .const (.int .i64 5)), (2, .tmp 16), (3, .tmp 20)]) t53 pl53 rfl rfl)) prs_nil) rfl rfl rfl rfl rfl rfl rfl rfl rfl rfl rfl (fun _ _ => rfl) rfl (ms_bslice1 eTx (tNum n) Tryz.underlying46 t48 rfl (by decide) (by decide) rfl rfl rfl) (fun v13 _ => (prs_cons (pri rfl (p_build (parts := [(0, .const (.int .i64 1)), (1, .const (.string (ByteArray.mk #[120]))), (2, .tmp 13)]) t53 pl53 rfl rfl)) prs_nil)) (fun v13 _ => ?_)
  all_goals first | refine stg_memJ [3, 10] 11 [11, 10, 9, 8, 7, 6, 5, 4, 3, 2, 1, 0] [] (fun v22 => []) rfl rfl (prs_cons (pri rfl (p_build (parts := [(0, .const (.int .i64 1)), (1, .const (.string (ByteArray.mk #[120]))), (2, .tmp 13)]) t53 pl53 rfl rfl)) (prs_cons (pri rfl (p_build (parts := [(0, .const (.int .i64 5)), (2, .tmp 16), (3, .tmp 20)]) t53 pl53 rfl rfl)) prs_nil)) rfl rfl rfl rfl rfl rfl rfl rfl rfl rfl rfl (fun _ _ => rfl) rfl (ms_bslice eTy (lpBody n v13 v16 v20 v18 v9 v8) (parts := [(0, .tmp 14), (1, .tmp 21)]) Tryz.underlying51 t53 rfl (by decide) (by intro _; rfl) rfl (by decide) (by decide) rfl rfl rfl) (fun v22 _ => prs_nil) (fun v22 _ => ?_)
  all_goals first | refine stg_memJ [] 12 [12, 11, 10, 9, 8, 7, 6, 5, 4, 3, 2, 1, 0] [] (fun v23 => []) rfl rfl prs_nil rfl rfl rfl rfl rfl rfl rfl rfl rfl rfl rfl (fun _ _ => rfl) rfl (ms_call (xs := [.tmp 22]) (main_spec v22 (lpBody n v13 v16 v20 v18 v9 v8)) cb18 [] [] [23] [] rfl rfl rfl rfl rfl rfl rfl rfl (fun _ _ => rfl) (fun _ _ _ => rfl)) (fun v23 _ => prs_nil) (fun v23 _ => ?_)
  all_goals first | refine stg_mem0J [] 13 [13, 12, 11, 10, 9, 8, 7, 6, 5, 4, 3, 2, 1, 0] [] (fun _ => []) rfl rfl prs_nil rfl rfl rfl rfl rfl rfl rfl rfl rfl (fun _ _ => rfl) rfl (ms_store_all (k := 2) t29 rfl rfl rfl rfl rfl rfl) (fun _ _ => prs_nil) (fun _ _ => ?_)
  all_goals first | refine stg_endJ [] rfl rfl prs_nil rfl rfl rfl ?_
  all_goals
   refine r_cret ?_
   refine r_collect 50 [13, 16, 20, 18, 9, 8, 22, 23] rfl loop_all ?_
   refine r_end ⟨v13, v16, v20, v18, v9, v8, v22, v23⟩ trivial rfl (rs1 (rv_cellA t29 rfl rfl rfl (g_all (k := 2) rfl))) rfl [50] [] rfl rfl rfl
structure Sv6 where
 v0 : SV
 v1 : SV
 v2 : SV
 v3 : SV
 v4 : SV
 b : Nat
theorem nmB_of {s : ByteArray} (h : (s.data.toList.all (fun b => decide (b.toNat < 128)) && decide (s.size ≤ 1000000)) = true) : nmB s := by
 simp only [Bool.and_eq_true, decide_eq_true_eq, List.all_eq_true] at h
 refine ⟨fun i hi => ?_, h.2⟩
 refine h.1 (s[i]'hi) ?_
 have : s[i]'hi = s.data.toList[i]'(by simpa using hi) := by simp [ByteArray.getElem_eq_getElem_data]
 rw [this]
 exact List.getElem_mem _
theorem gx_num {n : Int} (h : oW n) : GX (tNum n) := ⟨h, nmB_of rfl, Nat.zero_le _, trivial⟩
theorem gx_name {s : ByteArray} (h : nmB s) : GX (tName s) := ⟨oW0, h, Nat.zero_le _, trivial⟩
theorem gx_in : GX tIn := ⟨oW0, nmB_of rfl, Nat.zero_le _, trivial⟩
theorem gx_bin {op : ByteArray} {v : SV} {a b : Tx} (h : nmB op) (ha : GX a) (hb : GX b) : GX (tBin op v a b) := ⟨oW0, h, by show 2 ≤ 1000000; decide, ha, hb, trivial⟩
theorem gy_one {k : Int} {nm : ByteArray} {ve : SV} {t : Tx} (h : nmB nm) (ht : GX t) : GY (.mk k nm ve [t] nilS [] nilS []) := ⟨h, ⟨by show 1 ≤ 1000000; decide, ht, trivial⟩, ⟨Nat.zero_le _, trivial⟩, Nat.zero_le _, trivial⟩
theorem gp_main {vb : SV} {l : List Ty} (hl : l.length ≤ 1000000) (hg : GYs l) (hn : nYs l ≤ 1000000) : GP [fMain vb l] := ⟨by show 1 ≤ 1000000; decide, fun f hf => by
 rw [List.mem_singleton.1 hf]
 exact ⟨nmB_of rfl, fun s hs => by simp at hs, Nat.zero_le _, hl, hg, by show 0 + nYs l ≤ 1000000; omega⟩⟩
abbrev sf1 (v0 v1 v2 v3 : SV) : List Tf := [fMain v3 [yOut v2 (tBin oSub v1 tIn (tBin oMul v0 tIn (tNum 2)))]]
theorem sf1_gp (v0 v1 v2 v3 : SV) : GP (sf1 v0 v1 v2 v3) := gp_main (by show 1 ≤ 1000000; decide) ⟨gy_one (nmB_of rfl) (gx_bin (nmB_of rfl) gx_in (gx_bin (nmB_of rfl) gx_in (gx_num (by decide)))), trivial⟩ (by show 6 ≤ 1000000; decide)
theorem sf1_chk (v0 v1 v2 v3 : SV) : chk (sf1 v0 v1 v2 v3) = 0 := by kernel_rfl
theorem sf1_ev (v0 v1 v2 v3 : SV) : evC 40 (sf1 v0 v1 v2 v3) 0 (fMain v3 [yOut v2 (tBin oSub v1 tIn (tBin oMul v0 tIn (tNum 2)))]) [] (ms0 [7, 5] 100) = some (.ok 0 ⟨[], [4294967293], fun _ => 0, 94⟩) := by kernel_rfl
theorem sf1_run (v0 v1 v2 v3 : SV) : RunIs (sf1 v0 v1 v2 v3) [7, 5] 100 ⟨0, [4294967293], (List.range 256).map fun _ => 0⟩ := .run _ 40 _ (sf1_chk v0 v1 v2 v3) rfl (sf1_ev v0 v1 v2 v3)
theorem lp_gp {n : Int} (hn : oW n) (x : Lv) : GP (x.p n) := gp_main (by show 2 ≤ 1000000; decide) ⟨gy_one (nmB_of rfl) (gx_num hn), ⟨nmB_of rfl, ⟨by show 1 ≤ 1000000; decide, gx_name (nmB_of rfl), trivial⟩, ⟨by show 2 ≤ 1000000; decide, gy_one (nmB_of rfl) (gx_name (nmB_of rfl)), gy_one (nmB_of rfl) (gx_bin (nmB_of rfl) (gx_name (nmB_of rfl)) (gx_num (by decide))), trivial⟩, Nat.zero_le _, trivial⟩, trivial⟩ (by show 10 ≤ 1000000; decide)
theorem lp_chk (n : Int) (x : Lv) : chk (x.p n) = 0 := by kernel_rfl
theorem lp3_ev (x : Lv) : ∃ s : Ms, evC 60 (x.p 3) 0 (fMain x.v6 (lpBody 3 x.v0 x.v1 x.v2 x.v3 x.v4 x.v5)) [] (ms0 [] 100) = some (.ok 0 s) ∧ s.out = [3, 2, 1] := ⟨⟨[], [3, 2, 1], fun _ => 0, 75⟩, by kernel_rfl, rfl⟩
theorem lp3_run (x : Lv) : ∃ mem : List Int, mem.length = 256 ∧ RunIs (x.p 3) [] 100 ⟨0, [3, 2, 1], mem⟩ := by
 obtain ⟨s, h1, h2⟩ := lp3_ev x
 have h3 : RunIs (x.p 3) [] 100 (ruOf (.ok 0 s)) := .run _ 60 _ (lp_chk 3 x) rfl h1
 refine ⟨(List.range 256).map s.mem, by simp, ?_⟩
 rw [← h2]
 exact h3
theorem sf1_all {v0 v1 v2 v3 v4 : SV} (w : World) (F : Nat → Prop) (h : AllIn w F [own 48 4 eTx (sv v0) [tIn, tNum 2], own 48 4 eTx (sv v1) [tIn, tBin oMul v0 tIn (tNum 2)], own 48 4 eTx (sv v2) [tBin oSub v1 tIn (tBin oMul v0 tIn (tNum 2))], own 53 5 eTy (sv v3) [yOut v2 (tBin oSub v1 tIn (tBin oMul v0 tIn (tNum 2)))], own 63 3 eTf (sv v4) (sf1 v0 v1 v2 v3)]) : (tfsA v4 (sf1 v0 v1 v2 v3)).pred w F := by
 obtain ⟨⟨_, a0, b0⟩, ⟨_, a1, b1⟩, ⟨_, a2, b2⟩, ⟨_, a3, b3⟩, ⟨_, a4, b4⟩, _⟩ := h
 have hx : TxIn w F tIn := ⟨nil_in, trivial⟩
 have hn : ∀ n, TxIn w F (tNum n) := fun _ => ⟨nil_in, trivial⟩
 have hny : SlIn' w F 5 eTy (sv nilS) [] ∧ TysIn w F [] := ⟨nil_in, trivial⟩
 have e1 : TxIn w F (tBin oMul v0 tIn (tNum 2)) := ⟨own_in a0 b0, hx, hn 2, trivial⟩
 have e2 : TxIn w F (tBin oSub v1 tIn (tBin oMul v0 tIn (tNum 2))) := ⟨own_in a1 b1, hx, e1, trivial⟩
 refine ⟨own_in a4 b4, fun f hf => ?_⟩
 rw [List.mem_singleton.1 hf]
 exact ⟨nil_in, own_in a3 b3, ⟨⟨own_in a2 b2, e2, trivial⟩, hny, hny⟩, trivial⟩
set_option maxHeartbeats 4000000 in
set_option maxRecDepth 100000 in
theorem sanity_spec  :
  Spec Tryz.prog 8 [] [] [] (X := Unit) (fun _ => True) (fun _ => .bool true) (fun _ => []) (fun _ => []) := by
 refine r_enter Tryz.func8 rfl Tryz.ntmps8 rfl fun w0 M H => ?_
 refine r_seq (r_region (r_p (p_assign rfl) rfl (r_nil (r_seq (r_region ?_)))))
 refine r_p (p_build (parts := [(0, .const (.int .i64 5))]) t48 pl48 rfl rfl) rfl ?_
 refine r_alloc t48 rfl rfl fun b1 => ?_
 refine r_store_all (k := 1) t48 rfl rfl rfl rfl rfl rfl ?_
 refine r_nil ?_
 refine r_seq_cut (X := Sv6) (fun _ => True) (fun y => [(2, .pointer (some ⟨y.b, 0, none⟩))]) (fun y => [(2, row y.b 29 [sv y.v4]), (50, tfsA y.v4 (sf1 y.v0 y.v1 y.v2 y.v3))]) (fun y => []) ?_ (fun y _ => ?_)
 ·refine r_draw [14, 15, 16, 17, 18, 19, 20, 21, 2] _ rfl (stg_alts (V := [(0, 14, _), (1, 15, _)]) [0, 1] rfl rfl (prs_cons (pri rfl (p_loadA t48 rfl rfl rfl (g_all (k := 1) rfl))) (prs_cons (pri rfl (p_loadA t48 rfl rfl rfl (g_all (k := 1) rfl))) prs_nil)) rfl [2, 8] rfl rfl (nx_cons (nx_mem 2 [2] [] (fun _ => []) rfl rfl rfl rfl rfl rfl rfl rfl rfl (fun _ _ => rfl) rfl (ms_call (xs := [.const (.int .u32 2)]) (num_spec 2) cb22 [] [] [] [] rfl rfl rfl rfl rfl rfl rfl rfl (fun _ _ => rfl) (fun _ _ _ => rfl)) (fun _ _ => stg_alts [0, 1] rfl rfl (prs_cons (pri rfl (p_loadA t48 rfl rfl rfl (g_all (k := 1) rfl))) (prs_cons (pri rfl (p_loadA t48 rfl rfl rfl (g_all (k := 1) rfl))) prs_nil)) rfl [3, 8] rfl rfl (nx_cons (nx_mem 3 [3, 2, 1] [] (fun v17 => []) rfl rfl rfl rfl rfl rfl rfl rfl rfl (fun _ _ => rfl) rfl (ms_call (xs := [.const (.string (ByteArray.mk #[42])), .tmp 15, .tmp 16]) (binary_spec9 oMul tIn (tNum 2)) cb26 [] [] [17] [] rfl rfl rfl rfl rfl rfl rfl rfl (fun _ _ => rfl) (fun _ _ _ => rfl)) (fun v17 _ => stg_alts [0] rfl rfl (prs_cons (pri rfl (p_loadA t48 rfl rfl rfl (g_all (k := 1) rfl))) prs_nil) rfl [4, 8] rfl rfl (nx_cons (nx_mem 4 [4, 3, 2, 1, 0] [] (fun v18 => []) rfl rfl rfl rfl rfl rfl rfl rfl rfl (fun _ _ => rfl) rfl (ms_call (xs := [.const (.string (ByteArray.mk #[45])), .tmp 14, .tmp 17]) (binary_spec9 oSub tIn (tBin oMul v17 tIn (tNum 2))) cb26 [] [] [18] [] rfl rfl rfl rfl rfl rfl rfl rfl (fun _ _ => rfl) (fun _ _ _ => rfl)) (fun v18 _ => stg_alts [] rfl rfl prs_nil rfl [5, 8] rfl rfl (nx_cons (nx_mem 5 [5, 4, 3, 2, 1, 0] [] (fun v19 => []) rfl rfl rfl rfl rfl rfl rfl rfl rfl (fun _ _ => rfl) rfl (ms_call (xs := [.tmp 18]) (output_spec (tBin oSub v18 tIn (tBin oMul v17 tIn (tNum 2)))) cb19 [] [] [19] [] rfl rfl rfl rfl rfl rfl rfl rfl (fun _ _ => rfl) (fun _ _ _ => rfl)) (fun v19 _ => stg_alts [] rfl rfl prs_nil rfl [6, 8] rfl rfl (nx_cons (nx_mem 6 [6, 5, 4, 3, 2, 1, 0] [] (fun v20 => []) rfl rfl rfl rfl rfl rfl rfl rfl rfl (fun _ _ => rfl) rfl (ms_bslice1 eTy (yOut v19 (tBin oSub v18 tIn (tBin oMul v17 tIn (tNum 2)))) Tryz.underlying51 t53 rfl (by decide) (by decide) rfl rfl rfl) (fun v20 _ => stg_alts [] rfl rfl prs_nil rfl [7, 8] rfl rfl (nx_cons (nx_mem 7 [7, 6, 5, 4, 3, 2, 1, 0] [] (fun v21 => []) rfl rfl rfl rfl rfl rfl rfl rfl rfl (fun _ _ => rfl) rfl (ms_call (xs := [.tmp 20]) (main_spec v20 [yOut v19 (tBin oSub v18 tIn (tBin oMul v17 tIn (tNum 2)))]) cb18 [] [] [21] [] rfl rfl rfl rfl rfl rfl rfl rfl (fun _ _ => rfl) (fun _ _ _ => rfl)) (fun v21 _ => stg_mem [] 8 [8, 7, 6, 5, 4, 3, 2, 1, 0] [] (fun b2 => []) rfl rfl prs_nil rfl rfl rfl rfl rfl rfl rfl rfl rfl rfl rfl (fun _ _ => rfl) rfl (ms_alloc t29 rfl) (fun b2 _ => stg_mem0 [] 9 [9, 8, 7, 6, 5, 4, 3, 2, 1, 0] [] (fun _ => []) rfl rfl prs_nil rfl rfl rfl rfl rfl rfl rfl rfl rfl (fun _ _ => rfl) rfl (ms_store_all (k := 2) t29 rfl rfl rfl rfl rfl rfl) (fun _ _ => stg_end [] rfl rfl prs_nil rfl rfl rfl ?_)))) (nx_cons (nx_mem 8 [8, 6, 5, 4, 3, 2, 1, 0] [] (fun b2 => []) rfl rfl rfl rfl rfl rfl rfl rfl rfl (fun _ _ => rfl) rfl (ms_alloc t29 rfl) (fun b2 _ => stg_mem [] 7 [8, 7, 6, 5, 4, 3, 2, 1, 0] [] (fun v21 => []) rfl rfl prs_nil rfl rfl rfl rfl rfl rfl rfl rfl rfl rfl rfl (fun _ _ => rfl) rfl (ms_call (xs := [.tmp 20]) (main_spec v20 [yOut v19 (tBin oSub v18 tIn (tBin oMul v17 tIn (tNum 2)))]) cb18 [] [] [21] [] rfl rfl rfl rfl rfl rfl rfl rfl (fun _ _ => rfl) (fun _ _ _ => rfl)) (fun v21 _ => stg_mem0 [] 9 [9, 8, 7, 6, 5, 4, 3, 2, 1, 0] [] (fun _ => []) rfl rfl prs_nil rfl rfl rfl rfl rfl rfl rfl rfl rfl (fun _ _ => rfl) rfl (ms_store_all (k := 2) t29 rfl rfl rfl rfl rfl rfl) (fun _ _ => stg_end [] rfl rfl prs_nil rfl rfl rfl ?_)))) nx_nil)))) (nx_cons (nx_mem 8 [8, 5, 4, 3, 2, 1, 0] [] (fun b2 => []) rfl rfl rfl rfl rfl rfl rfl rfl rfl (fun _ _ => rfl) rfl (ms_alloc t29 rfl) (fun b2 _ => stg_mem [] 6 [8, 6, 5, 4, 3, 2, 1, 0] [] (fun v20 => []) rfl rfl prs_nil rfl rfl rfl rfl rfl rfl rfl rfl rfl rfl rfl (fun _ _ => rfl) rfl (ms_bslice1 eTy (yOut v19 (tBin oSub v18 tIn (tBin oMul v17 tIn (tNum 2)))) Tryz.underlying51 t53 rfl (by decide) (by decide) rfl rfl rfl) (fun v20 _ => stg_mem [] 7 [8, 7, 6, 5, 4, 3, 2, 1, 0] [] (fun v21 => []) rfl rfl prs_nil rfl rfl rfl rfl rfl rfl rfl rfl rfl rfl rfl (fun _ _ => rfl) rfl (ms_call (xs := [.tmp 20]) (main_spec v20 [yOut v19 (tBin oSub v18 tIn (tBin oMul v17 tIn (tNum 2)))]) cb18 [] [] [21] [] rfl rfl rfl rfl rfl rfl rfl rfl (fun _ _ => rfl) (fun _ _ _ => rfl)) (fun v21 _ => stg_mem0 [] 9 [9, 8, 7, 6, 5, 4, 3, 2, 1, 0] [] (fun _ => []) rfl rfl prs_nil rfl rfl rfl rfl rfl rfl rfl rfl rfl (fun _ _ => rfl) rfl (ms_store_all (k := 2) t29 rfl rfl rfl rfl rfl rfl) (fun _ _ => stg_end [] rfl rfl prs_nil rfl rfl rfl ?_))))) nx_nil)))) (nx_cons (nx_mem 8 [8, 4, 3, 2, 1, 0] [] (fun b2 => []) rfl rfl rfl rfl rfl rfl rfl rfl rfl (fun _ _ => rfl) rfl (ms_alloc t29 rfl) (fun b2 _ => stg_mem [] 5 [8, 5, 4, 3, 2, 1, 0] [] (fun v19 => []) rfl rfl prs_nil rfl rfl rfl rfl rfl rfl rfl rfl rfl rfl rfl (fun _ _ => rfl) rfl (ms_call (xs := [.tmp 18]) (output_spec (tBin oSub v18 tIn (tBin oMul v17 tIn (tNum 2)))) cb19 [] [] [19] [] rfl rfl rfl rfl rfl rfl rfl rfl (fun _ _ => rfl) (fun _ _ _ => rfl)) (fun v19 _ => stg_mem [] 6 [8, 6, 5, 4, 3, 2, 1, 0] [] (fun v20 => []) rfl rfl prs_nil rfl rfl rfl rfl rfl rfl rfl rfl rfl rfl rfl (fun _ _ => rfl) rfl (ms_bslice1 eTy (yOut v19 (tBin oSub v18 tIn (tBin oMul v17 tIn (tNum 2)))) Tryz.underlying51 t53 rfl (by decide) (by decide) rfl rfl rfl) (fun v20 _ => stg_mem [] 7 [8, 7, 6, 5, 4, 3, 2, 1, 0] [] (fun v21 => []) rfl rfl prs_nil rfl rfl rfl rfl rfl rfl rfl rfl rfl rfl rfl (fun _ _ => rfl) rfl (ms_call (xs := [.tmp 20]) (main_spec v20 [yOut v19 (tBin oSub v18 tIn (tBin oMul v17 tIn (tNum 2)))]) cb18 [] [] [21] [] rfl rfl rfl rfl rfl rfl rfl rfl (fun _ _ => rfl) (fun _ _ _ => rfl)) (fun v21 _ => stg_mem0 [] 9 [9, 8, 7, 6, 5, 4, 3, 2, 1, 0] [] (fun _ => []) rfl rfl prs_nil rfl rfl rfl rfl rfl rfl rfl rfl rfl (fun _ _ => rfl) rfl (ms_store_all (k := 2) t29 rfl rfl rfl rfl rfl rfl) (fun _ _ => stg_end [] rfl rfl prs_nil rfl rfl rfl ?_)))))) nx_nil)))) (nx_cons (nx_mem 8 [8, 3, 2, 1] [] (fun b2 => []) rfl rfl rfl rfl rfl rfl rfl rfl rfl (fun _ _ => rfl) rfl (ms_alloc t29 rfl) (fun b2 _ => stg_mem [0] 4 [8, 4, 3, 2, 1, 0] [] (fun v18 => []) rfl rfl (prs_cons (pri rfl (p_loadA t48 rfl rfl rfl (g_all (k := 1) rfl))) prs_nil) rfl rfl rfl rfl rfl rfl rfl rfl rfl rfl rfl (fun _ _ => rfl) rfl (ms_call (xs := [.const (.string (ByteArray.mk #[45])), .tmp 14, .tmp 17]) (binary_spec9 oSub tIn (tBin oMul v17 tIn (tNum 2))) cb26 [] [] [18] [] rfl rfl rfl rfl rfl rfl rfl rfl (fun _ _ => rfl) (fun _ _ _ => rfl)) (fun v18 _ => stg_mem [] 5 [8, 5, 4, 3, 2, 1, 0] [] (fun v19 => []) rfl rfl prs_nil rfl rfl rfl rfl rfl rfl rfl rfl rfl rfl rfl (fun _ _ => rfl) rfl (ms_call (xs := [.tmp 18]) (output_spec (tBin oSub v18 tIn (tBin oMul v17 tIn (tNum 2)))) cb19 [] [] [19] [] rfl rfl rfl rfl rfl rfl rfl rfl (fun _ _ => rfl) (fun _ _ _ => rfl)) (fun v19 _ => stg_mem [] 6 [8, 6, 5, 4, 3, 2, 1, 0] [] (fun v20 => []) rfl rfl prs_nil rfl rfl rfl rfl rfl rfl rfl rfl rfl rfl rfl (fun _ _ => rfl) rfl (ms_bslice1 eTy (yOut v19 (tBin oSub v18 tIn (tBin oMul v17 tIn (tNum 2)))) Tryz.underlying51 t53 rfl (by decide) (by decide) rfl rfl rfl) (fun v20 _ => stg_mem [] 7 [8, 7, 6, 5, 4, 3, 2, 1, 0] [] (fun v21 => []) rfl rfl prs_nil rfl rfl rfl rfl rfl rfl rfl rfl rfl rfl rfl (fun _ _ => rfl) rfl (ms_call (xs := [.tmp 20]) (main_spec v20 [yOut v19 (tBin oSub v18 tIn (tBin oMul v17 tIn (tNum 2)))]) cb18 [] [] [21] [] rfl rfl rfl rfl rfl rfl rfl rfl (fun _ _ => rfl) (fun _ _ _ => rfl)) (fun v21 _ => stg_mem0 [] 9 [9, 8, 7, 6, 5, 4, 3, 2, 1, 0] [] (fun _ => []) rfl rfl prs_nil rfl rfl rfl rfl rfl rfl rfl rfl rfl (fun _ _ => rfl) rfl (ms_store_all (k := 2) t29 rfl rfl rfl rfl rfl rfl) (fun _ _ => stg_end [] rfl rfl prs_nil rfl rfl rfl ?_))))))) nx_nil)))) (nx_cons (nx_mem 8 [8, 2] [] (fun b2 => []) rfl rfl rfl rfl rfl rfl rfl rfl rfl (fun _ _ => rfl) rfl (ms_alloc t29 rfl) (fun b2 _ => stg_mem [0, 1] 3 [8, 3, 2, 1] [] (fun v17 => []) rfl rfl (prs_cons (pri rfl (p_loadA t48 rfl rfl rfl (g_all (k := 1) rfl))) (prs_cons (pri rfl (p_loadA t48 rfl rfl rfl (g_all (k := 1) rfl))) prs_nil)) rfl rfl rfl rfl rfl rfl rfl rfl rfl rfl rfl (fun _ _ => rfl) rfl (ms_call (xs := [.const (.string (ByteArray.mk #[42])), .tmp 15, .tmp 16]) (binary_spec9 oMul tIn (tNum 2)) cb26 [] [] [17] [] rfl rfl rfl rfl rfl rfl rfl rfl (fun _ _ => rfl) (fun _ _ _ => rfl)) (fun v17 _ => stg_mem [0] 4 [8, 4, 3, 2, 1, 0] [] (fun v18 => []) rfl rfl (prs_cons (pri rfl (p_loadA t48 rfl rfl rfl (g_all (k := 1) rfl))) prs_nil) rfl rfl rfl rfl rfl rfl rfl rfl rfl rfl rfl (fun _ _ => rfl) rfl (ms_call (xs := [.const (.string (ByteArray.mk #[45])), .tmp 14, .tmp 17]) (binary_spec9 oSub tIn (tBin oMul v17 tIn (tNum 2))) cb26 [] [] [18] [] rfl rfl rfl rfl rfl rfl rfl rfl (fun _ _ => rfl) (fun _ _ _ => rfl)) (fun v18 _ => stg_mem [] 5 [8, 5, 4, 3, 2, 1, 0] [] (fun v19 => []) rfl rfl prs_nil rfl rfl rfl rfl rfl rfl rfl rfl rfl rfl rfl (fun _ _ => rfl) rfl (ms_call (xs := [.tmp 18]) (output_spec (tBin oSub v18 tIn (tBin oMul v17 tIn (tNum 2)))) cb19 [] [] [19] [] rfl rfl rfl rfl rfl rfl rfl rfl (fun _ _ => rfl) (fun _ _ _ => rfl)) (fun v19 _ => stg_mem [] 6 [8, 6, 5, 4, 3, 2, 1, 0] [] (fun v20 => []) rfl rfl prs_nil rfl rfl rfl rfl rfl rfl rfl rfl rfl rfl rfl (fun _ _ => rfl) rfl (ms_bslice1 eTy (yOut v19 (tBin oSub v18 tIn (tBin oMul v17 tIn (tNum 2)))) Tryz.underlying51 t53 rfl (by decide) (by decide) rfl rfl rfl) (fun v20 _ => stg_mem [] 7 [8, 7, 6, 5, 4, 3, 2, 1, 0] [] (fun v21 => []) rfl rfl prs_nil rfl rfl rfl rfl rfl rfl rfl rfl rfl rfl rfl (fun _ _ => rfl) rfl (ms_call (xs := [.tmp 20]) (main_spec v20 [yOut v19 (tBin oSub v18 tIn (tBin oMul v17 tIn (tNum 2)))]) cb18 [] [] [21] [] rfl rfl rfl rfl rfl rfl rfl rfl (fun _ _ => rfl) (fun _ _ _ => rfl)) (fun v21 _ => stg_mem0 [] 9 [9, 8, 7, 6, 5, 4, 3, 2, 1, 0] [] (fun _ => []) rfl rfl prs_nil rfl rfl rfl rfl rfl rfl rfl rfl rfl (fun _ _ => rfl) rfl (ms_store_all (k := 2) t29 rfl rfl rfl rfl rfl rfl) (fun _ _ => stg_end [] rfl rfl prs_nil rfl rfl rfl ?_)))))))) nx_nil)))) (nx_cons (nx_mem 8 [8] [] (fun b2 => []) rfl rfl rfl rfl rfl rfl rfl rfl rfl (fun _ _ => rfl) rfl (ms_alloc t29 rfl) (fun b2 _ => stg_mem [0, 1] 2 [8, 2] [] (fun _ => []) rfl rfl (prs_cons (pri rfl (p_loadA t48 rfl rfl rfl (g_all (k := 1) rfl))) (prs_cons (pri rfl (p_loadA t48 rfl rfl rfl (g_all (k := 1) rfl))) prs_nil)) rfl rfl rfl rfl rfl rfl rfl rfl rfl rfl rfl (fun _ _ => rfl) rfl (ms_call (xs := [.const (.int .u32 2)]) (num_spec 2) cb22 [] [] [] [] rfl rfl rfl rfl rfl rfl rfl rfl (fun _ _ => rfl) (fun _ _ _ => rfl)) (fun _ _ => stg_mem [0, 1] 3 [8, 3, 2, 1] [] (fun v17 => []) rfl rfl (prs_cons (pri rfl (p_loadA t48 rfl rfl rfl (g_all (k := 1) rfl))) (prs_cons (pri rfl (p_loadA t48 rfl rfl rfl (g_all (k := 1) rfl))) prs_nil)) rfl rfl rfl rfl rfl rfl rfl rfl rfl rfl rfl (fun _ _ => rfl) rfl (ms_call (xs := [.const (.string (ByteArray.mk #[42])), .tmp 15, .tmp 16]) (binary_spec9 oMul tIn (tNum 2)) cb26 [] [] [17] [] rfl rfl rfl rfl rfl rfl rfl rfl (fun _ _ => rfl) (fun _ _ _ => rfl)) (fun v17 _ => stg_mem [0] 4 [8, 4, 3, 2, 1, 0] [] (fun v18 => []) rfl rfl (prs_cons (pri rfl (p_loadA t48 rfl rfl rfl (g_all (k := 1) rfl))) prs_nil) rfl rfl rfl rfl rfl rfl rfl rfl rfl rfl rfl (fun _ _ => rfl) rfl (ms_call (xs := [.const (.string (ByteArray.mk #[45])), .tmp 14, .tmp 17]) (binary_spec9 oSub tIn (tBin oMul v17 tIn (tNum 2))) cb26 [] [] [18] [] rfl rfl rfl rfl rfl rfl rfl rfl (fun _ _ => rfl) (fun _ _ _ => rfl)) (fun v18 _ => stg_mem [] 5 [8, 5, 4, 3, 2, 1, 0] [] (fun v19 => []) rfl rfl prs_nil rfl rfl rfl rfl rfl rfl rfl rfl rfl rfl rfl (fun _ _ => rfl) rfl (ms_call (xs := [.tmp 18]) (output_spec (tBin oSub v18 tIn (tBin oMul v17 tIn (tNum 2)))) cb19 [] [] [19] [] rfl rfl rfl rfl rfl rfl rfl rfl (fun _ _ => rfl) (fun _ _ _ => rfl)) (fun v19 _ => stg_mem [] 6 [8, 6, 5, 4, 3, 2, 1, 0] [] (fun v20 => []) rfl rfl prs_nil rfl rfl rfl rfl rfl rfl rfl rfl rfl rfl rfl (fun _ _ => rfl) rfl (ms_bslice1 eTy (yOut v19 (tBin oSub v18 tIn (tBin oMul v17 tIn (tNum 2)))) Tryz.underlying51 t53 rfl (by decide) (by decide) rfl rfl rfl) (fun v20 _ => stg_mem [] 7 [8, 7, 6, 5, 4, 3, 2, 1, 0] [] (fun v21 => []) rfl rfl prs_nil rfl rfl rfl rfl rfl rfl rfl rfl rfl rfl rfl (fun _ _ => rfl) rfl (ms_call (xs := [.tmp 20]) (main_spec v20 [yOut v19 (tBin oSub v18 tIn (tBin oMul v17 tIn (tNum 2)))]) cb18 [] [] [21] [] rfl rfl rfl rfl rfl rfl rfl rfl (fun _ _ => rfl) (fun _ _ _ => rfl)) (fun v21 _ => stg_mem0 [] 9 [9, 8, 7, 6, 5, 4, 3, 2, 1, 0] [] (fun _ => []) rfl rfl prs_nil rfl rfl rfl rfl rfl rfl rfl rfl rfl (fun _ _ => rfl) rfl (ms_store_all (k := 2) t29 rfl rfl rfl rfl rfl rfl) (fun _ _ => stg_end [] rfl rfl prs_nil rfl rfl rfl ?_))))))))) nx_nil)))
  ·refine r_collect 50 [17, 18, 19, 20, 21] rfl sf1_all ?_
   refine r_here ⟨v17, v18, v19, v20, v21, b2⟩ trivial rfl rfl rfl
  ·refine r_collect 50 [17, 18, 19, 20, 21] rfl sf1_all ?_
   refine r_here ⟨v17, v18, v19, v20, v21, b2⟩ trivial rfl rfl rfl
  ·refine r_collect 50 [17, 18, 19, 20, 21] rfl sf1_all ?_
   refine r_here ⟨v17, v18, v19, v20, v21, b2⟩ trivial rfl rfl rfl
  ·refine r_collect 50 [17, 18, 19, 20, 21] rfl sf1_all ?_
   refine r_here ⟨v17, v18, v19, v20, v21, b2⟩ trivial rfl rfl rfl
  ·refine r_collect 50 [17, 18, 19, 20, 21] rfl sf1_all ?_
   refine r_here ⟨v17, v18, v19, v20, v21, b2⟩ trivial rfl rfl rfl
  ·refine r_collect 50 [17, 18, 19, 20, 21] rfl sf1_all ?_
   refine r_here ⟨v17, v18, v19, v20, v21, b2⟩ trivial rfl rfl rfl
  ·refine r_collect 50 [17, 18, 19, 20, 21] rfl sf1_all ?_
   refine r_here ⟨v17, v18, v19, v20, v21, b2⟩ trivial rfl rfl rfl
 ·obtain ⟨v17, v18, v19, v20, v21, b2⟩ := y
  dsimp only
  refine r_seq (r_region ?_)
  refine r_p (p_loadA t29 rfl rfl rfl (g_all (k := 2) rfl)) rfl ?_
  refine r_bslice eU [7, 5] (parts := [(0, .const (.int .u32 7)), (1, .const (.int .u32 5))]) Tryz.underlying23 t36 rfl (by decide) (by intro _; rfl) rfl (by decide) (by decide) rfl rfl rfl rfl fun v24 => ?_
  refine r_freeze 24 90 rfl own_to_sl ?_
  refine r_freeze 50 91 rfl (fun _ _ h => h) ?_
  refine r_call (xs := [.tmp 23, .tmp 24, .const (.int .i64 100)]) (run_spec v21 v24 (sf1 v17 v18 v19 v20) [7, 5] 100 (sf1_gp v17 v18 v19 v20) (by intro x hx; simp only [List.mem_cons, List.not_mem_nil, or_false] at hx; rcases hx with rfl | rfl <;> decide) (by simp) (by decide) _ (sf1_run v17 v18 v19 v20)) cb15 [] [(false, 91), (false, 90)] [60, 61] [] rfl rfl rfl rfl rfl rfl rfl rfl (fun _ _ => rfl) (fun _ _ _ => rfl) rfl (fun ⟨ra, rb⟩ _ => ?_)
  refine r_freeze 60 92 rfl own_to_sl ?_
  refine r_p (p_move rfl) rfl ?_
  refine r_p (p_extract rfl rfl) rfl ?_
  refine r_p (p_extract rfl rfl) rfl ?_
  refine r_p (p_extract rfl rfl) rfl ?_
  refine r_p (p_assign rfl) rfl (r_p (p_assign rfl) rfl (r_p (p_assign rfl) rfl (r_nil (r_seq (r_region ?_)))))
  refine r_call (xs := [.const (.int .u32 3)]) (loop_spec 3) cb27 [] [] [51] [] rfl rfl rfl rfl rfl rfl rfl rfl (fun _ _ => rfl) (fun _ _ _ => rfl) rfl (fun lv _ => ?_)
  obtain ⟨mem3, hm3, hr3⟩ := lp3_run lv
  refine r_nilsl 93 (α := Int) (s := 1) (enc := eU) ?_
  refine r_call (xs := [.tmp 30, .const (.slice Option.none 0 0), .const (.int .i64 100)]) (run_spec lv.v7 nilS (lv.p 3) [] 100 (lp_gp (by decide) lv) (by simp) (by simp) (by decide) _ hr3) cb15 [] [(true, 51), (false, 93)] [62, 63] [] rfl rfl rfl rfl rfl rfl rfl rfl (fun _ _ => rfl) (fun _ _ _ => rfl) rfl (fun ⟨rc, rd⟩ _ => ?_)
  refine r_freeze 62 94 rfl own_to_sl ?_
  refine r_p (p_move rfl) rfl ?_
  refine r_p (p_extract rfl rfl) rfl ?_
  refine r_p (p_extract rfl rfl) rfl ?_
  refine r_p (p_extract rfl rfl) rfl ?_
  refine r_p (p_assign rfl) rfl (r_p (p_assign rfl) rfl (r_p (p_assign rfl) rfl (r_nil (r_seq (r_region ?_)))))
  refine r_call (xs := [.const (.string (ByteArray.mk #[37])), .const (.int .u32 7), .const (.int .u32 0)]) (binary_spec oRem 7 0 (by decide) (by decide)) cb28 [] [] [] [] rfl rfl rfl rfl rfl rfl rfl rfl (fun _ _ => rfl) (fun _ _ _ => rfl) rfl (fun _ _ => ?_)
  refine r_p (p_move rfl) rfl ?_
  refine r_p (p_extract rfl rfl) rfl ?_
  refine r_p (p_extract rfl rfl) rfl ?_
  refine r_p (p_assign rfl) rfl (r_p (p_assign rfl) rfl (r_nil (r_seq (r_region ?_))))
  refine r_call (xs := [.const (.string (ByteArray.mk #[43])), .const (.int .u32 1)]) (unary_spec oAdd 1 (by decide)) cb29 [] [] [] [] rfl rfl rfl rfl rfl rfl rfl rfl (fun _ _ => rfl) (fun _ _ _ => rfl) rfl (fun _ _ => ?_)
  refine r_p (p_move rfl) rfl ?_
  refine r_p (p_extract rfl rfl) rfl ?_
  refine r_p (p_extract rfl rfl) rfl ?_
  refine r_p (p_assign rfl) rfl (r_p (p_assign rfl) rfl (r_nil (r_seq (r_region (r_p (p_move rfl) rfl ?_)))))
  refine r_p (p_bin rfl rfl b_eq) rfl ?_
  refine r_p (p_move rfl) rfl ?_
  refine r_split (t := 45) rfl (fun h1 => ?_) (fun h1 => False.elim (by simp at h1))
  refine r_gyes rfl rfl ?_
  refine r_p (p_move rfl) rfl ?_
  refine r_gyes rfl rfl ?_
  refine r_bslice1 eU 4294967293 Tryz.underlying23 t36 rfl (by decide) (by decide) rfl rfl rfl rfl fun v47 => ?_
  refine r_gyes rfl rfl ?_
  refine r_freeze 47 95 rfl own_to_sl ?_
  refine r_call (xs := [.tmp 46, .tmp 47]) (rwords_spec ra v47 [4294967293] [4294967293] (by decide)) cb16 [] [(false, 92), (false, 95)] [] [] rfl rfl rfl rfl rfl rfl rfl rfl (fun _ _ => rfl) (fun _ _ _ => rfl) rfl (fun _ _ => ?_)
  refine r_p (p_pick rfl rfl rfl (by first | exact pick_and | exact pick_or |  rfl)) rfl ?_
  refine r_p (p_move rfl) rfl ?_
  refine r_split (t := 50) rfl (fun h2 => ?_) (fun h2 => False.elim (by simp at h2))
  refine r_gyes rfl rfl ?_
  refine r_p (p_move rfl) rfl ?_
  refine r_gyes rfl rfl ?_
  refine r_p (p_bin rfl rfl b_eq) rfl ?_
  refine r_p (p_pick rfl rfl rfl (by first | exact pick_and | exact pick_or |  rfl)) rfl ?_
  refine r_p (p_move rfl) rfl ?_
  refine r_split (t := 54) rfl (fun h3 => ?_) (fun h3 => False.elim (by simp at h3))
  refine r_gyes rfl rfl ?_
  refine r_p (p_move rfl) rfl ?_
  refine r_gyes rfl rfl ?_
  refine r_bslice eU [3, 2, 1] (parts := [(0, .const (.int .u32 3)), (1, .const (.int .u32 2)), (2, .const (.int .u32 1))]) Tryz.underlying23 t36 rfl (by decide) (by intro _; rfl) rfl (by decide) (by decide) rfl rfl rfl rfl fun v56 => ?_
  refine r_gyes rfl rfl ?_
  refine r_freeze 56 96 rfl own_to_sl ?_
  refine r_call (xs := [.tmp 55, .tmp 56]) (rwords_spec rc v56 [3, 2, 1] [3, 2, 1] (by decide)) cb16 [] [(false, 94), (false, 96)] [] [] rfl rfl rfl rfl rfl rfl rfl rfl (fun _ _ => rfl) (fun _ _ _ => rfl) rfl (fun _ _ => ?_)
  refine r_p (p_pick rfl rfl rfl (by first | exact pick_and | exact pick_or |  rfl)) rfl ?_
  refine r_p (p_move rfl) rfl ?_
  refine r_gp [] rfl rfl trivial (fun hg4 => p_move rfl) rfl ?_
  refine r_gp [(60, _)] rfl rfl ⟨rfl, trivial⟩ (fun hg5 => p_len_sl Tryz.underlying23 rfl (hs_own (k := 63) rfl)) rfl ?_
  refine r_gp [(60, _), (61, _)] rfl rfl ⟨rfl, rfl, trivial⟩ (fun hg6 => p_bin rfl rfl b_eq) rfl ?_
  refine r_p (p_pick rfl rfl rfl (by first | exact pick_and | exact pick_or |  rfl)) rfl ?_
  refine r_p (p_move rfl) rfl ?_
  refine r_gp [] rfl rfl trivial (fun hg7 => p_move rfl) rfl ?_
  refine r_gp [(65, _)] rfl rfl ⟨rfl, trivial⟩ (fun hg8 => p_bin rfl rfl b_eq) rfl ?_
  refine r_p (p_pick rfl rfl rfl (by first | exact pick_and | exact pick_or |  rfl)) rfl ?_
  refine r_p (p_move rfl) rfl ?_
  refine r_gp [] rfl rfl trivial (fun hg9 => p_move rfl) rfl ?_
  refine r_p (p_pick rfl rfl rfl (by first | exact pick_and | exact pick_or |  rfl)) rfl ?_
  refine r_p (p_move rfl) rfl ?_
  refine r_gp [] rfl rfl trivial (fun hg10 => p_move rfl) rfl ?_
  refine r_gp [(72, _)] rfl rfl ⟨rfl, trivial⟩ (fun hg11 => p_not rfl) rfl ?_
  refine r_p (p_pick rfl rfl rfl (by first | exact pick_and | exact pick_or |  rfl)) rfl ?_
  refine r_p (p_assign rfl) rfl (r_nil (r_cret ?_))
  refine r_ret () trivial rfl (rs1 (rv_tmp rfl)) (congrArg Value.bool (by dsimp only; rw [hm3]; rfl)) [] [] rfl rfl rfl
section
variable {v1 v2 v3 v4 v5 : SV} {fs : List Tf} {d : Nat}
end
/-- Trees without addresses. -/
inductive Px where
 | mk (kind n : Int) (name : ByteArray) (kids : List Px)
inductive Py where
 | mk (kind : Int) (name : ByteArray) (es : List Px) (body els : List Py)
structure Pf where
 name : ByteArray
 ps : List ByteArray
 body : List Py
mutual
def erX : Tx → Px
 | .mk k n nm _ kids => .mk k n nm (erXs kids)
def erXs : List Tx → List Px
 | [] => []
 | t :: r => erX t :: erXs r
end
mutual
def erY : Ty → Py
 | .mk k nm _ es _ body _ els => .mk k nm (erXs es) (erYs body) (erYs els)
def erYs : List Ty → List Py
 | [] => []
 | t :: r => erY t :: erYs r
end
def erF (f : Tf) : Pf := ⟨f.name, f.ps, erYs f.body⟩
theorem erXs_app : ∀ a b : List Tx, erXs (a ++ b) = erXs a ++ erXs b
 | [], b => by simp [erXs]
 | t :: r, b => by simp [erXs, erXs_app r b]
theorem erYs_app : ∀ a b : List Ty, erYs (a ++ b) = erYs a ++ erYs b
 | [], b => by simp [erYs]
 | t :: r, b => by simp [erYs, erYs_app r b]
/-- What does not change while a function is grown: the numbers, the function's place, the functions' names and parameters. -/
structure Gc where
 l : List Int
 me : Nat
 fs : List (ByteArray × List ByteArray)
/-- What changes. -/
structure Gs where
 at_ : Nat
 left : Int
 nodes : Int
 vars : Int
 names : List ByteArray
def imod (n m : Int) : Int := ((n.tmod m) + m).tmod m
/-- The next number. -/
def gN (l : List Int) (n : Int) (s : Gs) : Int × Gs := match l[s.at_]? with
 | none => (0, s)
 | some x => (imod x n, { s with at_ := s.at_ + 1 })
def cL : List Int := [0, 1, 2, 3, 5, 8, 31, 32, 255, 256, 65535, 131072, 2147483647, 2147483648, 4294967295]
def biL : List ByteArray := [oAdd, oSub, oMul, oQuo, oRem, oAnd, oOr, oXor, oShl, oShr, oLt, oLe, oGt, oGe, oEq, oNe]
/-- What kind of expression is grown. -/
def gK (l : List Int) (d : Nat) (s : Gs) : Int × Gs :=
 let r := gN l 16 { s with nodes := IntKind.i64.wrap (s.nodes - 1) }
 (if d = 0 ∨ r.2.nodes < 1 then r.1 % 4 else r.1, r.2)
mutual
/-- An expression, at most d + 1 deep. -/
inductive GXr (c : Gc) : Nat → Gs → Px → Gs → Prop
 | nam {d : Nat} {s s1 s2 : Gs} {k j : Int} {x : ByteArray} (hk : gK c.l d s = (k, s1)) (h : k = 1 ∨ k = 2) (hn : 0 < s1.names.length) (hj : gN c.l (s1.names.length : Int) s1 = (j, s2)) (hx : s1.names[j.toNat]? = some x) : GXr c d s (.mk 2 0 x []) s2
 | inp {d : Nat} {s s1 : Gs} (hk : gK c.l d s = (3, s1)) : GXr c d s (.mk 5 0 oNil []) s1
 | mem {d : Nat} {s s1 s2 : Gs} {k : Int} {p : Px} (hk : gK c.l (d + 1) s = (k, s1)) (h : k = 4 ∨ k = 5) (hp : GXr c d s1 p s2) : GXr c (d + 1) s (.mk 4 0 oNil [p]) s2
 | una {d : Nat} {s s1 s2 s3 : Gs} {j : Int} {x : ByteArray} {p : Px} (hk : gK c.l (d + 1) s = (6, s1)) (hj : gN c.l 3 s1 = (j, s2)) (hx : unL[j.toNat]? = some x) (hp : GXr c d s2 p s3) : GXr c (d + 1) s (.mk 6 0 x [p]) s3
 | call {d : Nat} {s s1 s2 s3 : Gs} {j : Int} {f : ByteArray × List ByteArray} {ps : List Px} (hk : gK c.l (d + 1) s = (7, s1)) (h : c.me + 1 < c.fs.length) (hj : gN c.l ((c.fs.length : Int) - (c.me : Int) - 1) s1 = (j, s2)) (hx : c.fs[((c.me : Int) + 1 + j).toNat]? = some f) (hp : GKr c d f.2.length s2 ps s3) : GXr c (d + 1) s (.mk 3 0 f.1 ps) s3
 | bin {d : Nat} {s s1 s2 s3 s4 : Gs} {k j : Int} {x : ByteArray} {p q : Px} (hk : gK c.l (d + 1) s = (k, s1)) (h : 7 < k) (hj : gN c.l 16 s1 = (j, s2)) (hx : biL[j.toNat]? = some x) (hp : GXr c d s2 p s3) (hq : GXr c d s3 q s4) : GXr c (d + 1) s (.mk 7 0 x [p, q]) s4
 | con {d : Nat} {s s1 s2 : Gs} {k j : Int} {x : Int} (hk : gK c.l d s = (k, s1)) (h1 : ¬ ((k = 1 ∨ k = 2) ∧ 0 < s1.names.length)) (h3 : k ≠ 3) (h4 : k ≠ 4) (h5 : k ≠ 5) (h6 : k ≠ 6) (h7 : ¬ (k = 7 ∧ c.me + 1 < c.fs.length)) (h8 : ¬ 7 < k) (hj : gN c.l 15 s1 = (j, s2)) (hx : cL[j.toNat]? = some x) : GXr c d s (.mk 1 x oNil []) s2
/-- n expressions. -/
inductive GKr (c : Gc) : Nat → Nat → Gs → List Px → Gs → Prop
 | nil {d : Nat} {s : Gs} : GKr c d 0 s [] s
 | cons {d n : Nat} {s s1 s2 : Gs} {p : Px} {ps : List Px} (hp : GXr c d s p s1) (hq : GKr c d n s1 ps s2) : GKr c d (n + 1) s (p :: ps) s2
end
theorem GKr.snoc {c : Gc} {d : Nat} : ∀ {n : Nat} {s s1 s2 : Gs} {p : Px} {ps : List Px}, GKr c d n s ps s1 → GXr c d s1 p s2 → GKr c d (n + 1) s (ps ++ [p]) s2
 | 0, _, _, _, _, _, .nil, h2 => .cons h2 .nil
 | n + 1, _, _, _, _, _, .cons hp hq, h2 => .cons hp (GKr.snoc hq h2)
/-- A call. -/
def GCr (c : Gc) (d : Nat) (f : ByteArray × List ByteArray) (s : Gs) (p : Px) (s' : Gs) : Prop := ∃ ps, GKr c d f.2.length s ps s' ∧ p = .mk 3 0 f.1 ps
def freshL : List ByteArray := [⟨#[97]⟩, ⟨#[98]⟩, ⟨#[99]⟩, ⟨#[100]⟩, ⟨#[101]⟩, ⟨#[120, 49]⟩, ⟨#[121, 50]⟩, ⟨#[108, 111, 111, 112]⟩]
def pNum (n : Int) : Px := .mk 1 n oNil []
def pName (s : ByteArray) : Px := .mk 2 0 s []
/-- The statement that counts a loop's variable down. -/
def pDown (x : ByteArray) : Py := .mk 2 x [.mk 7 0 oSub [pName x, pNum 1]] [] []
mutual
/-- A block; e is how much deeper blocks may lie. -/
inductive GYr (c : Gc) : Nat → Gs → List Py → Gs → Prop
 | mk {e : Nat} {s s1 s2 : Gs} {j : Int} {o : List Py} (hj : gN c.l 5 s = (j, s1)) (h : GLr c e (1 + j).toNat s1 o s2) : GYr c e s o s2
/-- At most n statements. -/
inductive GLr (c : Gc) : Nat → Nat → Gs → List Py → Gs → Prop
 | zero {e : Nat} {s : Gs} : GLr c e 0 s [] s
 | stop {e n : Nat} {s : Gs} (h : s.left ≤ 0) : GLr c e n s [] s
 | step {e n : Nat} {s s1 s2 s3 : Gs} {k : Int} {o r : List Py} (h : 0 < s.left) (hk : gN c.l 12 { s with left := s.left - 1 } = (k, s1)) (h1 : G1r c e k s1 o s2) (h2 : GLr c e n s2 r s3) : GLr c e (n + 1) s (o ++ r) s3
/-- One statement of kind k. -/
inductive G1r (c : Gc) : Nat → Int → Gs → List Py → Gs → Prop
 | var {e : Nat} {s s1 : Gs} {k : Int} {x : ByteArray} {p : Px} (hk : k < 3) (hx : freshL[s.vars.toNat]? = some x) (hv : s.vars < 8) (hp : GXr c 3 { s with vars := s.vars + 1 } p s1) : G1r c e k s [.mk 1 x [p] [] []] { s1 with names := s1.names ++ [x] }
 | set {e : Nat} {s s1 s2 : Gs} {j : Int} {x : ByteArray} {p : Px} (hn : 0 < s.names.length) (hj : gN c.l (s.names.length : Int) s = (j, s1)) (hx : s.names[j.toNat]? = some x) (hp : GXr c 3 s1 p s2) : G1r c e 3 s [.mk 2 x [p] [] []] s2
 | put {e : Nat} {s s1 s2 : Gs} {k : Int} {p q : Px} (hk : k = 4 ∨ k = 5) (hp : GXr c 2 s p s1) (hq : GXr c 3 s1 q s2) : G1r c e k s [.mk 3 oNil [p, q] [] []] s2
 | iff1 {e : Nat} {s s1 s2 s3 s4 : Gs} {p : Px} {a b : List Py} (hp : GXr c 2 s p s1) (ha : GYr c e s1 a s2) (hj : gN c.l 2 s2 = (1, s3)) (hb : GYr c e s3 b s4) : G1r c (e + 1) 6 s [.mk 4 oNil [p] a b] s4
 | iff0 {e : Nat} {s s1 s2 s3 : Gs} {j : Int} {p : Px} {a : List Py} (hp : GXr c 2 s p s1) (ha : GYr c e s1 a s2) (hj : gN c.l 2 s2 = (j, s3)) (hb : j ≠ 1) : G1r c (e + 1) 6 s [.mk 4 oNil [p] a []] s3
 | whi {e : Nat} {s s1 s2 : Gs} {j : Int} {x : ByteArray} {a : List Py} (hx : freshL[s.vars.toNat]? = some x) (hv : s.vars < 8) (hj : gN c.l 5 { s with vars := s.vars + 1 } = (j, s1)) (ha : GYr c (e + 1) s1 a s2) : G1r c (e + 2) 7 s [.mk 1 x [pNum j] [] [], .mk 5 oNil [pName x] (a ++ [pDown x]) []] { s2 with names := s2.names ++ [x] }
 | ret {e : Nat} {s s1 s2 : Gs} {p : Px} (hj : gN c.l 3 s = (0, s1)) (hp : GXr c 3 s1 p s2) : G1r c e 8 s [.mk 6 oNil [p] [] []] s2
 | dos {e : Nat} {s s1 s2 s3 s4 : Gs} {j j2 : Int} {f : ByteArray × List ByteArray} {p : Px} (h : c.me + 1 < c.fs.length) (hj : gN c.l ((c.fs.length : Int) - (c.me : Int) - 1) s = (j, s1)) (hj2 : gN c.l 8 s1 = (j2, s2))
   (hf : (j2 ≠ 7 ∧ c.fs[((c.me : Int) + 1 + j).toNat]? = some f ∧ s3 = s2) ∨ (j2 = 7 ∧ ∃ j3, gN c.l ((c.fs.length : Int) - 1) s2 = (j3, s3) ∧ c.fs[(1 + j3).toNat]? = some f)) (hp : GCr c 1 f s3 p s4) : G1r c e 9 s [.mk 8 oNil [p] [] []] s4
 | out {e : Nat} {s s1 s2 : Gs} {k : Int} {p : Px} (h3 : ¬ (k < 3 ∧ s.vars < 8)) (hs : ¬ (k = 3 ∧ 0 < s.names.length)) (h4 : k ≠ 4) (h5 : k ≠ 5) (h6 : ¬ (k = 6 ∧ 1 ≤ e)) (h7 : ¬ (k = 7 ∧ 2 ≤ e ∧ s.vars < 8)) (h8 : (k ≠ 8 ∧ s1 = s) ∨ (k = 8 ∧ ∃ j, j ≠ 0 ∧ gN c.l 3 s = (j, s1))) (h9 : ¬ (k = 9 ∧ c.me + 1 < c.fs.length)) (hp : GXr c 3 s1 p s2) : G1r c e k s [.mk 7 oNil [p] [] []] s2
end
theorem imod_bd {x n : Int} (hn : 0 < n) : 0 ≤ imod x n ∧ imod x n < n := by
 unfold imod
 have h1 := Int.tmod_lt_of_pos x hn
 have h2 := Int.tmod_lt_of_pos (-x) hn
 rw [Int.neg_tmod] at h2
 have h3 : 0 ≤ x.tmod n + n := by omega
 rw [Int.tmod_eq_emod_of_nonneg h3]
 exact ⟨Int.emod_nonneg _ (by omega), Int.emod_lt_of_pos _ hn⟩
theorem gN_bd {l : List Int} {n j : Int} {s s1 : Gs} (hn : 0 < n) (h : gN l n s = (j, s1)) : 0 ≤ j ∧ j < n := by
 unfold gN at h
 split at h
 ·cases h; exact ⟨Int.le_refl _, hn⟩
 ·cases h; exact imod_bd hn
theorem gN_st {l : List Int} {n j : Int} {s s1 : Gs} (h : gN l n s = (j, s1)) : s1 = { s with at_ := s1.at_ } ∧ (s.at_ ≤ l.length → s1.at_ ≤ l.length) := by
 unfold gN at h
 split at h
 ·cases h; exact ⟨rfl, fun h => h⟩
 ·rename_i x hx
  cases h
  exact ⟨rfl, fun _ => (List.getElem?_eq_some_iff.1 hx).1⟩
section
variable {P : Program} {N : Nat} {w0 : World} {M H : Nat → Prop} {E : Env} {Γ R : Ctx} {Q : Exit → Act → World → Prop}
theorem stg_last {l : List Oper} {V : Vals} {C : List Nat} (is : List Nat) {I : Vals} (c : Nat) (C' : List Nat) {d : Nat} {v : Value} {op : Op} {T : TypeId} {ps : String} {af : Array Edge} (hI0 : vpick is V = I) (hst : stOk N E V = true) (hI : PRs P N w0 M H E Γ R l V I) (hcov : covOk V is C = true)
  (hcls : clsOk l (vidx V ++ C) (some c) = true) (ho : l[c]? = some ⟨some d, op, T, ps, af, none⟩) (hd : Nat.blt d N = true) (hcV : inB (vidx V ++ C) c = false)
  (hcl : clOk l C c [] C' = true) (hall : (List.range l.length).all (fun i => inB C' i) = true) (hlt : (vidx V).all (fun i => Nat.blt i l.length) = true) (hpr : PR P N w0 M H (vpre (preds ⟨some d, op, T, ps, af, none⟩) V ++ E) Γ R op v)
  (k : At N w0 M H ((d, v) :: (venv V ++ E)) Γ R (Q .normal)) : Stg P N w0 M H E Γ R l Q V C := by
 refine stg_step is hI0 hst hI hcov (some c) hcls (fun D a w hD hS => ?_) fun k' hk' ord D a w o' hio hDk hprd hrest hS => ?_
 ·have := hS.done c (hD c (List.getElem?_eq_some_iff.1 ho).1)
  rw [mem_inB this] at hcV
  cases hcV
 ·injection hk' with hk'
  subst hk'
  rw [ho] at hio
  injection hio with hio
  subst hio
  have ho' : l.toArray[c]? = some ⟨some d, op, T, ps, af, none⟩ := by simpa using ho
  have hclosed : ∀ (j : Nat) (o' : Oper), l[j]? = some o' → (bif Nat.beq j c then true else D j) = true → ∀ k ∈ preds o', (bif Nat.beq k c then true else D k) = true := by
   intro j o' hoj hj q hq
   cases hb : Nat.beq j c with
   | true =>
    have := Nat.eq_of_beq_eq_true hb
    subst this
    rw [ho] at hoj
    injection hoj with hoj
    subst hoj
    simp [hprd q hq]
   | false => rw [hb] at hj; simp [hS.closed j o' hoj hj q hq]
  have hdone : ∀ i, i < l.length → (bif Nat.beq i c then true else D i) = true := fun i hi =>
   clOk_done (D := fun i => bif Nat.beq i c then true else D i) (fun i hi => by simp [hS.sure i hi]) (by simp) hclosed C' [] hcl (fun s hs => by simp at hs) i (inB_mem (List.all_eq_true.1 hall i (List.mem_range.2 hi)))
  cases hrest with
  | cons ho2 hD2 _ _ =>
   dsimp only at hD2
   rw [hdone _ (List.getElem?_eq_some_iff.1 ho2).1] at hD2
   cases hD2
  | nil h =>
   simp only [wpOps, ho']
   rw [if_pos (by simp [Region.wanted])]
   left
   have hEp : EOk N (vpre (preds ⟨some d, op, T, ps, af, none⟩) V ++ E) a := hS.base.vpre fun j d v hj hjp => hS.vals j d v hj (hprd j hjp)
   unfold Oper.wp
   rw [hpr _ _ _ a w hEp hS.ok _ _]
   have hEv : EOk N (venv V ++ E) a := hS.base.vals fun i e u hm => hS.vals i e u hm (by
    have h1 : i ∈ vidx V := vidx_mem.2 ⟨e, u, hm⟩
    have h2 : Nat.blt i l.length = true := List.all_eq_true.1 hlt i h1
    have h3 := hdone i (by simpa using h2)
    cases hb : Nat.beq i c with
    | true =>
     have := Nat.eq_of_beq_eq_true hb
     subst this
     rw [mem_inB (List.mem_append_left _ h1)] at hcV
     cases hcV
    | false => rw [hb] at h3; exact h3)
   exact k _ _ (hEv.put hd v) hS.ok
end
/-- The grower's cells. -/
def gRow (vl : SV) (s : Gs) (vn : SV) (me : Nat) (vf : SV) : List Value := [sv vl, .int .i64 (s.at_ : Int), .int .i64 s.left, .int .i64 s.nodes, sv vn, .int .i64 s.vars, .int .i64 (me : Int), sv vf]
theorem gN_none {l : List Int} {n : Int} {s : Gs} (h : l.length ≤ s.at_) : gN l n s = (0, s) := by
 unfold gN
 rw [List.getElem?_eq_none h]
theorem gN_some {l : List Int} {n x : Int} {s : Gs} (h : l[s.at_]? = some x) : gN l n s = (imod x n, { s with at_ := s.at_ + 1 }) := by
 unfold gN
 rw [h]
theorem tm_bd (x : Int) {m : Int} (hm : 0 < m) : -m < x.tmod m ∧ x.tmod m < m := by
 have h1 := Int.tmod_lt_of_pos x hm
 have h2 := Int.tmod_lt_of_pos (-x) hm
 rw [Int.neg_tmod] at h2
 omega
set_option maxRecDepth 100000 in
theorem mod_spec (n m : Int) (hm : 0 < m ∧ m ≤ 1000000) :
  Spec Tryz.prog 34 [.int .i64 n, .int .i64 m] [] [] (X := Unit) (fun _ => True) (fun _ => .int .i64 (imod n m)) (fun _ => []) (fun _ => []) := by
 refine r_enter Tryz.func34 rfl Tryz.ntmps34 rfl fun w0 M H => ?_
 refine r_seq (r_region (r_p (p_assign rfl) rfl (r_nil (r_seq (r_region (r_p (p_move rfl) rfl (r_p (p_move rfl) rfl ?_)))))))
 refine r_p (p_bin rfl rfl (b_rem (by omega) rfl)) rfl ?_
 refine r_p (p_move rfl) rfl ?_
 refine r_p (p_bin rfl rfl (b_add (by have := tm_bd n hm.1; exact w_i64 (by omega) (by omega)))) rfl ?_
 refine r_p (p_move rfl) rfl ?_
 refine r_p (p_bin rfl rfl (b_rem (by omega) rfl)) rfl ?_
 refine r_p (p_assign rfl) rfl (r_nil (r_cret ?_))
 refine r_ret () trivial rfl (rs1 (rv_tmp rfl)) rfl [] [] rfl rfl rfl
set_option maxHeartbeats 1000000 in
set_option maxRecDepth 100000 in
theorem gnext_spec (g : Nat) (vl vn vf : SV) (c : Gc) (hl : c.l.length ≤ 1000) (hlo : ∀ x ∈ c.l, okI x) (n : Int) (hn : 0 < n ∧ n ≤ 1000000) (s : Gs) :
  Spec Tryz.prog 31 [.pointer (some ⟨g, 0, none⟩), .int .i64 n] [row g 76 (gRow vl (s) vn c.me vf)] [sl 1 eI (sv vl) c.l] (X := Unit) (fun _ => True) (fun _ => .int .i64 (gN c.l n s).1) (fun _ => [row g 76 (gRow vl ((gN c.l n s).2) vn c.me vf)]) (fun _ => []) := by
 refine r_enter Tryz.func31 rfl Tryz.ntmps31 rfl fun w0 M H => ?_
 refine r_seq (r_region (r_p (p_assign rfl) rfl (r_nil (r_seq (r_seq ?_)))))
 refine r_draw [5, 6, 7, 8, 9, 10, 11, 12, 13, 14] _ rfl (stg_end (V := [(0, 5, _), (1, 6, _), (2, 7, _), (3, 8, _), (4, 9, _), (5, 10, _), (6, 11, _), (7, 12, _), (8, 13, _), (9, 14, _)]) [0, 1, 2, 3, 4, 5, 6, 7, 8, 9] rfl rfl (prs_cons (pri rfl (p_move rfl)) (prs_cons (pri rfl (p_nilCheck rfl)) (prs_cons (pri rfl (p_field0 fo76_1 rfl)) (prs_cons (pri rfl (p_load1 t3 rfl rfl (g_row1 (k := 0) rfl rfl))) (prs_cons (pri rfl (p_move rfl)) (prs_cons (pri rfl (p_nilCheck rfl)) (prs_cons (pri rfl (p_field0 fo76_0 rfl)) (prs_cons (pri rfl (p_load1 t22 rfl rfl (g_row1 (k := 0) rfl rfl))) (prs_cons (pri rfl (p_len_sl Tryz.underlying22 rfl (hs_sl (k := 0) rfl))) (prs_cons (pri rfl (p_bin rfl rfl b_ge)) prs_nil)))))))))) rfl rfl rfl ?_)
 refine r_cond rfl (fun h1 => ?_) (fun h1 => ?_)
 ·(try simp only [decide_eq_true_eq, decide_eq_false_iff_not, Bool.and_eq_true, Bool.or_eq_true, Bool.and_eq_false_iff, Bool.or_eq_false_iff, Bool.not_eq_true, Bool.not_eq_false, Bool.not_eq_true', Bool.not_eq_false', Bool.not_not, bne_iff_ne, beq_iff_eq] at h1)
  rw [gN_none (by omega)]
  refine r_seq (r_region (r_p (p_assign rfl) rfl (r_nil (r_cret ?_))))
  refine r_ret () trivial rfl (rs1 (rv_tmp rfl)) rfl [0] [] rfl rfl rfl
 ·(try simp only [decide_eq_true_eq, decide_eq_false_iff_not, Bool.and_eq_true, Bool.or_eq_true, Bool.and_eq_false_iff, Bool.or_eq_false_iff, Bool.not_eq_true, Bool.not_eq_false, Bool.not_eq_true', Bool.not_eq_false', Bool.not_not, bne_iff_ne, beq_iff_eq] at h1)
  have hlt : s.at_ < c.l.length := by omega
  obtain ⟨x, hx⟩ : ∃ x, c.l[s.at_]? = some x := ⟨_, List.getElem?_eq_getElem hlt⟩
  rw [gN_some hx]
  refine r_skip (r_seq (r_region (r_p (p_move rfl) rfl (r_p (p_nilCheck rfl) rfl ?_))))
  refine r_p (p_field0 fo76_1 rfl) rfl ?_
  refine r_p (p_load1 t3 rfl rfl (g_row1 (k := 0) rfl rfl)) rfl ?_
  refine r_p (p_bin rfl rfl (b_add (by first | exact w_i64 (by omega) (by omega) | rfl))) rfl ?_
  refine r_p (p_nilCheck rfl) rfl ?_
  refine r_p (p_field0 fo76_1 rfl) rfl ?_
  refine r_store_row (k := 0) t3 rfl rfl rfl rfl rfl rfl rfl rfl ?_
  refine r_nil (r_seq ?_)
  refine r_draw [22, 23, 24, 25, 26, 27, 28, 29, 30, 31, 32, 33, 34, 4] _ rfl (stg_mem (V := [(0, 22, _), (1, 23, _), (2, 24, _), (3, 25, _), (4, 26, _), (5, 27, _), (6, 28, _), (7, 29, _), (8, 30, _), (9, 31, _), (10, 32, _), (11, 33, _)]) [0, 1, 2, 3, 4, 5, 6, 7, 8, 9, 10, 11] 12 [12, 11, 10, 9, 8, 7, 6, 5, 4, 3, 2, 1, 0] [13] (fun _ => [(13, 4, _)]) rfl rfl (prs_cons (pri rfl (p_move rfl)) (prs_cons (pri rfl (p_nilCheck rfl)) (prs_cons (pri rfl (p_field0 fo76_0 rfl)) (prs_cons (pri rfl (p_load1 t22 rfl rfl (g_row1 (k := 0) rfl rfl))) (prs_cons (pri rfl (p_move rfl)) (prs_cons (pri rfl (p_nilCheck rfl)) (prs_cons (pri rfl (p_field0 fo76_1 rfl)) (prs_cons (pri rfl (p_load1 t3 rfl rfl (g_row1 (k := 0) rfl rfl))) (prs_cons (pri rfl (p_bin rfl rfl (b_sub (c := (s.at_ : Int)) (by rw [show (s.at_ : Int) + 1 - 1 = (s.at_ : Int) by omega]; exact w_i64 (by omega) (by omega))))) (prs_cons (pri rfl (p_idx_sl (j := s.at_) Tryz.underlying22 t3 rfl rfl (hs_sl (k := 0) rfl) (by omega) hlt)) (prs_cons (pri rfl (p_load1 t3 rfl rfl (g_el' (hs_sl (k := 0) rfl) (by intro _; rfl) hx (by rfl)))) (prs_cons (pri rfl (p_move rfl)) prs_nil)))))))))))) rfl rfl rfl rfl rfl rfl rfl rfl rfl rfl rfl (fun _ _ => rfl) rfl (ms_callN (xs := [.tmp 32, .tmp 33]) (mod_spec x n hn) cb34 [] [] [] rfl rfl rfl rfl rfl rfl rfl rfl (fun _ _ => rfl) (fun _ _ _ => rfl)) (fun _ _ => stg_end [13] rfl rfl (prs_cons (pri rfl (p_assign rfl)) prs_nil) rfl rfl rfl ?_))
  refine r_cret ?_
  refine r_ret () trivial rfl (rs1 (rv_tmp rfl)) rfl [0] [] rfl rfl rfl
theorem gN_idx {l : List Int} {α : Type} {L : List α} {n : Int} (hn : 0 < n) (hL : n = (L.length : Int)) (s : Gs) : ∃ x, L[(gN l n s).1.toNat]? = some x ∧ (gN l n s).1.toNat < L.length ∧ (gN l n s).1 = ((gN l n s).1.toNat : Int) := by
 have h := gN_bd (l := l) (s := s) (j := (gN l n s).1) (s1 := (gN l n s).2) hn rfl
 have h2 : (gN l n s).1.toNat < L.length := by omega
 exact ⟨_, List.getElem?_eq_getElem h2, h2, by omega⟩
set_option maxHeartbeats 1000000 in
set_option maxRecDepth 100000 in
theorem gconst_spec (g : Nat) (vl vn vf : SV) (c : Gc) (hl : c.l.length ≤ 1000) (hlo : ∀ x ∈ c.l, okI x) (s : Gs) :
  Spec Tryz.prog 86 [.pointer (some ⟨g, 0, none⟩)] [row g 76 (gRow vl (s) vn c.me vf)] [sl 1 eI (sv vl) c.l] (X := Int) (fun x => cL[(gN c.l 15 s).1.toNat]? = some x) (fun x => xV (tNum x)) (fun _ => [row g 76 (gRow vl ((gN c.l 15 s).2) vn c.me vf)]) (fun _ => []) := by
 refine r_enter Tryz.func86 rfl Tryz.ntmps86 rfl fun w0 M H => ?_
 refine r_seq (r_region ?_)
 refine r_alloc t48 rfl rfl fun b2 => ?_
 refine r_nil (r_seq (r_region ?_))
 refine r_bslice eU cL (parts := [(0, .const (.int .u32 0)), (1, .const (.int .u32 1)), (2, .const (.int .u32 2)), (3, .const (.int .u32 3)), (4, .const (.int .u32 5)), (5, .const (.int .u32 8)), (6, .const (.int .u32 31)), (7, .const (.int .u32 32)), (8, .const (.int .u32 255)), (9, .const (.int .u32 256)), (10, .const (.int .u32 65535)), (11, .const (.int .u32 131072)), (12, .const (.int .u32 2147483647)), (13, .const (.int .u32 2147483648)), (14, .const (.int .u32 4294967295))]) Tryz.underlying23 t36 rfl (by decide) (by intro _; rfl) rfl (by decide) (by decide) rfl rfl rfl rfl fun v4 => ?_
 refine r_p (p_assign rfl) rfl (r_nil (r_seq (r_region (r_p (p_move rfl) rfl (r_p (p_move rfl) rfl (r_p (p_move rfl) rfl ?_))))))
 refine r_p (p_len_sl Tryz.underlying23 rfl (hs_own (k := 4) rfl)) rfl ?_
 refine r_callN (xs := [.tmp 6, .tmp 8]) (gnext_spec g vl vn vf c hl hlo 15 (by decide) s) cb31 [0] [(false, 0)] [0] rfl rfl rfl rfl rfl rfl rfl rfl (fun _ _ => rfl) (fun _ _ _ => rfl) rfl (fun _ _ => ?_)
 obtain ⟨x, hx, hj1, hj2⟩ := gN_idx (l := c.l) (L := cL) (n := 15) (by decide) rfl s
 refine r_p (p_idx_sl (j := (gN c.l 15 s).1.toNat) Tryz.underlying23 t36 rfl rfl (hs_own (k := 4) rfl) hj2 hj1) rfl ?_
 refine r_p (p_load1 t36 rfl rfl (g_el' (hs_own (k := 4) rfl) (by intro _; rfl) hx (by rfl))) rfl ?_
 refine r_p (p_build (parts := [(0, .const (.int .i64 1)), (1, .tmp 11)]) t48 pl48 rfl rfl) rfl ?_
 refine r_store_all (k := 2) t48 rfl rfl rfl rfl rfl rfl ?_
 refine r_nil (r_cret ?_)
 refine r_ret x hx rfl (rs1 (rv_cellA t48 rfl rfl rfl (g_all (k := 2) rfl))) rfl [0] [] rfl rfl rfl
theorem gN_keep (l : List Int) (n : Int) (s : Gs) : (gN l n s).2.names = s.names ∧ (gN l n s).2.left = s.left ∧ (gN l n s).2.vars = s.vars := by
 have h := (gN_st (l := l) (n := n) (s := s) (j := (gN l n s).1) (s1 := (gN l n s).2) (by exact Prod.eta _)).1
 rw [h]
 exact ⟨rfl, rfl, rfl⟩
theorem gN_bnd (l : List Int) {n : Int} (hn : 0 < n) (s : Gs) : 0 ≤ (gN l n s).1 ∧ (gN l n s).1 < n := gN_bd (j := (gN l n s).1) (s1 := (gN l n s).2) hn (by exact Prod.eta _)
theorem gN_st2 {l : List Int} {n j : Int} {s s1 : Gs} (h : gN l n s = (j, s1)) : s1.names = s.names ∧ s1.left = s.left ∧ s1.vars = s.vars := by
 rw [(gN_st h).1]
 exact ⟨rfl, rfl, rfl⟩
theorem gK_st {l : List Int} {d : Nat} {s s1 : Gs} {k : Int} (h : gK l d s = (k, s1)) : s1.names = s.names ∧ s1.left = s.left ∧ s1.vars = s.vars := by
 unfold gK at h
 have h2 : (gN l 16 { s with nodes := IntKind.i64.wrap (s.nodes - 1) }).2 = s1 := congrArg Prod.snd h
 have h3 := gN_keep l 16 { s with nodes := IntKind.i64.wrap (s.nodes - 1) }
 rw [h2] at h3
 exact h3
theorem tx_up {w : World} {F G : Nat → Prop} {t : Tx} (h : (txsA t.v t.kids).pred w G) (hs : ∀ b, G b → F b) : TxIn w F t := by
 have h2 : TxIn w G t := by
  cases t
  exact h
 exact TxIn.mono hs (fun _ _ => rfl) t h2
/-- The parts of expressions can be read. -/
def xsA (l : List Tx) : Asn := ⟨fun w F => TxsIn w F l, fun h hs => TxsIn.mono (fun _ hb => hb) hs _ h⟩
theorem xs_snoc {w : World} {F : Nat → Prop} : ∀ {l : List Tx} {t : Tx}, TxsIn w F l → TxIn w F t → TxsIn w F (l ++ [t])
 | [], t, _, ht => ⟨ht, trivial⟩
 | a :: r, t, h, ht => ⟨h.1, xs_snoc h.2 ht⟩
theorem xs_up {w : World} {F G : Nat → Prop} {l : List Tx} (h : (xsA l).pred w G) (hs : ∀ b, G b → F b) : TxsIn w F l := TxsIn.mono hs (fun _ _ => rfl) l h
theorem leaf_all (w : World) (F : Nat → Prop) (_ : AllIn w F []) : (txsA nilS []).pred w F := ⟨nil_in, trivial⟩
theorem one_all {v : SV} {t : Tx} (w : World) (F : Nat → Prop) (h : AllIn w F [own 48 4 eTx (sv v) [t], txsA t.v t.kids]) : (txsA v [t]).pred w F := by
 obtain ⟨⟨_, a0, b0⟩, ⟨_, a1, b1⟩, _⟩ := h
 exact ⟨own_in a0 b0, tx_up a1 b1, trivial⟩
theorem two_all {v : SV} {t u : Tx} (w : World) (F : Nat → Prop) (h : AllIn w F [own 48 4 eTx (sv v) [t, u], txsA t.v t.kids, txsA u.v u.kids]) : (txsA v [t, u]).pred w F := by
 obtain ⟨⟨_, a0, b0⟩, ⟨_, a1, b1⟩, ⟨_, a2, b2⟩, _⟩ := h
 exact ⟨own_in a0 b0, tx_up a1 b1, tx_up a2 b2, trivial⟩
theorem kid_all {l : List Tx} {t : Tx} (w : World) (F : Nat → Prop) (h : AllIn w F [xsA l, txsA t.v t.kids]) : (xsA (l ++ [t])).pred w F := by
 obtain ⟨⟨_, a0, b0⟩, ⟨_, a1, b1⟩, _⟩ := h
 exact xs_snoc (xs_up a0 b0) (tx_up a1 b1)
theorem kids_all {v : SV} {l : List Tx} (w : World) (F : Nat → Prop) (h : AllIn w F [own 48 4 eTx (sv v) l, xsA l]) : (txsA v l).pred w F := by
 obtain ⟨⟨_, a0, b0⟩, ⟨_, a1, b1⟩, _⟩ := h
 exact ⟨own_in a0 b0, xs_up a1 b1⟩
/-- What does not change, with where it lies. -/
structure Ge where
 g : Nat
 vl : SV
 vn : SV
 vf : SV
 c : Gc
 F : List Tf
structure Gfine (e : Ge) : Prop where
 hl : e.c.l.length ≤ 1000
 hlo : ∀ x ∈ e.c.l, okI x
 fs : e.c.fs = e.F.map fun f => (f.name, f.ps)
 fl : e.F.length ≤ 100
 me : e.c.me ≤ 100
 ps : ∀ f ∈ e.F, f.ps.length ≤ 100
/-- The contract of an expression. -/
def HGX (e : Ge) (d : Nat) : Prop := ∀ s : Gs, s.names.length ≤ 1000 → Spec Tryz.prog 49 [.pointer (some ⟨e.g, 0, none⟩), .int .i64 ((d : Int) + 1)] [row e.g 76 (gRow e.vl s e.vn e.c.me e.vf)] [sl 1 eI (sv e.vl) e.c.l, sl 1 eS (sv e.vn) s.names, tfsA e.vf e.F] (X := Tx × Gs) (fun x => GXr e.c d s (erX x.1) x.2) (fun x => xV x.1) (fun x => [row e.g 76 (gRow e.vl x.2 e.vn e.c.me e.vf), txsA x.1.v x.1.kids]) (fun _ => [])
/-- The contract of a call. -/
def HGC (e : Ge) (d : Nat) : Prop := ∀ (s : Gs) (f : Tf), f ∈ e.F → s.names.length ≤ 1000 → Spec Tryz.prog 50 [.pointer (some ⟨e.g, 0, none⟩), tfV f, .int .i64 ((d : Int) + 2)] [row e.g 76 (gRow e.vl s e.vn e.c.me e.vf)] [sl 1 eI (sv e.vl) e.c.l, sl 1 eS (sv e.vn) s.names, tfsA e.vf e.F] (X := Tx × Gs) (fun x => GCr e.c d (f.name, f.ps) s (erX x.1) x.2) (fun x => xV x.1) (fun x => [row e.g 76 (gRow e.vl x.2 e.vn e.c.me e.vf), txsA x.1.v x.1.kids]) (fun _ => [])
mutual
theorem GXr.keep {c : Gc} : ∀ {d : Nat} {s s' : Gs} {p : Px}, GXr c d s p s' → s'.names = s.names ∧ s'.left = s.left ∧ s'.vars = s.vars
 | _, s, _, _, .nam (s1 := s1) hk _ _ hj _ => by
  have h1 := gK_st hk; have h2 := (gN_st hj).1
  rw [h2]; exact h1
 | _, _, _, _, .inp hk => gK_st hk
 | _, _, _, _, .mem hk _ hp => by
  have h1 := gK_st hk; have h2 := hp.keep
  exact ⟨h2.1.trans h1.1, h2.2.1.trans h1.2.1, h2.2.2.trans h1.2.2⟩
 | _, _, _, _, .una hk hj _ hp => by
  have h1 := gK_st hk; have h3 := gN_st2 hj; have h2 := hp.keep
  exact ⟨h2.1.trans (h3.1.trans h1.1), h2.2.1.trans (h3.2.1.trans h1.2.1), h2.2.2.trans (h3.2.2.trans h1.2.2)⟩
 | _, _, _, _, .call hk _ hj _ hp => by
  have h1 := gK_st hk; have h3 := gN_st2 hj; have h2 := hp.keep
  exact ⟨h2.1.trans (h3.1.trans h1.1), h2.2.1.trans (h3.2.1.trans h1.2.1), h2.2.2.trans (h3.2.2.trans h1.2.2)⟩
 | _, _, _, _, .bin hk _ hj _ hp hq => by
  have h1 := gK_st hk; have h3 := gN_st2 hj; have h2 := hp.keep; have h4 := hq.keep
  exact ⟨h4.1.trans (h2.1.trans (h3.1.trans h1.1)), h4.2.1.trans (h2.2.1.trans (h3.2.1.trans h1.2.1)), h4.2.2.trans (h2.2.2.trans (h3.2.2.trans h1.2.2))⟩
 | _, _, _, _, .con hk _ _ _ _ _ _ _ hj _ => by
  have h1 := gK_st hk; have h3 := gN_st2 hj
  exact ⟨h3.1.trans h1.1, h3.2.1.trans h1.2.1, h3.2.2.trans h1.2.2⟩
theorem GKr.keep {c : Gc} : ∀ {d n : Nat} {s s' : Gs} {ps : List Px}, GKr c d n s ps s' → s'.names = s.names ∧ s'.left = s.left ∧ s'.vars = s.vars
 | _, _, _, _, _, .nil => ⟨rfl, rfl, rfl⟩
 | _, _, _, _, _, .cons hp hq => by
  have h1 := hp.keep; have h2 := hq.keep
  exact ⟨h2.1.trans h1.1, h2.2.1.trans h1.2.1, h2.2.2.trans h1.2.2⟩
end
set_option maxHeartbeats 4000000 in
set_option maxRecDepth 100000 in
theorem gcall_step (e : Ge) (he : Gfine e) (d : Nat) (hd : d ≤ 10) (ih : HGX e d) (s : Gs) (f : Tf) (hf : f ∈ e.F) (hn : s.names.length ≤ 1000) :
  Spec Tryz.prog 50 [.pointer (some ⟨e.g, 0, none⟩), tfV f, .int .i64 ((d : Int) + 2)] [row e.g 76 (gRow e.vl (s) e.vn e.c.me e.vf)] [sl 1 eI (sv e.vl) e.c.l, sl 1 eS (sv e.vn) s.names, tfsA e.vf e.F] (X := Tx × Gs) (fun x => GCr e.c d (f.name, f.ps) s (erX x.1) x.2) (fun x => xV x.1) (fun x => [row e.g 76 (gRow e.vl (x.2) e.vn e.c.me e.vf), txsA x.1.v x.1.kids]) (fun _ => []) := by
 refine r_enter Tryz.func50 rfl Tryz.ntmps50 rfl fun w0 M H => ?_
 refine r_more 2 4 rfl (tfs_f hf) ?_
 refine r_more 4 3 rfl tf_ps ?_
 have hpl := he.ps f hf
 refine r_seq (r_region ?_)
 refine r_boxA rfl rfl fun b4 => ?_
 refine r_alloc t48 rfl rfl fun b6 => ?_
 refine r_nil (r_seq (r_region ?_))
 refine r_p (p_field0 fo63_0 rfl) rfl ?_
 refine r_p (p_load1 t9 rfl rfl (g_row1 (k := 4) rfl rfl)) rfl ?_
 refine r_p (p_build (parts := [(0, .const (.int .i64 3)), (2, .tmp 10)]) t48 pl48 rfl rfl) rfl ?_
 refine r_alloc t48 rfl rfl fun b7 => ?_
 refine r_store_all (k := 7) t48 rfl rfl rfl rfl rfl rfl ?_
 refine r_nil (r_seq (r_seq (r_region (r_p (p_assign rfl) rfl (r_nil (r_block ?_))))))
 refine r_nilown 40 (α := Tx) (S := 48) (s := 4) (enc := eTx) ?_
 refine r_collect 41 [] (L := []) (C := xsA []) rfl (fun _ _ _ => trivial) ?_
 refine r_loop (X := Nat × SV × List Tx × Gs) (fun x => x.1 ≤ f.ps.length ∧ x.2.2.1.length = x.1 ∧ GKr e.c d x.1 s (erXs x.2.2.1) x.2.2.2) (fun x => [(0, .pointer (some ⟨e.g, 0, none⟩)), (2, .int .i64 ((d : Int) + 2)), (4, .pointer (some ⟨b4, 0, none⟩)), (6, .pointer (some ⟨b6, 0, none⟩)), (7, .pointer (some ⟨b7, 0, none⟩)), (8, .int .i64 (x.1 : Int))]) (fun x => [(0, row e.g 76 (gRow e.vl (x.2.2.2) e.vn e.c.me e.vf)), (4, row b4 63 (eTf f)), (6, row b6 48 (eTx (.mk 0 0 oNil nilS []))), (7, row b7 48 (eTx (.mk 3 0 f.name x.2.1 x.2.2.1))), (40, own 48 4 eTx (sv x.2.1) x.2.2.1), (41, xsA x.2.2.1)]) (fun x => [(0, sl 1 eI (sv e.vl) e.c.l), (1, sl 1 eS (sv e.vn) s.names), (2, tfsA e.vf e.F), (3, sl 1 eS (sv f.vp) f.ps)]) (fun x => f.ps.length - x.1) (0, nilS, [], s) ⟨Nat.zero_le _, rfl, .nil⟩ rfl rfl rfl (fun x hx0 => ?_)
 obtain ⟨i, vk, kids, sx⟩ := x
 obtain ⟨n1, n2, n3⟩ := hx0
 dsimp only at n1 n2 n3 ⊢
 have n4 : kids = kids := rfl
 refine r_seq (r_seq (r_region (r_p (p_move rfl) rfl ?_)))
 refine r_p (p_field0 fo63_1 rfl) rfl ?_
 refine r_p (p_load1 t58 rfl rfl (g_row1 (k := 4) rfl rfl)) rfl ?_
 refine r_p (p_len_sl Tryz.underlying58 rfl (hs_sl (k := 3) rfl)) rfl ?_
 refine r_p (p_bin rfl rfl b_lt) rfl ?_
 refine r_nil ?_
 refine r_cond rfl (fun h1 => ?_) (fun h1 => ?_)
 ·(try simp only [decide_eq_true_eq, decide_eq_false_iff_not, Bool.and_eq_true, Bool.or_eq_true, Bool.and_eq_false_iff, Bool.or_eq_false_iff, Bool.not_eq_true, Bool.not_eq_false, Bool.not_eq_true', Bool.not_eq_false', Bool.not_not, bne_iff_ne, beq_iff_eq] at h1)
  have hi : i < f.ps.length := by omega
  refine r_skip (r_seq (r_block ?_))
  refine r_draw [19, 20, 21, 22, 23, 24, 25, 26, 27] _ rfl (stg_mem (V := [(0, 19, _), (1, 20, _), (2, 21, _), (3, 22, _), (4, 23, _)]) [0, 1, 2, 3, 4] 5 [5, 4, 3, 2] [] (fun xt => []) rfl rfl (prs_cons (pri rfl (p_field0 fo48_3 rfl)) (prs_cons (pri rfl (p_load1 t46 rfl rfl (g_row1 (k := 7) rfl rfl))) (prs_cons (pri rfl (p_move rfl)) (prs_cons (pri rfl (p_move rfl)) (prs_cons (pri rfl (p_bin rfl rfl (b_sub (c := (d : Int) + 1) (by rw [show (d : Int) + 2 - 1 = (d : Int) + 1 by omega]; exact w_i64 (by omega) (by omega))))) prs_nil))))) rfl rfl rfl rfl rfl rfl rfl rfl rfl rfl rfl (fun _ _ => rfl) rfl (ms_callN (xs := [.tmp 21, .tmp 23]) (ih sx (by rw [n3.keep.1]; exact hn)) cb49 [0] [(false, 0), (false, 1), (false, 2)] [0, 24] rfl rfl rfl rfl rfl (by rw [← n3.keep.1]; rfl) rfl rfl (fun _ _ => rfl) (fun _ _ _ => rfl)) (fun xt hxt => stg_mem [0, 1] 6 [6, 5, 4, 3, 2] [] (fun v25 => []) rfl rfl (prs_cons (pri rfl (p_field0 fo48_3 rfl)) (prs_cons (pri rfl (p_load1 t46 rfl rfl (g_row1 (k := 7) rfl rfl))) prs_nil)) rfl rfl rfl rfl rfl rfl rfl rfl rfl rfl rfl (fun _ _ => rfl) rfl (ms_bslice1 eTx xt.1 Tryz.underlying46 t48 rfl (by decide) (by decide) rfl rfl rfl) (fun v25 _ => stg_mem [0, 1] 7 [7, 6, 5, 4, 3, 2, 1, 0] [8] (fun v26 => [(8, 27, _)]) rfl rfl (prs_cons (pri rfl (p_field0 fo48_3 rfl)) (prs_cons (pri rfl (p_load1 t46 rfl rfl (g_row1 (k := 7) rfl rfl))) prs_nil)) rfl rfl rfl rfl rfl rfl rfl rfl rfl rfl rfl (fun _ _ => rfl) rfl (ms_append 40 Tryz.underlying46 t48 rfl (by decide) (fun _ => rfl) (fun _ => rfl) rfl rfl rfl (hs_own (k := 25) rfl) (by have := congrArg List.length n4; simp only [List.length_singleton]; omega) (by unfold maxLen; simp only [List.length_singleton]; omega)) (fun v26 _ => stg_mem0 [8] 9 [9, 8, 7, 6, 5, 4, 3, 2, 1, 0] [] (fun _ => []) rfl rfl (prs_cons (pri rfl (p_field0 fo48_3 rfl)) prs_nil) rfl rfl rfl rfl rfl rfl rfl rfl rfl (fun _ _ => rfl) rfl (ms_store_row (k := 7) t46 rfl rfl rfl rfl rfl rfl rfl rfl) (fun _ _ => stg_end [] rfl rfl prs_nil rfl rfl rfl ?_)))))
  refine r_region (r_p (p_move rfl) rfl ?_)
  refine r_p (p_bin rfl rfl (b_add (by first | exact w_i64 (by omega) (by omega) | rfl))) rfl ?_
  refine r_p (p_assign rfl) rfl (r_nil ?_)
  refine r_collect 41 [41, 24] rfl kid_all ?_
  refine r_here (i + 1, v26, kids ++ [xt.1], xt.2) ⟨⟨by dsimp only; omega, by dsimp only; rw [List.length_append, List.length_singleton, n2], by dsimp only; rw [erXs_app]; exact n3.snoc hxt⟩, by dsimp only; omega⟩ rfl rfl rfl
 ·(try simp only [decide_eq_true_eq, decide_eq_false_iff_not, Bool.and_eq_true, Bool.or_eq_true, Bool.and_eq_false_iff, Bool.or_eq_false_iff, Bool.not_eq_true, Bool.not_eq_false, Bool.not_eq_true', Bool.not_eq_false', Bool.not_not, bne_iff_ne, beq_iff_eq] at h1)
  have hi : i = f.ps.length := by omega
  subst hi
  refine r_exit (r_seq (r_region ?_))
  refine r_p (p_loadA t48 rfl rfl rfl (g_all (k := 7) rfl)) rfl ?_
  refine r_store_all (k := 6) t48 rfl rfl rfl rfl rfl rfl ?_
  refine r_nil (r_cret ?_)
  refine r_collect 50 [40, 41] rfl kids_all ?_
  refine r_ret (.mk 3 0 f.name vk kids, sx) ⟨erXs kids, n3, rfl⟩ rfl (rs1 (rv_cellA t48 rfl rfl rfl (g_all (k := 6) rfl))) rfl [0, 50] [] rfl rfl rfl
set_option maxHeartbeats 16000000 in
set_option maxRecDepth 100000 in
theorem gexpr_step (e : Ge) (he : Gfine e) (d : Nat) (hd : d ≤ 10) (ihX : ∀ k, d = k + 1 → HGX e k) (ihC : ∀ k, d = k + 1 → HGC e k) (s : Gs) (hn : s.names.length ≤ 1000) :
  Spec Tryz.prog 49 [.pointer (some ⟨e.g, 0, none⟩), .int .i64 ((d : Int) + 1)] [row e.g 76 (gRow e.vl (s) e.vn e.c.me e.vf)] [sl 1 eI (sv e.vl) e.c.l, sl 1 eS (sv e.vn) s.names, tfsA e.vf e.F] (X := Tx × Gs) (fun x => GXr e.c d s (erX x.1) x.2) (fun x => xV x.1) (fun x => [row e.g 76 (gRow e.vl (x.2) e.vn e.c.me e.vf), txsA x.1.v x.1.kids]) (fun _ => []) := by
 refine r_enter Tryz.func49 rfl Tryz.ntmps49 rfl fun w0 M H => ?_
 refine r_more 2 3 rfl tfs_sl ?_
 have hfl : e.c.fs.length = e.F.length := by rw [he.fs, List.length_map]
 have hflb := he.fl
 have hmeb := he.me
 obtain ⟨k0, s1, hr⟩ : ∃ k0 s1, gN e.c.l 16 { s with nodes := IntKind.i64.wrap (s.nodes - 1) } = (k0, s1) := ⟨_, _, rfl⟩
 have hkb := gN_bd (by decide) hr
 have hst := gN_st2 hr
 obtain ⟨k, hkk⟩ : ∃ k, (if d = 0 ∨ s1.nodes < 1 then k0 % 4 else k0) = k := ⟨_, rfl⟩
 have hk : gK e.c.l d s = (k, s1) := by
  unfold gK
  rw [hr, ← hkk]
 have hn1 : s1.names = s.names := hst.1
 have hk16 : 0 ≤ k ∧ k < 16 := by rw [← hkk]; split <;> omega
 have hk4 : d = 0 → k < 4 := fun h => by rw [← hkk, if_pos (.inl h)]; omega
 refine r_seq (r_region ?_)
 refine r_alloc t48 rfl rfl fun b4 => ?_
 refine r_nil (r_seq (r_region (r_p (p_move rfl) rfl (r_p (p_nilCheck rfl) rfl ?_))))
 refine r_p (p_field0 fo76_3 rfl) rfl ?_
 refine r_p (p_load1 t3 rfl rfl (g_row1 (k := 0) rfl rfl)) rfl ?_
 refine r_p (p_bin rfl rfl (b_sub rfl)) rfl ?_
 refine r_p (p_nilCheck rfl) rfl ?_
 refine r_p (p_field0 fo76_3 rfl) rfl ?_
 refine r_store_row (k := 0) t3 rfl rfl rfl rfl rfl rfl rfl rfl ?_
 refine r_nil (r_seq (r_region (r_p (p_move rfl) rfl ?_)))
 refine r_callN (xs := [.tmp 17, .const (.int .i64 16)]) (gnext_spec e.g e.vl e.vn e.vf e.c he.hl he.hlo (16) (by decide) ({ s with nodes := IntKind.i64.wrap (s.nodes - 1) })) cb31 [0] [(false, 0)] [0] rfl rfl rfl rfl rfl rfl rfl rfl (fun _ _ => rfl) (fun _ _ _ => rfl) rfl (fun _ _ => ?_)
 rw [hr]
 refine r_p (p_assign rfl) rfl (r_nil ?_)
 refine r_seq_cut (X := Unit) (fun _ => True) (fun _ => [(0, .pointer (some ⟨e.g, 0, none⟩)), (1, .int .i64 ((d : Int) + 1)), (4, .pointer (some ⟨b4, 0, none⟩)), (5, .int .i64 k)]) (fun _ => [(0, row e.g 76 (gRow e.vl (s1) e.vn e.c.me e.vf)), (4, row b4 48 (eTx (.mk 0 0 oNil nilS [])))]) (fun _ => [(0, sl 1 eI (sv e.vl) e.c.l), (1, sl 1 eS (sv e.vn) s.names), (2, tfsA e.vf e.F), (3, sl 3 eTf (sv e.vf) e.F)]) ?_ (fun _ _ => ?_)
 ·refine r_seq (r_region (r_p (p_move rfl) rfl ?_))
  refine r_p (p_bin rfl rfl b_le) rfl ?_
  refine r_p (p_move rfl) rfl ?_
  refine r_gp [] rfl rfl trivial (fun hg1 => p_move rfl) rfl ?_
  refine r_gp [(22, _)] rfl rfl ⟨rfl, trivial⟩ (fun hg2 => p_nilCheck rfl) rfl ?_
  refine r_gp [(22, _), (23, _)] rfl rfl ⟨rfl, rfl, trivial⟩ (fun hg3 => p_field0 fo76_3 rfl) rfl ?_
  refine r_gp [(22, _), (23, _), (24, _)] rfl rfl ⟨rfl, rfl, rfl, trivial⟩ (fun hg4 => p_load1 t3 rfl rfl (g_row1 (k := 0) rfl rfl)) rfl ?_
  refine r_gp [(22, _), (23, _), (24, _), (25, _)] rfl rfl ⟨rfl, rfl, rfl, rfl, trivial⟩ (fun hg5 => p_bin rfl rfl b_lt) rfl ?_
  refine r_p (p_pick rfl rfl rfl (by first | exact pick_and | exact pick_or |  rfl)) rfl ?_
  refine r_nil ?_
  refine r_cond rfl (fun h6 => ?_) (fun h6 => ?_)
  ·(try simp only [decide_eq_true_eq, decide_eq_false_iff_not, Bool.and_eq_true, Bool.or_eq_true, Bool.and_eq_false_iff, Bool.or_eq_false_iff, Bool.not_eq_true, Bool.not_eq_false, Bool.not_eq_true', Bool.not_eq_false', Bool.not_not, bne_iff_ne, beq_iff_eq] at h6)
   have hsm : d = 0 ∨ s1.nodes < 1 := by rcases h6 with h | h; exact .inl (by omega); exact .inr h
   refine r_region (r_p (p_move rfl) rfl ?_)
   refine r_p (p_bin rfl rfl (b_rem (by decide) (Int.tmod_eq_emod_of_nonneg hkb.1))) rfl ?_
   refine r_p (p_assign rfl) rfl (r_nil ?_)
   refine r_here () trivial (by rw [← hkk, if_pos hsm]; rfl) rfl rfl
  ·(try simp only [decide_eq_true_eq, decide_eq_false_iff_not, Bool.and_eq_true, Bool.or_eq_true, Bool.and_eq_false_iff, Bool.or_eq_false_iff, Bool.not_eq_true, Bool.not_eq_false, Bool.not_eq_true', Bool.not_eq_false', Bool.not_not, bne_iff_ne, beq_iff_eq] at h6)
   have hsm : ¬ (d = 0 ∨ s1.nodes < 1) := by rintro (h | h); exact h6.1 (by omega); exact h6.2 h
   refine r_skip ?_
   refine r_here () trivial (by rw [← hkk, if_neg hsm]; rfl) rfl rfl
 ·refine r_seq (r_block (r_seq (r_region (r_p (p_move rfl) rfl ?_))))
  refine r_p (p_bin rfl rfl b_eq) rfl ?_
  refine r_p (p_move rfl) rfl ?_
  refine r_gp [] rfl rfl trivial (fun hg7 => p_move rfl) rfl ?_
  refine r_gp [(34, _)] rfl rfl ⟨rfl, trivial⟩ (fun hg8 => p_nilCheck rfl) rfl ?_
  refine r_gp [(34, _), (35, _)] rfl rfl ⟨rfl, rfl, trivial⟩ (fun hg9 => p_field0 fo76_4 rfl) rfl ?_
  refine r_gp [(34, _), (35, _), (36, _)] rfl rfl ⟨rfl, rfl, rfl, trivial⟩ (fun hg10 => p_load1 t58 rfl rfl (g_row1 (k := 0) rfl rfl)) rfl ?_
  refine r_gp [(34, _), (35, _), (36, _), (37, _)] rfl rfl ⟨rfl, rfl, rfl, rfl, trivial⟩ (fun hg11 => p_len_sl Tryz.underlying58 rfl (hs_sl (k := 1) rfl)) rfl ?_
  refine r_gp [(34, _), (35, _), (36, _), (37, _), (38, _)] rfl rfl ⟨rfl, rfl, rfl, rfl, rfl, trivial⟩ (fun hg12 => p_bin rfl rfl b_gt) rfl ?_
  refine r_p (p_pick rfl rfl rfl (by first | exact pick_and | exact pick_or |  rfl)) rfl ?_
  refine r_p (p_move rfl) rfl ?_
  refine r_gp [] rfl rfl trivial (fun hg13 => p_move rfl) rfl ?_
  refine r_gp [(42, _)] rfl rfl ⟨rfl, trivial⟩ (fun hg14 => p_bin rfl rfl b_eq) rfl ?_
  refine r_gp [(42, _), (43, _)] rfl rfl ⟨rfl, rfl, trivial⟩ (fun hg15 => p_move rfl) rfl ?_
  refine r_gp2 [] [(42, _), (43, _), (44, _)] rfl rfl trivial ⟨rfl, rfl, rfl, trivial⟩ (fun hg16 hg16' => p_move rfl) rfl ?_
  refine r_gp2 [(45, _)] [(42, _), (43, _), (44, _)] rfl rfl ⟨rfl, trivial⟩ ⟨rfl, rfl, rfl, trivial⟩ (fun hg17 hg17' => p_nilCheck rfl) rfl ?_
  refine r_gp2 [(45, _), (46, _)] [(42, _), (43, _), (44, _)] rfl rfl ⟨rfl, rfl, trivial⟩ ⟨rfl, rfl, rfl, trivial⟩ (fun hg18 hg18' => p_field0 fo76_4 rfl) rfl ?_
  refine r_gp2 [(45, _), (46, _), (47, _)] [(42, _), (43, _), (44, _)] rfl rfl ⟨rfl, rfl, rfl, trivial⟩ ⟨rfl, rfl, rfl, trivial⟩ (fun hg19 hg19' => p_load1 t58 rfl rfl (g_row1 (k := 0) rfl rfl)) rfl ?_
  refine r_gp2 [(45, _), (46, _), (47, _), (48, _)] [(42, _), (43, _), (44, _)] rfl rfl ⟨rfl, rfl, rfl, rfl, trivial⟩ ⟨rfl, rfl, rfl, trivial⟩ (fun hg20 hg20' => p_len_sl Tryz.underlying58 rfl (hs_sl (k := 1) rfl)) rfl ?_
  refine r_gp2 [(45, _), (46, _), (47, _), (48, _), (49, _)] [(42, _), (43, _), (44, _)] rfl rfl ⟨rfl, rfl, rfl, rfl, rfl, trivial⟩ ⟨rfl, rfl, rfl, trivial⟩ (fun hg21 hg21' => p_bin rfl rfl b_gt) rfl ?_
  refine r_gp [(42, _), (43, _), (44, _)] rfl rfl ⟨rfl, rfl, rfl, trivial⟩ (fun hg22 => p_pick rfl rfl rfl (by first | exact pick_and | exact pick_or | exact pick_and2 hg22 | exact pick_or2 hg22 | rfl)) rfl ?_
  refine r_p (p_pick rfl rfl rfl (by first | exact pick_and | exact pick_or |  rfl)) rfl ?_
  refine r_p (p_assign rfl) rfl (r_nil ?_)
  refine r_cond rfl (fun h23 => ?_) (fun h23 => ?_)
  ·(try simp only [decide_eq_true_eq, decide_eq_false_iff_not, Bool.and_eq_true, Bool.or_eq_true, Bool.and_eq_false_iff, Bool.or_eq_false_iff, Bool.not_eq_true, Bool.not_eq_false, Bool.not_eq_true', Bool.not_eq_false', Bool.not_not, bne_iff_ne, beq_iff_eq] at h23)
   have hq : (k = 1 ∨ k = 2) ∧ 0 < s1.names.length := by rw [hn1]; rcases h23 with h | h; exact ⟨.inl h.1, by omega⟩; exact ⟨.inr h.1, by omega⟩
   have hsl := hq.2
   rw [hn1] at hsl
   obtain ⟨x6, hx6, hja6, hjb6⟩ := gN_idx (l := e.c.l) (L := s.names) (n := (s.names.length : Int)) (by omega) rfl (s1)
   refine r_seq ?_
   refine r_draw [53, 54, 55, 56, 57, 58, 59, 60, 61, 62, 63, 64, 65, 66] _ rfl (stg_mem (V := [(0, 53, _), (1, 54, _), (2, 55, _), (3, 56, _), (4, 57, _), (5, 58, _), (6, 59, _), (7, 60, _), (8, 61, _), (9, 62, _)]) [0, 1, 2, 3, 4, 5, 6, 7, 8, 9] 10 [10, 9, 8, 7, 6, 5, 4] [11, 12, 13] (fun _ => [(11, 64, _), (12, 65, _), (13, 66, _)]) rfl rfl (prs_cons (pri rfl (p_move rfl)) (prs_cons (pri rfl (p_nilCheck rfl)) (prs_cons (pri rfl (p_field0 fo76_4 rfl)) (prs_cons (pri rfl (p_load1 t58 rfl rfl (g_row1 (k := 0) rfl rfl))) (prs_cons (pri rfl (p_move rfl)) (prs_cons (pri rfl (p_move rfl)) (prs_cons (pri rfl (p_nilCheck rfl)) (prs_cons (pri rfl (p_field0 fo76_4 rfl)) (prs_cons (pri rfl (p_load1 t58 rfl rfl (g_row1 (k := 0) rfl rfl))) (prs_cons (pri rfl (p_len_sl Tryz.underlying58 rfl (hs_sl (k := 1) rfl))) prs_nil)))))))))) rfl rfl rfl rfl rfl rfl rfl rfl rfl rfl rfl (fun _ _ => rfl) rfl (ms_callN (xs := [.tmp 57, .tmp 62]) (gnext_spec e.g e.vl e.vn e.vf e.c he.hl he.hlo (s.names.length : Int) (by omega) s1) cb31 [0] [(false, 0)] [0] rfl rfl rfl rfl rfl rfl rfl rfl (fun _ _ => rfl) (fun _ _ _ => rfl)) (fun _ _ => stg_mem0 [11, 12, 13, 0, 1, 2, 3] 14 [14, 13, 12, 11, 10, 9, 8, 7, 6, 5, 4, 3, 2, 1, 0] [] (fun _ => []) rfl rfl (prs_cons (pri rfl (p_idx_sl (j := (gN e.c.l (s.names.length : Int) s1).1.toNat) Tryz.underlying58 t9 rfl rfl (hs_sl (k := 1) rfl) hjb6 hja6)) (prs_cons (pri rfl (p_load1 t9 rfl rfl (g_el' (hs_sl (k := 1) rfl) (by intro _; rfl) hx6 (by rfl)))) (prs_cons (pri rfl (p_build (parts := [(0, .const (.int .i64 2)), (2, .tmp 65)]) t48 pl48 rfl rfl)) (prs_cons (pri rfl (p_move rfl)) (prs_cons (pri rfl (p_nilCheck rfl)) (prs_cons (pri rfl (p_field0 fo76_4 rfl)) (prs_cons (pri rfl (p_load1 t58 rfl rfl (g_row1 (k := 0) rfl rfl))) prs_nil))))))) rfl rfl rfl rfl rfl rfl rfl rfl rfl (fun _ _ => rfl) rfl (ms_store_all (k := 4) t48 rfl rfl rfl rfl rfl rfl) (fun _ _ => stg_end [] rfl rfl prs_nil rfl rfl rfl ?_)))
   refine r_cret ?_
   refine r_collect 50 [] (L := []) rfl leaf_all ?_
   refine r_ret (tName x6, (gN e.c.l (s.names.length : Int) s1).2) (.nam (j := (gN e.c.l (s.names.length : Int) s1).1) hk hq.1 hq.2 (by rw [hn1]) (by rw [hn1]; exact hx6)) rfl (rs1 (rv_cellA t48 rfl rfl rfl (g_all (k := 4) rfl))) rfl [0, 50] [] rfl rfl rfl
  ·(try simp only [decide_eq_true_eq, decide_eq_false_iff_not, Bool.and_eq_true, Bool.or_eq_true, Bool.and_eq_false_iff, Bool.or_eq_false_iff, Bool.not_eq_true, Bool.not_eq_false, Bool.not_eq_true', Bool.not_eq_false', Bool.not_not, bne_iff_ne, beq_iff_eq] at h23)
   have hq : ¬ ((k = 1 ∨ k = 2) ∧ 0 < s1.names.length) := by
    rw [hn1]
    rintro ⟨h1 | h1, h2⟩
    ·rcases h23.1 with h | h
     ·exact h h1
     ·omega
    ·rcases h23.2 with h | h
     ·exact h h1
     ·omega
   refine r_seq (r_region (r_p (p_move rfl) rfl ?_))
   refine r_p (p_bin rfl rfl b_eq) rfl ?_
   refine r_p (p_assign rfl) rfl (r_nil ?_)
   refine r_cond rfl (fun h24 => ?_) (fun h24 => ?_)
   ·(try simp only [decide_eq_true_eq, decide_eq_false_iff_not, Bool.and_eq_true, Bool.or_eq_true, Bool.and_eq_false_iff, Bool.or_eq_false_iff, Bool.not_eq_true, Bool.not_eq_false, Bool.not_eq_true', Bool.not_eq_false', Bool.not_not, bne_iff_ne, beq_iff_eq] at h24)
    have q3 : k = 3 := h24
    refine r_seq (r_region ?_)
    refine r_p (p_build (parts := [(0, .const (.int .i64 5))]) t48 pl48 rfl rfl) rfl ?_
    refine r_store_all (k := 4) t48 rfl rfl rfl rfl rfl rfl ?_
    refine r_nil (r_cret ?_)
    refine r_collect 50 [] (L := []) rfl leaf_all ?_
    refine r_ret (tIn, s1) (.inp (q3 ▸ hk)) rfl (rs1 (rv_cellA t48 rfl rfl rfl (g_all (k := 4) rfl))) rfl [0, 50] [] rfl rfl rfl
   ·(try simp only [decide_eq_true_eq, decide_eq_false_iff_not, Bool.and_eq_true, Bool.or_eq_true, Bool.and_eq_false_iff, Bool.or_eq_false_iff, Bool.not_eq_true, Bool.not_eq_false, Bool.not_eq_true', Bool.not_eq_false', Bool.not_not, bne_iff_ne, beq_iff_eq] at h24)
    have q3 : ¬ k = 3 := h24
    refine r_seq (r_region (r_p (p_move rfl) rfl ?_))
    refine r_p (p_bin rfl rfl b_eq) rfl ?_
    refine r_p (p_move rfl) rfl ?_
    refine r_gp [] rfl rfl trivial (fun hg25 => p_move rfl) rfl ?_
    refine r_gp [(75, _)] rfl rfl ⟨rfl, trivial⟩ (fun hg26 => p_bin rfl rfl b_eq) rfl ?_
    refine r_p (p_pick rfl rfl rfl (by first | exact pick_and | exact pick_or |  rfl)) rfl ?_
    refine r_p (p_assign rfl) rfl (r_nil ?_)
    refine r_cond rfl (fun h27 => ?_) (fun h27 => ?_)
    ·(try simp only [decide_eq_true_eq, decide_eq_false_iff_not, Bool.and_eq_true, Bool.or_eq_true, Bool.and_eq_false_iff, Bool.or_eq_false_iff, Bool.not_eq_true, Bool.not_eq_false, Bool.not_eq_true', Bool.not_eq_false', Bool.not_not, bne_iff_ne, beq_iff_eq] at h27)
     have q4 : k = 4 ∨ k = 5 := h27
     obtain ⟨d2, rfl⟩ : ∃ d2, d = d2 + 1 := ⟨d - 1, by have := hk4; omega⟩
     refine r_seq (r_region (r_p (p_move rfl) rfl (r_p (p_move rfl) rfl ?_)))
     refine r_p (p_bin rfl rfl (b_sub (c := (d2 : Int) + 1) (by rw [show (((d2 + 1 : Nat) : Int) + 1) - 1 = (d2 : Int) + 1 by omega]; exact w_i64 (by omega) (by omega)))) rfl ?_
     refine r_callN (xs := [.tmp 78, .tmp 80]) (ihX _ rfl (s1) (by rw [hn1]; exact hn)) cb49 [0] [(false, 0), (false, 1), (false, 2)] [0, 81] rfl rfl rfl rfl rfl (by rw [← hn1]; rfl) rfl rfl (fun _ _ => rfl) (fun _ _ _ => rfl) rfl (fun xt hxt => ?_)
     refine r_bslice1 eTx xt.1 Tryz.underlying46 t48 rfl (by decide) (by decide) rfl rfl rfl rfl fun v82 => ?_
     refine r_p (p_build (parts := [(0, .const (.int .i64 4)), (3, .tmp 82)]) t48 pl48 rfl rfl) rfl ?_
     refine r_store_all (k := 4) t48 rfl rfl rfl rfl rfl rfl ?_
     refine r_nil (r_cret ?_)
     refine r_collect 50 [82, 81] rfl one_all ?_
     refine r_ret (.mk 4 0 oNil v82 [xt.1], xt.2) (.mem hk q4 hxt) rfl (rs1 (rv_cellA t48 rfl rfl rfl (g_all (k := 4) rfl))) rfl [0, 50] [] rfl rfl rfl
    ·(try simp only [decide_eq_true_eq, decide_eq_false_iff_not, Bool.and_eq_true, Bool.or_eq_true, Bool.and_eq_false_iff, Bool.or_eq_false_iff, Bool.not_eq_true, Bool.not_eq_false, Bool.not_eq_true', Bool.not_eq_false', Bool.not_not, bne_iff_ne, beq_iff_eq] at h27)
     have q4 : ¬ (k = 4 ∨ k = 5) := by rintro (h | h); exact h27.1 h; exact h27.2 h
     refine r_seq (r_region (r_p (p_move rfl) rfl ?_))
     refine r_p (p_bin rfl rfl b_eq) rfl ?_
     refine r_p (p_assign rfl) rfl (r_nil ?_)
     refine r_cond rfl (fun h28 => ?_) (fun h28 => ?_)
     ·(try simp only [decide_eq_true_eq, decide_eq_false_iff_not, Bool.and_eq_true, Bool.or_eq_true, Bool.and_eq_false_iff, Bool.or_eq_false_iff, Bool.not_eq_true, Bool.not_eq_false, Bool.not_eq_true', Bool.not_eq_false', Bool.not_not, bne_iff_ne, beq_iff_eq] at h28)
      have q6 : k = 6 := h28
      obtain ⟨d2, rfl⟩ : ∃ d2, d = d2 + 1 := ⟨d - 1, by have := hk4; omega⟩
      obtain ⟨xu, hxu, hjau, hjbu⟩ := gN_idx (l := e.c.l) (L := unL) (n := 3) (by decide) rfl (s1)
      have hn6 : (gN e.c.l 3 s1).2.names = s.names := (gN_keep e.c.l 3 s1).1.trans hn1
      refine r_seq ?_
      refine r_draw [87, 88, 89, 90, 91, 92, 93, 94, 95, 96, 97] _ rfl (stg_alts (V := [(1, 88, _), (5, 92, _), (6, 93, _), (7, 94, _)]) [1, 5, 6, 7] rfl rfl (prs_cons (pri rfl (p_move rfl)) (prs_cons (pri rfl (p_move rfl)) (prs_cons (pri rfl (p_move rfl)) (prs_cons (pri rfl (p_bin rfl rfl (b_sub (c := (d2 : Int) + 1) (by rw [show (((d2 + 1 : Nat) : Int) + 1) - 1 = (d2 : Int) + 1 by omega]; exact w_i64 (by omega) (by omega))))) prs_nil)))) rfl [0, 2] rfl rfl (nx_cons (nx_mem 0 [0] [] (fun v87 => []) rfl rfl rfl rfl rfl rfl rfl rfl rfl (fun _ _ => rfl) rfl (ms_bslice eS unL (parts := [(0, .const (.string (ByteArray.mk #[45]))), (1, .const (.string (ByteArray.mk #[126]))), (2, .const (.string (ByteArray.mk #[33])))]) Tryz.underlying58 t9 rfl (by decide) (by intro _; rfl) rfl (by decide) (by decide) rfl rfl rfl) (fun v87 _ => stg_mem [1, 5, 6, 7] 2 [2, 1, 0] [3, 4] (fun _ => [(3, 90, _), (4, 91, _)]) rfl rfl (prs_cons (pri rfl (p_move rfl)) (prs_cons (pri rfl (p_move rfl)) (prs_cons (pri rfl (p_move rfl)) (prs_cons (pri rfl (p_bin rfl rfl (b_sub (c := (d2 : Int) + 1) (by rw [show (((d2 + 1 : Nat) : Int) + 1) - 1 = (d2 : Int) + 1 by omega]; exact w_i64 (by omega) (by omega))))) prs_nil)))) rfl rfl rfl rfl rfl rfl rfl rfl rfl rfl rfl (fun _ _ => rfl) rfl (ms_callN (xs := [.tmp 88, .const (.int .i64 3)]) (gnext_spec e.g e.vl e.vn e.vf e.c he.hl he.hlo (3) (by decide) (s1)) cb31 [0] [(false, 0)] [0] rfl rfl rfl rfl rfl rfl rfl rfl (fun _ _ => rfl) (fun _ _ _ => rfl)) (fun _ _ => stg_mem [3, 4, 5, 6, 7] 8 [8, 7, 6, 5, 2, 1, 0] [] (fun xt => []) rfl rfl (prs_cons (pri rfl (p_idx_sl (j := (gN e.c.l 3 s1).1.toNat) Tryz.underlying58 t9 rfl rfl (hs_own (k := 87) rfl) hjbu hjau)) (prs_cons (pri rfl (p_load1 t9 rfl rfl (g_el' (hs_own (k := 87) rfl) (by intro _; rfl) hxu (by rfl)))) (prs_cons (pri rfl (p_move rfl)) (prs_cons (pri rfl (p_move rfl)) (prs_cons (pri rfl (p_bin rfl rfl (b_sub (c := (d2 : Int) + 1) (by rw [show (((d2 + 1 : Nat) : Int) + 1) - 1 = (d2 : Int) + 1 by omega]; exact w_i64 (by omega) (by omega))))) prs_nil))))) rfl rfl rfl rfl rfl rfl rfl rfl rfl rfl rfl (fun _ _ => rfl) rfl (ms_callN (xs := [.tmp 92, .tmp 94]) (ihX _ rfl ((gN e.c.l 3 s1).2) (by rw [hn6]; exact hn)) cb49 [0] [(false, 0), (false, 1), (false, 2)] [0, 95] rfl rfl rfl rfl rfl (by rw [← hn6]; rfl) rfl rfl (fun _ _ => rfl) (fun _ _ _ => rfl)) (fun xt hxt => stg_mem [3, 4] 9 [9, 8, 7, 6, 5, 2, 1, 0] [10] (fun v96 => [(10, 97, _)]) rfl rfl (prs_cons (pri rfl (p_idx_sl (j := (gN e.c.l 3 s1).1.toNat) Tryz.underlying58 t9 rfl rfl (hs_own (k := 87) rfl) hjbu hjau)) (prs_cons (pri rfl (p_load1 t9 rfl rfl (g_el' (hs_own (k := 87) rfl) (by intro _; rfl) hxu (by rfl)))) prs_nil)) rfl rfl rfl rfl rfl rfl rfl rfl rfl rfl rfl (fun _ _ => rfl) rfl (ms_bslice1 eTx xt.1 Tryz.underlying46 t48 rfl (by decide) (by decide) rfl rfl rfl) (fun v96 _ => stg_mem0 [10, 3, 4] 11 [11, 10, 9, 8, 7, 6, 5, 4, 3, 2, 1, 0] [] (fun _ => []) rfl rfl (prs_cons (pri rfl (p_build (parts := [(0, .const (.int .i64 6)), (2, .tmp 91), (3, .tmp 96)]) t48 pl48 rfl rfl)) (prs_cons (pri rfl (p_idx_sl (j := (gN e.c.l 3 s1).1.toNat) Tryz.underlying58 t9 rfl rfl (hs_own (k := 87) rfl) hjbu hjau)) (prs_cons (pri rfl (p_load1 t9 rfl rfl (g_el' (hs_own (k := 87) rfl) (by intro _; rfl) hxu (by rfl)))) prs_nil))) rfl rfl rfl rfl rfl rfl rfl rfl rfl (fun _ _ => rfl) rfl (ms_store_all (k := 4) t48 rfl rfl rfl rfl rfl rfl) (fun _ _ => stg_end [] rfl rfl prs_nil rfl rfl rfl ?_)))))) (nx_cons (nx_mem 2 [2, 1] [] (fun _ => []) rfl rfl rfl rfl rfl rfl rfl rfl rfl (fun _ _ => rfl) rfl (ms_callN (xs := [.tmp 88, .const (.int .i64 3)]) (gnext_spec e.g e.vl e.vn e.vf e.c he.hl he.hlo (3) (by decide) (s1)) cb31 [0] [(false, 0)] [0] rfl rfl rfl rfl rfl rfl rfl rfl (fun _ _ => rfl) (fun _ _ _ => rfl)) (fun _ _ => stg_alts [5, 6, 7] rfl rfl (prs_cons (pri rfl (p_move rfl)) (prs_cons (pri rfl (p_move rfl)) (prs_cons (pri rfl (p_bin rfl rfl (b_sub (c := (d2 : Int) + 1) (by rw [show (((d2 + 1 : Nat) : Int) + 1) - 1 = (d2 : Int) + 1 by omega]; exact w_i64 (by omega) (by omega))))) prs_nil))) rfl [0, 8] rfl rfl (nx_cons (nx_mem 0 [2, 1, 0] [3, 4] (fun v87 => [(3, 90, _), (4, 91, _)]) rfl rfl rfl rfl rfl rfl rfl rfl rfl (fun _ _ => rfl) rfl (ms_bslice eS unL (parts := [(0, .const (.string (ByteArray.mk #[45]))), (1, .const (.string (ByteArray.mk #[126]))), (2, .const (.string (ByteArray.mk #[33])))]) Tryz.underlying58 t9 rfl (by decide) (by intro _; rfl) rfl (by decide) (by decide) rfl rfl rfl) (fun v87 _ => stg_mem [3, 4, 5, 6, 7] 8 [8, 7, 6, 5, 2, 1, 0] [] (fun xt => []) rfl rfl (prs_cons (pri rfl (p_idx_sl (j := (gN e.c.l 3 s1).1.toNat) Tryz.underlying58 t9 rfl rfl (hs_own (k := 87) rfl) hjbu hjau)) (prs_cons (pri rfl (p_load1 t9 rfl rfl (g_el' (hs_own (k := 87) rfl) (by intro _; rfl) hxu (by rfl)))) (prs_cons (pri rfl (p_move rfl)) (prs_cons (pri rfl (p_move rfl)) (prs_cons (pri rfl (p_bin rfl rfl (b_sub (c := (d2 : Int) + 1) (by rw [show (((d2 + 1 : Nat) : Int) + 1) - 1 = (d2 : Int) + 1 by omega]; exact w_i64 (by omega) (by omega))))) prs_nil))))) rfl rfl rfl rfl rfl rfl rfl rfl rfl rfl rfl (fun _ _ => rfl) rfl (ms_callN (xs := [.tmp 92, .tmp 94]) (ihX _ rfl ((gN e.c.l 3 s1).2) (by rw [hn6]; exact hn)) cb49 [0] [(false, 0), (false, 1), (false, 2)] [0, 95] rfl rfl rfl rfl rfl (by rw [← hn6]; rfl) rfl rfl (fun _ _ => rfl) (fun _ _ _ => rfl)) (fun xt hxt => stg_mem [3, 4] 9 [9, 8, 7, 6, 5, 2, 1, 0] [10] (fun v96 => [(10, 97, _)]) rfl rfl (prs_cons (pri rfl (p_idx_sl (j := (gN e.c.l 3 s1).1.toNat) Tryz.underlying58 t9 rfl rfl (hs_own (k := 87) rfl) hjbu hjau)) (prs_cons (pri rfl (p_load1 t9 rfl rfl (g_el' (hs_own (k := 87) rfl) (by intro _; rfl) hxu (by rfl)))) prs_nil)) rfl rfl rfl rfl rfl rfl rfl rfl rfl rfl rfl (fun _ _ => rfl) rfl (ms_bslice1 eTx xt.1 Tryz.underlying46 t48 rfl (by decide) (by decide) rfl rfl rfl) (fun v96 _ => stg_mem0 [10, 3, 4] 11 [11, 10, 9, 8, 7, 6, 5, 4, 3, 2, 1, 0] [] (fun _ => []) rfl rfl (prs_cons (pri rfl (p_build (parts := [(0, .const (.int .i64 6)), (2, .tmp 91), (3, .tmp 96)]) t48 pl48 rfl rfl)) (prs_cons (pri rfl (p_idx_sl (j := (gN e.c.l 3 s1).1.toNat) Tryz.underlying58 t9 rfl rfl (hs_own (k := 87) rfl) hjbu hjau)) (prs_cons (pri rfl (p_load1 t9 rfl rfl (g_el' (hs_own (k := 87) rfl) (by intro _; rfl) hxu (by rfl)))) prs_nil))) rfl rfl rfl rfl rfl rfl rfl rfl rfl (fun _ _ => rfl) rfl (ms_store_all (k := 4) t48 rfl rfl rfl rfl rfl rfl) (fun _ _ => stg_end [] rfl rfl prs_nil rfl rfl rfl ?_))))) (nx_cons (nx_mem 8 [8, 7, 6, 5, 2, 1] [] (fun xt => []) rfl rfl rfl rfl rfl rfl rfl rfl rfl (fun _ _ => rfl) rfl (ms_callN (xs := [.tmp 92, .tmp 94]) (ihX _ rfl ((gN e.c.l 3 s1).2) (by rw [hn6]; exact hn)) cb49 [0] [(false, 0), (false, 1), (false, 2)] [0, 95] rfl rfl rfl rfl rfl (by rw [← hn6]; rfl) rfl rfl (fun _ _ => rfl) (fun _ _ _ => rfl)) (fun xt hxt => stg_alts [] rfl rfl prs_nil rfl [0, 9] rfl rfl (nx_cons (nx_mem 0 [8, 7, 6, 5, 2, 1, 0] [3, 4] (fun v87 => [(3, 90, _), (4, 91, _)]) rfl rfl rfl rfl rfl rfl rfl rfl rfl (fun _ _ => rfl) rfl (ms_bslice eS unL (parts := [(0, .const (.string (ByteArray.mk #[45]))), (1, .const (.string (ByteArray.mk #[126]))), (2, .const (.string (ByteArray.mk #[33])))]) Tryz.underlying58 t9 rfl (by decide) (by intro _; rfl) rfl (by decide) (by decide) rfl rfl rfl) (fun v87 _ => stg_mem [3, 4] 9 [9, 8, 7, 6, 5, 2, 1, 0] [10] (fun v96 => [(10, 97, _)]) rfl rfl (prs_cons (pri rfl (p_idx_sl (j := (gN e.c.l 3 s1).1.toNat) Tryz.underlying58 t9 rfl rfl (hs_own (k := 87) rfl) hjbu hjau)) (prs_cons (pri rfl (p_load1 t9 rfl rfl (g_el' (hs_own (k := 87) rfl) (by intro _; rfl) hxu (by rfl)))) prs_nil)) rfl rfl rfl rfl rfl rfl rfl rfl rfl rfl rfl (fun _ _ => rfl) rfl (ms_bslice1 eTx xt.1 Tryz.underlying46 t48 rfl (by decide) (by decide) rfl rfl rfl) (fun v96 _ => stg_mem0 [10, 3, 4] 11 [11, 10, 9, 8, 7, 6, 5, 4, 3, 2, 1, 0] [] (fun _ => []) rfl rfl (prs_cons (pri rfl (p_build (parts := [(0, .const (.int .i64 6)), (2, .tmp 91), (3, .tmp 96)]) t48 pl48 rfl rfl)) (prs_cons (pri rfl (p_idx_sl (j := (gN e.c.l 3 s1).1.toNat) Tryz.underlying58 t9 rfl rfl (hs_own (k := 87) rfl) hjbu hjau)) (prs_cons (pri rfl (p_load1 t9 rfl rfl (g_el' (hs_own (k := 87) rfl) (by intro _; rfl) hxu (by rfl)))) prs_nil))) rfl rfl rfl rfl rfl rfl rfl rfl rfl (fun _ _ => rfl) rfl (ms_store_all (k := 4) t48 rfl rfl rfl rfl rfl rfl) (fun _ _ => stg_end [] rfl rfl prs_nil rfl rfl rfl ?_)))) (nx_cons (nx_mem 9 [9, 8, 7, 6, 5, 2, 1] [] (fun v96 => []) rfl rfl rfl rfl rfl rfl rfl rfl rfl (fun _ _ => rfl) rfl (ms_bslice1 eTx xt.1 Tryz.underlying46 t48 rfl (by decide) (by decide) rfl rfl rfl) (fun v96 _ => stg_mem [] 0 [9, 8, 7, 6, 5, 2, 1, 0] [3, 4, 10] (fun v87 => [(3, 90, _), (4, 91, _), (10, 97, _)]) rfl rfl prs_nil rfl rfl rfl rfl rfl rfl rfl rfl rfl rfl rfl (fun _ _ => rfl) rfl (ms_bslice eS unL (parts := [(0, .const (.string (ByteArray.mk #[45]))), (1, .const (.string (ByteArray.mk #[126]))), (2, .const (.string (ByteArray.mk #[33])))]) Tryz.underlying58 t9 rfl (by decide) (by intro _; rfl) rfl (by decide) (by decide) rfl rfl rfl) (fun v87 _ => stg_mem0 [3, 4, 10] 11 [11, 10, 9, 8, 7, 6, 5, 4, 3, 2, 1, 0] [] (fun _ => []) rfl rfl (prs_cons (pri rfl (p_idx_sl (j := (gN e.c.l 3 s1).1.toNat) Tryz.underlying58 t9 rfl rfl (hs_own (k := 87) rfl) hjbu hjau)) (prs_cons (pri rfl (p_load1 t9 rfl rfl (g_el' (hs_own (k := 87) rfl) (by intro _; rfl) hxu (by rfl)))) (prs_cons (pri rfl (p_build (parts := [(0, .const (.int .i64 6)), (2, .tmp 91), (3, .tmp 96)]) t48 pl48 rfl rfl)) prs_nil))) rfl rfl rfl rfl rfl rfl rfl rfl rfl (fun _ _ => rfl) rfl (ms_store_all (k := 4) t48 rfl rfl rfl rfl rfl rfl) (fun _ _ => stg_end [] rfl rfl prs_nil rfl rfl rfl ?_)))) nx_nil)))) nx_nil)))) nx_nil)))
      ·refine r_cret ?_
       refine r_collect 50 [96, 95] rfl one_all ?_
       refine r_ret (.mk 6 0 xu v96 [xt.1], xt.2) (.una (q6 ▸ hk) rfl hxu hxt) rfl (rs1 (rv_cellA t48 rfl rfl rfl (g_all (k := 4) rfl))) rfl [0, 50] [] rfl rfl rfl
      ·refine r_cret ?_
       refine r_collect 50 [96, 95] rfl one_all ?_
       refine r_ret (.mk 6 0 xu v96 [xt.1], xt.2) (.una (q6 ▸ hk) rfl hxu hxt) rfl (rs1 (rv_cellA t48 rfl rfl rfl (g_all (k := 4) rfl))) rfl [0, 50] [] rfl rfl rfl
      ·refine r_cret ?_
       refine r_collect 50 [96, 95] rfl one_all ?_
       refine r_ret (.mk 6 0 xu v96 [xt.1], xt.2) (.una (q6 ▸ hk) rfl hxu hxt) rfl (rs1 (rv_cellA t48 rfl rfl rfl (g_all (k := 4) rfl))) rfl [0, 50] [] rfl rfl rfl
      ·refine r_cret ?_
       refine r_collect 50 [96, 95] rfl one_all ?_
       refine r_ret (.mk 6 0 xu v96 [xt.1], xt.2) (.una (q6 ▸ hk) rfl hxu hxt) rfl (rs1 (rv_cellA t48 rfl rfl rfl (g_all (k := 4) rfl))) rfl [0, 50] [] rfl rfl rfl
     ·(try simp only [decide_eq_true_eq, decide_eq_false_iff_not, Bool.and_eq_true, Bool.or_eq_true, Bool.and_eq_false_iff, Bool.or_eq_false_iff, Bool.not_eq_true, Bool.not_eq_false, Bool.not_eq_true', Bool.not_eq_false', Bool.not_not, bne_iff_ne, beq_iff_eq] at h28)
      have q6 : ¬ k = 6 := h28
      refine r_seq ?_
      refine r_draw [99, 100, 101, 102, 103, 104, 105, 106, 107, 108, 109, 110, 111, 112, 113, 98] _ rfl (stg_end (V := [(0, 99, _), (1, 100, _), (2, 101, _), (3, 102, _), (4, 103, _), (5, 104, _), (6, 105, _), (7, 106, _), (8, 107, _), (9, 108, _), (10, 109, _), (11, 110, _), (12, 111, _), (13, 112, _), (14, 113, _), (15, 98, _)]) [0, 1, 2, 3, 4, 5, 6, 7, 8, 9, 10, 11, 12, 13, 14, 15] rfl rfl (prs_cons (pri rfl (p_move rfl)) (prs_cons (pri rfl (p_bin rfl rfl b_eq)) (prs_cons (pri rfl (p_move rfl)) (prs_cons (prig_s [] rfl rfl rfl trivial (fun hg29 => p_move rfl)) (prs_cons (prig_s [(102, _)] rfl rfl rfl ⟨rfl, trivial⟩ (fun hg30 => p_nilCheck rfl)) (prs_cons (prig_s [(103, _)] rfl rfl rfl ⟨rfl, trivial⟩ (fun hg31 => p_field0 fo76_6 rfl)) (prs_cons (prig_s [(104, _)] rfl rfl rfl ⟨rfl, trivial⟩ (fun hg32 => p_load1 t3 rfl rfl (g_row1 (k := 0) rfl rfl))) (prs_cons (prig_s [(105, _)] rfl rfl rfl ⟨rfl, trivial⟩ (fun hg33 => p_bin rfl rfl (b_add (by first | exact w_i64 (by omega) (by omega) | rfl)))) (prs_cons (prig_s [] rfl rfl rfl trivial (fun hg34 => p_move rfl)) (prs_cons (prig_s [(107, _)] rfl rfl rfl ⟨rfl, trivial⟩ (fun hg35 => p_nilCheck rfl)) (prs_cons (prig_s [(108, _)] rfl rfl rfl ⟨rfl, trivial⟩ (fun hg36 => p_field0 fo76_7 rfl)) (prs_cons (prig_s [(109, _)] rfl rfl rfl ⟨rfl, trivial⟩ (fun hg37 => p_load1 t27 rfl rfl (g_row1 (k := 0) rfl rfl))) (prs_cons (prig_s [(110, _)] rfl rfl rfl ⟨rfl, trivial⟩ (fun hg38 => p_len_sl Tryz.underlying27 rfl (hs_sl (k := 3) rfl))) (prs_cons (prig_s [(106, _), (111, _)] rfl rfl rfl ⟨rfl, rfl, trivial⟩ (fun hg39 => p_bin rfl rfl b_lt)) (prs_cons (pri rfl (p_pick rfl rfl rfl (by first | exact pick_and | exact pick_or |  rfl))) (prs_cons (pri rfl (p_assign rfl)) prs_nil)))))))))))))))) rfl rfl rfl ?_)
      refine r_cond rfl (fun h40 => ?_) (fun h40 => ?_)
      ·(try simp only [decide_eq_true_eq, decide_eq_false_iff_not, Bool.and_eq_true, Bool.or_eq_true, Bool.and_eq_false_iff, Bool.or_eq_false_iff, Bool.not_eq_true, Bool.not_eq_false, Bool.not_eq_true', Bool.not_eq_false', Bool.not_not, bne_iff_ne, beq_iff_eq] at h40)
       have q7 : k = 7 ∧ e.c.me + 1 < e.F.length := ⟨h40.1, by have := h40.2; omega⟩
       obtain ⟨d2, rfl⟩ : ∃ d2, d = d2 + 1 := ⟨d - 1, by have := hk4; omega⟩
       have hjb := gN_bnd e.c.l (n := (e.F.length : Int) - (e.c.me : Int) - 1) (by omega) s1
       obtain ⟨jf, hjf⟩ : ∃ jf : Nat, (e.c.me : Int) + 1 + (gN e.c.l ((e.F.length : Int) - (e.c.me : Int) - 1) s1).1 = (jf : Int) := ⟨((e.c.me : Int) + 1 + (gN e.c.l ((e.F.length : Int) - (e.c.me : Int) - 1) s1).1).toNat, by omega⟩
       have hjl : jf < e.F.length := by omega
       obtain ⟨f, hfj⟩ : ∃ f, e.F[jf]? = some f := ⟨_, List.getElem?_eq_getElem hjl⟩
       refine r_seq_cut (X := Tf × Gs × Nat) (fun y => y.1 ∈ e.F ∧ ∃ j, gN e.c.l ((e.c.fs.length : Int) - (e.c.me : Int) - 1) s1 = (j, y.2.1) ∧ e.c.fs[((e.c.me : Int) + 1 + j).toNat]? = some (y.1.name, y.1.ps)) (fun y => [(0, .pointer (some ⟨e.g, 0, none⟩)), (1, .int .i64 (((d2 + 1 : Nat) : Int) + 1)), (4, .pointer (some ⟨b4, 0, none⟩)), (6, .pointer (some ⟨y.2.2, 0, none⟩))]) (fun y => [(0, row e.g 76 (gRow e.vl (y.2.1) e.vn e.c.me e.vf)), (4, row b4 48 (eTx (.mk 0 0 oNil nilS []))), (6, row y.2.2 63 (eTf y.1))]) (fun y => [(0, sl 1 eI (sv e.vl) e.c.l), (1, sl 1 eS (sv e.vn) s.names), (2, tfsA e.vf e.F), (3, sl 3 eTf (sv e.vf) e.F)]) ?_ (fun y hy => ?_)
       ·refine r_draw [114, 115, 116, 117, 118, 119, 120, 121, 122, 123, 124, 125, 126, 127, 128, 129, 130, 131, 132, 133, 134, 135, 136, 137, 138, 6] _ rfl (stg_alts (V := [(0, 114, _), (1, 115, _), (2, 116, _), (3, 117, _), (4, 118, _), (5, 119, _), (6, 120, _), (7, 121, _), (8, 122, _), (9, 123, _), (10, 124, _), (11, 125, _), (12, 126, _), (13, 127, _), (14, 128, _), (15, 129, _), (16, 130, _), (17, 131, _), (18, 132, _), (19, 133, _), (20, 134, _)]) [0, 1, 2, 3, 4, 5, 6, 7, 8, 9, 10, 11, 12, 13, 14, 15, 16, 17, 18, 19, 20] rfl rfl (prs_cons (pri rfl (p_move rfl)) (prs_cons (pri rfl (p_nilCheck rfl)) (prs_cons (pri rfl (p_field0 fo76_7 rfl)) (prs_cons (pri rfl (p_load1 t27 rfl rfl (g_row1 (k := 0) rfl rfl))) (prs_cons (pri rfl (p_move rfl)) (prs_cons (pri rfl (p_nilCheck rfl)) (prs_cons (pri rfl (p_field0 fo76_6 rfl)) (prs_cons (pri rfl (p_load1 t3 rfl rfl (g_row1 (k := 0) rfl rfl))) (prs_cons (pri rfl (p_bin rfl rfl (b_add (by first | exact w_i64 (by omega) (by omega) | rfl)))) (prs_cons (pri rfl (p_move rfl)) (prs_cons (pri rfl (p_move rfl)) (prs_cons (pri rfl (p_nilCheck rfl)) (prs_cons (pri rfl (p_field0 fo76_7 rfl)) (prs_cons (pri rfl (p_load1 t27 rfl rfl (g_row1 (k := 0) rfl rfl))) (prs_cons (pri rfl (p_len_sl Tryz.underlying27 rfl (hs_sl (k := 3) rfl))) (prs_cons (pri rfl (p_move rfl)) (prs_cons (pri rfl (p_nilCheck rfl)) (prs_cons (pri rfl (p_field0 fo76_6 rfl)) (prs_cons (pri rfl (p_load1 t3 rfl rfl (g_row1 (k := 0) rfl rfl))) (prs_cons (pri rfl (p_bin rfl rfl (b_sub (by first | exact w_i64 (by omega) (by omega) | rfl)))) (prs_cons (pri rfl (p_bin rfl rfl (b_sub (by first | exact w_i64 (by omega) (by omega) | rfl)))) prs_nil))))))))))))))))))))) rfl [21, 25] rfl rfl (nx_cons (nx_mem 21 [21, 20, 19, 18, 17, 16, 15, 14, 13, 12, 11, 10, 9] [22, 23, 24] (fun _ => [(22, 136, _), (23, 137, _), (24, 138, _)]) rfl rfl rfl rfl rfl rfl rfl rfl rfl (fun _ _ => rfl) rfl (ms_callN (xs := [.tmp 123, .tmp 134]) (gnext_spec e.g e.vl e.vn e.vf e.c he.hl he.hlo (((e.F.length : Int) - (e.c.me : Int) - 1)) (by omega) (s1)) cb31 [0] [(false, 0)] [0] rfl rfl rfl rfl rfl rfl rfl rfl (fun _ _ => rfl) (fun _ _ _ => rfl)) (fun _ _ => stg_mem [22, 23, 24, 0, 1, 2, 3, 4, 5, 6, 7, 8] 25 [25, 21, 20, 19, 18, 17, 16, 15, 14, 13, 12, 11, 10, 9] [] (fun b6 => []) rfl rfl (prs_cons (pri rfl (p_bin rfl rfl (b_add (by first | exact w_i64 (by omega) (by omega) | rfl)))) (prs_cons (pri rfl (p_idx_sl (j := jf) Tryz.underlying27 t63 rfl rfl (hs_sl (k := 3) rfl) hjf hjl)) (prs_cons (pri rfl (p_loadA t63 rfl rfl rfl (g_el' (hs_sl (k := 3) rfl) (by intro _; rfl) hfj (by rfl)))) (prs_cons (pri rfl (p_move rfl)) (prs_cons (pri rfl (p_nilCheck rfl)) (prs_cons (pri rfl (p_field0 fo76_7 rfl)) (prs_cons (pri rfl (p_load1 t27 rfl rfl (g_row1 (k := 0) rfl rfl))) (prs_cons (pri rfl (p_move rfl)) (prs_cons (pri rfl (p_nilCheck rfl)) (prs_cons (pri rfl (p_field0 fo76_6 rfl)) (prs_cons (pri rfl (p_load1 t3 rfl rfl (g_row1 (k := 0) rfl rfl))) (prs_cons (pri rfl (p_bin rfl rfl (b_add (by first | exact w_i64 (by omega) (by omega) | rfl)))) prs_nil)))))))))))) rfl rfl rfl rfl rfl rfl rfl rfl rfl rfl rfl (fun _ _ => rfl) rfl (ms_alloc t63 rfl) (fun b6 _ => stg_mem0 [22, 23, 24, 0, 1, 2, 3, 4, 5, 6, 7, 8] 26 [26, 25, 24, 23, 22, 21, 20, 19, 18, 17, 16, 15, 14, 13, 12, 11, 10, 9, 8, 7, 6, 5, 4, 3, 2, 1, 0] [] (fun _ => []) rfl rfl (prs_cons (pri rfl (p_bin rfl rfl (b_add (by first | exact w_i64 (by omega) (by omega) | rfl)))) (prs_cons (pri rfl (p_idx_sl (j := jf) Tryz.underlying27 t63 rfl rfl (hs_sl (k := 3) rfl) hjf hjl)) (prs_cons (pri rfl (p_loadA t63 rfl rfl rfl (g_el' (hs_sl (k := 3) rfl) (by intro _; rfl) hfj (by rfl)))) (prs_cons (pri rfl (p_move rfl)) (prs_cons (pri rfl (p_nilCheck rfl)) (prs_cons (pri rfl (p_field0 fo76_7 rfl)) (prs_cons (pri rfl (p_load1 t27 rfl rfl (g_row1 (k := 0) rfl rfl))) (prs_cons (pri rfl (p_move rfl)) (prs_cons (pri rfl (p_nilCheck rfl)) (prs_cons (pri rfl (p_field0 fo76_6 rfl)) (prs_cons (pri rfl (p_load1 t3 rfl rfl (g_row1 (k := 0) rfl rfl))) (prs_cons (pri rfl (p_bin rfl rfl (b_add (by first | exact w_i64 (by omega) (by omega) | rfl)))) prs_nil)))))))))))) rfl rfl rfl rfl rfl rfl rfl rfl rfl (fun _ _ => rfl) rfl (ms_store_all (k := 6) t63 rfl rfl rfl rfl rfl rfl) (fun _ _ => stg_end [] rfl rfl prs_nil rfl rfl rfl ?_)))) (nx_cons (nx_mem 25 [25] [] (fun b6 => []) rfl rfl rfl rfl rfl rfl rfl rfl rfl (fun _ _ => rfl) rfl (ms_alloc t63 rfl) (fun b6 _ => stg_mem [0, 1, 2, 3, 4, 5, 6, 7, 8, 9, 10, 11, 12, 13, 14, 15, 16, 17, 18, 19, 20] 21 [25, 21, 20, 19, 18, 17, 16, 15, 14, 13, 12, 11, 10, 9] [22, 23, 24] (fun _ => [(22, 136, _), (23, 137, _), (24, 138, _)]) rfl rfl (prs_cons (pri rfl (p_move rfl)) (prs_cons (pri rfl (p_nilCheck rfl)) (prs_cons (pri rfl (p_field0 fo76_7 rfl)) (prs_cons (pri rfl (p_load1 t27 rfl rfl (g_row1 (k := 0) rfl rfl))) (prs_cons (pri rfl (p_move rfl)) (prs_cons (pri rfl (p_nilCheck rfl)) (prs_cons (pri rfl (p_field0 fo76_6 rfl)) (prs_cons (pri rfl (p_load1 t3 rfl rfl (g_row1 (k := 0) rfl rfl))) (prs_cons (pri rfl (p_bin rfl rfl (b_add (by first | exact w_i64 (by omega) (by omega) | rfl)))) (prs_cons (pri rfl (p_move rfl)) (prs_cons (pri rfl (p_move rfl)) (prs_cons (pri rfl (p_nilCheck rfl)) (prs_cons (pri rfl (p_field0 fo76_7 rfl)) (prs_cons (pri rfl (p_load1 t27 rfl rfl (g_row1 (k := 0) rfl rfl))) (prs_cons (pri rfl (p_len_sl Tryz.underlying27 rfl (hs_sl (k := 3) rfl))) (prs_cons (pri rfl (p_move rfl)) (prs_cons (pri rfl (p_nilCheck rfl)) (prs_cons (pri rfl (p_field0 fo76_6 rfl)) (prs_cons (pri rfl (p_load1 t3 rfl rfl (g_row1 (k := 0) rfl rfl))) (prs_cons (pri rfl (p_bin rfl rfl (b_sub (by first | exact w_i64 (by omega) (by omega) | rfl)))) (prs_cons (pri rfl (p_bin rfl rfl (b_sub (by first | exact w_i64 (by omega) (by omega) | rfl)))) prs_nil))))))))))))))))))))) rfl rfl rfl rfl rfl rfl rfl rfl rfl rfl rfl (fun _ _ => rfl) rfl (ms_callN (xs := [.tmp 123, .tmp 134]) (gnext_spec e.g e.vl e.vn e.vf e.c he.hl he.hlo (((e.F.length : Int) - (e.c.me : Int) - 1)) (by omega) (s1)) cb31 [0] [(false, 0)] [0] rfl rfl rfl rfl rfl rfl rfl rfl (fun _ _ => rfl) (fun _ _ _ => rfl)) (fun _ _ => stg_mem0 [22, 23, 24, 0, 1, 2, 3, 4, 5, 6, 7, 8] 26 [26, 25, 24, 23, 22, 21, 20, 19, 18, 17, 16, 15, 14, 13, 12, 11, 10, 9, 8, 7, 6, 5, 4, 3, 2, 1, 0] [] (fun _ => []) rfl rfl (prs_cons (pri rfl (p_bin rfl rfl (b_add (by first | exact w_i64 (by omega) (by omega) | rfl)))) (prs_cons (pri rfl (p_idx_sl (j := jf) Tryz.underlying27 t63 rfl rfl (hs_sl (k := 3) rfl) hjf hjl)) (prs_cons (pri rfl (p_loadA t63 rfl rfl rfl (g_el' (hs_sl (k := 3) rfl) (by intro _; rfl) hfj (by rfl)))) (prs_cons (pri rfl (p_move rfl)) (prs_cons (pri rfl (p_nilCheck rfl)) (prs_cons (pri rfl (p_field0 fo76_7 rfl)) (prs_cons (pri rfl (p_load1 t27 rfl rfl (g_row1 (k := 0) rfl rfl))) (prs_cons (pri rfl (p_move rfl)) (prs_cons (pri rfl (p_nilCheck rfl)) (prs_cons (pri rfl (p_field0 fo76_6 rfl)) (prs_cons (pri rfl (p_load1 t3 rfl rfl (g_row1 (k := 0) rfl rfl))) (prs_cons (pri rfl (p_bin rfl rfl (b_add (by first | exact w_i64 (by omega) (by omega) | rfl)))) prs_nil)))))))))))) rfl rfl rfl rfl rfl rfl rfl rfl rfl (fun _ _ => rfl) rfl (ms_store_all (k := 6) t63 rfl rfl rfl rfl rfl rfl) (fun _ _ => stg_end [] rfl rfl prs_nil rfl rfl rfl ?_)))) nx_nil)))
        ·refine r_here (f, (gN e.c.l ((e.F.length : Int) - (e.c.me : Int) - 1) s1).2, b6) ⟨List.mem_of_getElem? hfj, _, by rw [hfl], by rw [he.fs, List.getElem?_map, show ((e.c.me : Int) + 1 + (gN e.c.l ((e.F.length : Int) - (e.c.me : Int) - 1) s1).1).toNat = jf by omega, hfj]; rfl⟩ rfl rfl rfl
        ·refine r_here (f, (gN e.c.l ((e.F.length : Int) - (e.c.me : Int) - 1) s1).2, b6) ⟨List.mem_of_getElem? hfj, _, by rw [hfl], by rw [he.fs, List.getElem?_map, show ((e.c.me : Int) + 1 + (gN e.c.l ((e.F.length : Int) - (e.c.me : Int) - 1) s1).1).toNat = jf by omega, hfj]; rfl⟩ rfl rfl rfl
       ·obtain ⟨f, s2, b6⟩ := y
        obtain ⟨hfm, jn, hjn, hfx⟩ := hy
        dsimp only at hfm hjn hfx ⊢
        have hn2 : s2.names = s.names := (gN_st2 hjn).1.trans hn1
        refine r_seq (r_region (r_p (p_move rfl) rfl ?_))
        refine r_p (p_loadA t63 rfl rfl rfl (g_all (k := 6) rfl)) rfl ?_
        refine r_p (p_move rfl) rfl ?_
        refine r_callN (xs := [.tmp 139, .tmp 140, .tmp 141]) (ihC _ rfl s2 f hfm (by rw [hn2]; exact hn)) cb50 [0] [(false, 0), (false, 1), (false, 2)] [0, 142] rfl rfl rfl rfl rfl (by rw [← hn2]; rfl) rfl rfl (fun _ _ => rfl) (fun _ _ _ => rfl) rfl (fun xt hxt => ?_)
        refine r_store_all (k := 4) t48 rfl rfl rfl rfl rfl rfl ?_
        refine r_nil (r_cret ?_)
        obtain ⟨ps, hps, hpe⟩ := hxt
        refine r_ret (xt.1, xt.2) (by rw [hpe]; exact .call (q7.1 ▸ hk) (by rw [hfl]; exact q7.2) hjn hfx hps) rfl (rs1 (rv_cellA t48 rfl rfl rfl (g_all (k := 4) rfl))) rfl [0, 142] [] rfl rfl rfl
      ·(try simp only [decide_eq_true_eq, decide_eq_false_iff_not, Bool.and_eq_true, Bool.or_eq_true, Bool.and_eq_false_iff, Bool.or_eq_false_iff, Bool.not_eq_true, Bool.not_eq_false, Bool.not_eq_true', Bool.not_eq_false', Bool.not_not, bne_iff_ne, beq_iff_eq] at h40)
       have q7 : ¬ (k = 7 ∧ e.c.me + 1 < e.F.length) := by rintro ⟨h1, h2⟩; rcases h40 with h | h; exact h h1; omega
       refine r_seq (r_region (r_p (p_move rfl) rfl ?_))
       refine r_p (p_bin rfl rfl b_gt) rfl ?_
       refine r_p (p_assign rfl) rfl (r_nil ?_)
       refine r_cond rfl (fun h41 => ?_) (fun h41 => ?_)
       ·(try simp only [decide_eq_true_eq, decide_eq_false_iff_not, Bool.and_eq_true, Bool.or_eq_true, Bool.and_eq_false_iff, Bool.or_eq_false_iff, Bool.not_eq_true, Bool.not_eq_false, Bool.not_eq_true', Bool.not_eq_false', Bool.not_not, bne_iff_ne, beq_iff_eq] at h41)
        have q8 : 7 < k := h41
        obtain ⟨d2, rfl⟩ : ∃ d2, d = d2 + 1 := ⟨d - 1, by have := hk4; omega⟩
        refine r_seq (r_region ?_)
        refine r_bslice eS biL (parts := [(0, .const (.string (ByteArray.mk #[43]))), (1, .const (.string (ByteArray.mk #[45]))), (2, .const (.string (ByteArray.mk #[42]))), (3, .const (.string (ByteArray.mk #[47]))), (4, .const (.string (ByteArray.mk #[37]))), (5, .const (.string (ByteArray.mk #[38]))), (6, .const (.string (ByteArray.mk #[124]))), (7, .const (.string (ByteArray.mk #[94]))), (8, .const (.string (ByteArray.mk #[60, 60]))), (9, .const (.string (ByteArray.mk #[62, 62]))), (10, .const (.string (ByteArray.mk #[60]))), (11, .const (.string (ByteArray.mk #[60, 61]))), (12, .const (.string (ByteArray.mk #[62]))), (13, .const (.string (ByteArray.mk #[62, 61]))), (14, .const (.string (ByteArray.mk #[61, 61]))), (15, .const (.string (ByteArray.mk #[33, 61])))]) Tryz.underlying58 t9 rfl (by decide) (by intro _; rfl) rfl (by decide) (by decide) rfl rfl rfl rfl fun v146 => ?_
        refine r_p (p_assign rfl) rfl (r_nil (r_seq (r_region (r_p (p_move rfl) rfl (r_p (p_move rfl) rfl (r_p (p_move rfl) rfl ?_))))))
        refine r_p (p_len_sl Tryz.underlying58 rfl (hs_own (k := 146) rfl)) rfl ?_
        refine r_callN (xs := [.tmp 148, .tmp 150]) (gnext_spec e.g e.vl e.vn e.vf e.c he.hl he.hlo (16) (by decide) (s1)) cb31 [0] [(false, 0)] [0] rfl rfl rfl rfl rfl rfl rfl rfl (fun _ _ => rfl) (fun _ _ _ => rfl) rfl (fun _ _ => ?_)
        obtain ⟨xb, hxb, hjab, hjbb⟩ := gN_idx (l := e.c.l) (L := biL) (n := 16) (by decide) rfl (s1)
        have hn7 : (gN e.c.l 16 s1).2.names = s.names := (gN_keep e.c.l 16 s1).1.trans hn1
        refine r_p (p_idx_sl (j := (gN e.c.l 16 s1).1.toNat) Tryz.underlying58 t9 rfl rfl (hs_own (k := 146) rfl) hjbb hjab) rfl ?_
        refine r_p (p_load1 t9 rfl rfl (g_el' (hs_own (k := 146) rfl) (by intro _; rfl) hxb (by rfl))) rfl ?_
        refine r_p (p_assign rfl) rfl (r_nil (r_seq (r_region (r_p (p_move rfl) rfl (r_p (p_move rfl) rfl ?_)))))
        refine r_p (p_bin rfl rfl (b_sub (c := (d2 : Int) + 1) (by rw [show (((d2 + 1 : Nat) : Int) + 1) - 1 = (d2 : Int) + 1 by omega]; exact w_i64 (by omega) (by omega)))) rfl ?_
        refine r_callN (xs := [.tmp 154, .tmp 156]) (ihX _ rfl ((gN e.c.l 16 s1).2) (by rw [hn7]; exact hn)) cb49 [0] [(false, 0), (false, 1), (false, 2)] [0, 157] rfl rfl rfl rfl rfl (by rw [← hn7]; rfl) rfl rfl (fun _ _ => rfl) (fun _ _ _ => rfl) rfl (fun xt hxt => ?_)
        have hn8 : xt.2.names = s.names := hxt.keep.1.trans hn7
        refine r_alloc t48 rfl rfl fun b9 => ?_
        refine r_store_all (k := 9) t48 rfl rfl rfl rfl rfl rfl ?_
        refine r_nil (r_seq ?_)
        refine r_draw [158, 159, 160, 161, 162, 163, 164, 165] _ rfl (stg_mem (V := [(0, 158, _), (1, 159, _), (2, 160, _), (3, 161, _), (4, 162, _)]) [0, 1, 2, 3, 4] 5 [5, 4, 3, 2] [] (fun xu => []) rfl rfl (prs_cons (pri rfl (p_move rfl)) (prs_cons (pri rfl (p_loadA t48 rfl rfl rfl (g_all (k := 9) rfl))) (prs_cons (pri rfl (p_move rfl)) (prs_cons (pri rfl (p_move rfl)) (prs_cons (pri rfl (p_bin rfl rfl (b_sub (c := (d2 : Int) + 1) (by rw [show (((d2 + 1 : Nat) : Int) + 1) - 1 = (d2 : Int) + 1 by omega]; exact w_i64 (by omega) (by omega))))) prs_nil))))) rfl rfl rfl rfl rfl rfl rfl rfl rfl rfl rfl (fun _ _ => rfl) rfl (ms_callN (xs := [.tmp 160, .tmp 162]) (ihX _ rfl (xt.2) (by rw [hn8]; exact hn)) cb49 [0] [(false, 0), (false, 1), (false, 2)] [0, 163] rfl rfl rfl rfl rfl (by rw [← hn8]; rfl) rfl rfl (fun _ _ => rfl) (fun _ _ _ => rfl)) (fun xu hxu => stg_mem [0, 1] 6 [6, 5, 4, 3, 2, 1] [7] (fun v164 => [(7, 165, _)]) rfl rfl (prs_cons (pri rfl (p_move rfl)) (prs_cons (pri rfl (p_loadA t48 rfl rfl rfl (g_all (k := 9) rfl))) prs_nil)) rfl rfl rfl rfl rfl rfl rfl rfl rfl rfl rfl (fun _ _ => rfl) rfl (ms_bslice eTx [xt.1, xu.1] (parts := [(0, .tmp 159), (1, .tmp 163)]) Tryz.underlying46 t48 rfl (by decide) (by intro _; rfl) rfl (by decide) (by decide) rfl rfl rfl) (fun v164 _ => stg_mem0 [7, 0] 8 [8, 7, 6, 5, 4, 3, 2, 1, 0] [] (fun _ => []) rfl rfl (prs_cons (pri rfl (p_build (parts := [(0, .const (.int .i64 7)), (2, .tmp 158), (3, .tmp 164)]) t48 pl48 rfl rfl)) (prs_cons (pri rfl (p_move rfl)) prs_nil)) rfl rfl rfl rfl rfl rfl rfl rfl rfl (fun _ _ => rfl) rfl (ms_store_all (k := 4) t48 rfl rfl rfl rfl rfl rfl) (fun _ _ => stg_end [] rfl rfl prs_nil rfl rfl rfl ?_))))
        refine r_cret ?_
        refine r_collect 50 [164, 157, 163] rfl two_all ?_
        refine r_ret (tBin xb v164 xt.1 xu.1, xu.2) (.bin hk q8 rfl hxb hxt hxu) rfl (rs1 (rv_cellA t48 rfl rfl rfl (g_all (k := 4) rfl))) rfl [0, 50] [] rfl rfl rfl
       ·(try simp only [decide_eq_true_eq, decide_eq_false_iff_not, Bool.and_eq_true, Bool.or_eq_true, Bool.and_eq_false_iff, Bool.or_eq_false_iff, Bool.not_eq_true, Bool.not_eq_false, Bool.not_eq_true', Bool.not_eq_false', Bool.not_not, bne_iff_ne, beq_iff_eq] at h41)
        have q8 : ¬ 7 < k := by omega
        refine r_skip (r_seq (r_region (r_p (p_move rfl) rfl ?_)))
        refine r_callN (xs := [.tmp 166]) (gconst_spec e.g e.vl e.vn e.vf e.c he.hl he.hlo s1) cb86 [0] [(false, 0)] [0] rfl rfl rfl rfl rfl rfl rfl rfl (fun _ _ => rfl) (fun _ _ _ => rfl) rfl (fun xc hxc => ?_)
        refine r_store_all (k := 4) t48 rfl rfl rfl rfl rfl rfl ?_
        refine r_nil (r_cret ?_)
        refine r_collect 50 [] (L := []) rfl leaf_all ?_
        refine r_ret (tNum xc, (gN e.c.l 15 s1).2) (.con hk hq q3 (fun h => q4 (.inl h)) (fun h => q4 (.inr h)) q6 (fun h => q7 ⟨h.1, by rw [← hfl]; exact h.2⟩) q8 rfl hxc) rfl (rs1 (rv_cellA t48 rfl rfl rfl (g_all (k := 4) rfl))) rfl [0, 50] [] rfl rfl rfl
/-- The parts of statements can be read. -/
def ysA (l : List Ty) : Asn := ⟨fun w F => TysIn w F l, fun h hs => TysIn.mono (fun _ hb => hb) hs _ h⟩
theorem ys_snoc {w : World} {F : Nat → Prop} : ∀ {l : List Ty} {t : Ty}, TysIn w F l → TyIn w F t → TysIn w F (l ++ [t])
 | [], t, _, ht => ⟨ht, trivial⟩
 | a :: r, t, h, ht => ⟨h.1, ys_snoc h.2 ht⟩
theorem ys_up {w : World} {F G : Nat → Prop} {l : List Ty} (h : (ysA l).pred w G) (hs : ∀ b, G b → F b) : TysIn w F l := TysIn.mono hs (fun _ _ => rfl) l h
theorem Spec.roAll {P : Program} {n : Nat} {vs : List Value} {L R0 R1 : List Asn} {X : Type} {φ : X → Prop} {v : X → Value} {L' R' : X → List Asn} (h : Spec P n vs L R0 φ v L' R') (hAB : ∀ (i : Nat) (A : Asn), R0[i]? = some A → ∃ B : Asn, R1[i]? = some B ∧ ∀ w G, B.pred w G → A.pred w G) : Spec P n vs L R1 φ v L' R' := fun w M H ⟨F, hF⟩ =>
 h w M H ⟨F, hF.touch, hF.has, hF.lt, hF.mine, hF.apart, fun k C hk => by
  obtain ⟨B, h1, h2⟩ := hAB k C hk
  obtain ⟨G, g1, g2⟩ := hF.ro k B h1
  exact ⟨G, h2 _ _ g1, g2⟩⟩
theorem own2of3 {A B C D : Asn} (h : ∀ w G, D.pred w G → B.pred w G) : ∀ (i : Nat) (X : Asn), ([A, B, C] : List Asn)[i]? = some X → ∃ Y, ([A, D, C] : List Asn)[i]? = some Y ∧ ∀ w G, Y.pred w G → X.pred w G
 | 0, X, hX => ⟨A, rfl, by cases hX; exact fun _ _ h => h⟩
 | 1, X, hX => ⟨D, rfl, by cases hX; exact h⟩
 | 2, X, hX => ⟨C, rfl, by cases hX; exact fun _ _ h => h⟩
 | i + 3, X, hX => by simp at hX
theorem hg_all {e : Ge} (he : Gfine e) : ∀ d, d ≤ 10 → HGX e d ∧ HGC e d
 | 0, hd => by
  have hx : HGX e 0 := fun s hn => gexpr_step e he 0 hd (fun k h => by omega) (fun k h => by omega) s hn
  exact ⟨hx, fun s f hf hn => gcall_step e he 0 hd hx s f hf hn⟩
 | d + 1, hd => by
  have ih := hg_all he d (by omega)
  have hx : HGX e (d + 1) := fun s hn => gexpr_step e he (d + 1) hd (fun k h => (show d = k by omega) ▸ ih.1) (fun k h => (show d = k by omega) ▸ ih.2) s hn
  exact ⟨hx, fun s f hf hn => gcall_step e he (d + 1) hd hx s f hf hn⟩
def Ge.at (e : Ge) (v : SV) : Ge := { e with vn := v }
theorem Gfine.at {e : Ge} (he : Gfine e) (v : SV) : Gfine (e.at v) := ⟨he.hl, he.hlo, he.fs, he.fl, he.me, he.ps⟩
/-- The contract of an expression that is lent the owned names. -/
theorem gx_own {e : Ge} (he : Gfine e) (d : Nat) (hd : d ≤ 10) (v : SV) (s : Gs) (hn : s.names.length ≤ 1000) : Spec Tryz.prog 49 [.pointer (some ⟨e.g, 0, none⟩), .int .i64 ((d : Int) + 1)] [row e.g 76 (gRow e.vl s v e.c.me e.vf)] [sl 1 eI (sv e.vl) e.c.l, own 9 1 eS (sv v) s.names, tfsA e.vf e.F] (X := Tx × Gs) (fun x => GXr e.c d s (erX x.1) x.2) (fun x => xV x.1) (fun x => [row e.g 76 (gRow e.vl x.2 v e.c.me e.vf), txsA x.1.v x.1.kids]) (fun _ => []) :=
 Spec.roAll ((hg_all (he.at v) d hd).1 s hn) (own2of3 own_to_sl)
theorem gc_own {e : Ge} (he : Gfine e) (d : Nat) (hd : d ≤ 10) (v : SV) (s : Gs) (f : Tf) (hf : f ∈ e.F) (hn : s.names.length ≤ 1000) : Spec Tryz.prog 50 [.pointer (some ⟨e.g, 0, none⟩), tfV f, .int .i64 ((d : Int) + 2)] [row e.g 76 (gRow e.vl s v e.c.me e.vf)] [sl 1 eI (sv e.vl) e.c.l, own 9 1 eS (sv v) s.names, tfsA e.vf e.F] (X := Tx × Gs) (fun x => GCr e.c d (f.name, f.ps) s (erX x.1) x.2) (fun x => xV x.1) (fun x => [row e.g 76 (gRow e.vl x.2 v e.c.me e.vf), txsA x.1.v x.1.kids]) (fun _ => []) :=
 Spec.roAll ((hg_all (he.at v) d hd).2 s f hf hn) (own2of3 own_to_sl)
/-- What the states keep. -/
structure GInv (s : Gs) : Prop where
 v0 : 0 ≤ s.vars
 v8 : s.vars ≤ 8
 nm : (s.names.length : Int) ≤ 100 + s.vars
 lf : s.left ≤ 1000
theorem GInv.same {s s' : Gs} (h : GInv s) (k : s'.names = s.names ∧ s'.left = s.left ∧ s'.vars = s.vars) : GInv s' := ⟨by rw [k.2.2]; exact h.v0, by rw [k.2.2]; exact h.v8, by rw [k.1, k.2.2]; exact h.nm, by rw [k.2.1]; exact h.lf⟩
theorem GInv.n {s : Gs} (h : GInv s) : s.names.length ≤ 1000 := by have := h.nm; have := h.v8; omega
theorem GCr.keep {c : Gc} {d : Nat} {f : ByteArray × List ByteArray} {s s' : Gs} {p : Px} (h : GCr c d f s p s') : s'.names = s.names ∧ s'.left = s.left ∧ s'.vars = s.vars := by
 obtain ⟨ps, h1, _⟩ := h
 exact h1.keep
theorem keep_tr {a b c : Gs} (h : b.names = a.names ∧ b.left = a.left ∧ b.vars = a.vars) (k : c.names = b.names ∧ c.left = b.left ∧ c.vars = b.vars) : c.names = a.names ∧ c.left = a.left ∧ c.vars = a.vars := ⟨k.1.trans h.1, k.2.1.trans h.2.1, k.2.2.trans h.2.2⟩
theorem st1_all {l : List Ty} {k : Int} {nm : ByteArray} {v : SV} {t : Tx} (w : World) (F : Nat → Prop) (h : AllIn w F [ysA l, own 48 4 eTx (sv v) [t], txsA t.v t.kids]) : (ysA (l ++ [.mk k nm v [t] nilS [] nilS []])).pred w F := by
 obtain ⟨⟨_, a0, b0⟩, ⟨_, a1, b1⟩, ⟨_, a2, b2⟩, _⟩ := h
 have hny : SlIn' w F 5 eTy (sv nilS) [] ∧ TysIn w F [] := ⟨nil_in, trivial⟩
 exact ys_snoc (ys_up a0 b0) ⟨⟨own_in a1 b1, tx_up a2 b2, trivial⟩, hny, hny⟩
theorem st2_all {l : List Ty} {k : Int} {nm : ByteArray} {v : SV} {t u : Tx} (w : World) (F : Nat → Prop) (h : AllIn w F [ysA l, own 48 4 eTx (sv v) [t, u], txsA t.v t.kids, txsA u.v u.kids]) : (ysA (l ++ [.mk k nm v [t, u] nilS [] nilS []])).pred w F := by
 obtain ⟨⟨_, a0, b0⟩, ⟨_, a1, b1⟩, ⟨_, a2, b2⟩, ⟨_, a3, b3⟩, _⟩ := h
 have hny : SlIn' w F 5 eTy (sv nilS) [] ∧ TysIn w F [] := ⟨nil_in, trivial⟩
 exact ys_snoc (ys_up a0 b0) ⟨⟨own_in a1 b1, tx_up a2 b2, tx_up a3 b3, trivial⟩, hny, hny⟩
theorem sti1_all {l a b : List Ty} {v va vb : SV} {t : Tx} (w : World) (F : Nat → Prop) (h : AllIn w F [ysA l, own 48 4 eTx (sv v) [t], txsA t.v t.kids, own 53 5 eTy (sv va) a, ysA a, own 53 5 eTy (sv vb) b, ysA b]) : (ysA (l ++ [.mk 4 oNil v [t] va a vb b])).pred w F := by
 obtain ⟨⟨_, a0, b0⟩, ⟨_, a1, b1⟩, ⟨_, a2, b2⟩, ⟨_, a3, b3⟩, ⟨_, a4, b4⟩, ⟨_, a5, b5⟩, ⟨_, a6, b6⟩, _⟩ := h
 exact ys_snoc (ys_up a0 b0) ⟨⟨own_in a1 b1, tx_up a2 b2, trivial⟩, ⟨own_in a3 b3, ys_up a4 b4⟩, ⟨own_in a5 b5, ys_up a6 b6⟩⟩
theorem sti0_all {l a : List Ty} {v va : SV} {t : Tx} (w : World) (F : Nat → Prop) (h : AllIn w F [ysA l, own 48 4 eTx (sv v) [t], txsA t.v t.kids, own 53 5 eTy (sv va) a, ysA a]) : (ysA (l ++ [.mk 4 oNil v [t] va a nilS []])).pred w F := by
 obtain ⟨⟨_, a0, b0⟩, ⟨_, a1, b1⟩, ⟨_, a2, b2⟩, ⟨_, a3, b3⟩, ⟨_, a4, b4⟩, _⟩ := h
 exact ys_snoc (ys_up a0 b0) ⟨⟨own_in a1 b1, tx_up a2 b2, trivial⟩, ⟨own_in a3 b3, ys_up a4 b4⟩, ⟨nil_in, trivial⟩⟩
/-- The loop's variable, the loop. -/
abbrev wVar (x : ByteArray) (v : SV) (n : Int) : Ty := .mk 1 x v [tNum n] nilS [] nilS []
abbrev wDown (x : ByteArray) (v u : SV) : Ty := .mk 2 x v [tBin oSub u (tName x) (tNum 1)] nilS [] nilS []
abbrev wLoop (x : ByteArray) (v vb : SV) (b : List Ty) : Ty := .mk 5 oNil v [tName x] vb b nilS []
theorem stw_all {l a : List Ty} {x : ByteArray} {v0 v1 v2 v3 vb : SV} {n : Int} (w : World) (F : Nat → Prop) (h : AllIn w F [ysA l, own 48 4 eTx (sv v0) [tNum n], own 48 4 eTx (sv v1) [tName x], ysA a, own 48 4 eTx (sv v2) [tName x, tNum 1], own 48 4 eTx (sv v3) [tBin oSub v2 (tName x) (tNum 1)], own 53 5 eTy (sv vb) (a ++ [wDown x v3 v2])]) :
  (ysA (l ++ [wVar x v0 n, wLoop x v1 vb (a ++ [wDown x v3 v2])])).pred w F := by
 obtain ⟨⟨_, a0, b0⟩, ⟨_, a1, b1⟩, ⟨_, a2, b2⟩, ⟨_, a3, b3⟩, ⟨_, a4, b4⟩, ⟨_, a5, b5⟩, ⟨_, a6, b6⟩, _⟩ := h
 have hny : SlIn' w F 5 eTy (sv nilS) [] ∧ TysIn w F [] := ⟨nil_in, trivial⟩
 have hx : TxIn w F (tName x) := ⟨nil_in, trivial⟩
 have hn : ∀ n, TxIn w F (tNum n) := fun _ => ⟨nil_in, trivial⟩
 have hb : TxIn w F (tBin oSub v2 (tName x) (tNum 1)) := ⟨own_in a4 b4, hx, hn 1, trivial⟩
 have h1 : TyIn w F (wVar x v0 n) := ⟨⟨own_in a1 b1, hn n, trivial⟩, hny, hny⟩
 have h2 : TyIn w F (wDown x v3 v2) := ⟨⟨own_in a5 b5, hb, trivial⟩, hny, hny⟩
 have h3 : TyIn w F (wLoop x v1 vb (a ++ [wDown x v3 v2])) := ⟨⟨own_in a2 b2, hx, trivial⟩, ⟨own_in a6 b6, ys_snoc (ys_up a3 b3) h2⟩, hny⟩
 have := ys_snoc (ys_snoc (ys_up a0 b0) h1) h3
 rw [List.append_assoc] at this
 exact this
theorem gl_next {c : Gc} {lev many i : Nat} {s s1 s0 s' : Gs} {k : Int} {out o : List Py} (hi : i < many) (hleft : 0 < s.left) (hk : gN c.l 12 { s with left := s.left - 1 } = (k, s1)) (h1 : G1r c lev k s1 o s') (hinv : ∀ r s2, GLr c lev (many - i) s r s2 → GLr c lev many s0 (out ++ r) s2) : ∀ r s2, GLr c lev (many - (i + 1)) s' r s2 → GLr c lev many s0 ((out ++ o) ++ r) s2 := fun r s2 h => by
 rw [List.append_assoc]
 refine hinv _ _ ?_
 rw [show many - i = (many - (i + 1)) + 1 by omega]
 exact .step hleft hk h1 h
/-- What statements keep: names come with variables. -/
structure GKp (s s' : Gs) : Prop where
 inv : GInv s'
 left : s'.left ≤ s.left
 diff : (s'.names.length : Int) - s'.vars = (s.names.length : Int) - s.vars
theorem GKp.of {s s' : Gs} (h : GInv s) (k : s'.names = s.names ∧ s'.left = s.left ∧ s'.vars = s.vars) : GKp s s' := ⟨h.same k, by rw [k.2.1]; exact Int.le_refl _, by rw [k.1, k.2.2]⟩
theorem GKp.trans {a b c : Gs} (h : GKp a b) (k : GKp b c) : GKp a c := ⟨k.inv, Int.le_trans k.left h.left, k.diff.trans h.diff⟩
theorem GInv.var {s : Gs} (h : GInv s) (hv : s.vars < 8) : GInv { s with vars := s.vars + 1 } := ⟨by show 0 ≤ s.vars + 1; have := h.v0; omega, by show s.vars + 1 ≤ 8; omega, by show (s.names.length : Int) ≤ 100 + (s.vars + 1); have := h.nm; omega, h.lf⟩
theorem GKp.more {s s' : Gs} {x : ByteArray} (h : GInv s) (k : GKp { s with vars := s.vars + 1 } s') : GKp s { s' with names := s'.names ++ [x] } := by
 have hd : (s'.names.length : Int) - s'.vars = (s.names.length : Int) - (s.vars + 1) := k.diff
 have hn := h.nm
 have hl : ((s'.names ++ [x]).length : Int) = (s'.names.length : Int) + 1 := by rw [List.length_append, List.length_singleton]; rfl
 exact ⟨⟨k.inv.v0, k.inv.v8, by show ((s'.names ++ [x]).length : Int) ≤ 100 + s'.vars; omega, k.inv.lf⟩, k.left, by show ((s'.names ++ [x]).length : Int) - s'.vars = _; omega⟩
mutual
theorem GYr.inv {c : Gc} : ∀ {e : Nat} {s s' : Gs} {o : List Py}, GYr c e s o s' → GInv s → GKp s s'
 | _, _, _, _, .mk hj h, hi => (GKp.of hi (gN_st2 hj)).trans (h.inv (hi.same (gN_st2 hj)))
theorem GLr.inv {c : Gc} : ∀ {e n : Nat} {s s' : Gs} {o : List Py}, GLr c e n s o s' → GInv s → GKp s s'
 | _, _, _, _, _, .zero, hi => GKp.of hi ⟨rfl, rfl, rfl⟩
 | _, _, _, _, _, .stop _, hi => GKp.of hi ⟨rfl, rfl, rfl⟩
 | _, _, s, _, _, .step hl hk h1 h2, hi => by
  have hi2 : GInv { s with left := s.left - 1 } := ⟨hi.v0, hi.v8, hi.nm, by show s.left - 1 ≤ 1000; have := hi.lf; omega⟩
  have k0 : GKp s { s with left := s.left - 1 } := ⟨hi2, by show s.left - 1 ≤ s.left; omega, rfl⟩
  have k1 := GKp.of hi2 (gN_st2 hk)
  have k2 := h1.inv k1.inv
  exact ((k0.trans k1).trans k2).trans (h2.inv k2.inv)
theorem G1r.inv {c : Gc} : ∀ {e : Nat} {k : Int} {s s' : Gs} {o : List Py}, G1r c e k s o s' → GInv s → GKp s s'
 | _, _, s, _, _, .var _ _ hv hp, hi => GKp.more hi (GKp.of (hi.var hv) hp.keep)
 | _, _, _, _, _, .set _ hj _ hp, hi => GKp.of hi (keep_tr (gN_st2 hj) hp.keep)
 | _, _, _, _, _, .put _ hp hq, hi => GKp.of hi (keep_tr hp.keep hq.keep)
 | _, _, _, _, _, .iff1 hp ha hj hb, hi => by
  have k1 := GKp.of hi hp.keep
  have k2 := ha.inv k1.inv
  have k3 := GKp.of k2.inv (gN_st2 hj)
  exact ((k1.trans k2).trans k3).trans (hb.inv k3.inv)
 | _, _, _, _, _, .iff0 hp ha hj _, hi => by
  have k1 := GKp.of hi hp.keep
  have k2 := ha.inv k1.inv
  exact (k1.trans k2).trans (GKp.of k2.inv (gN_st2 hj))
 | _, _, s, _, _, .whi _ hv hj ha, hi => by
  have k1 := GKp.of (hi.var hv) (gN_st2 hj)
  exact GKp.more hi (k1.trans (ha.inv k1.inv))
 | _, _, _, _, _, .ret hj hp, hi => GKp.of hi (keep_tr (gN_st2 hj) hp.keep)
 | _, _, s, _, _, .dos (s2 := s2) (s3 := s3) _ hj hj2 hf hp, hi => by
  have k1 : s3.names = s2.names ∧ s3.left = s2.left ∧ s3.vars = s2.vars := by
   rcases hf with ⟨_, _, h⟩ | ⟨_, j3, h, _⟩
   ·rw [h]; exact ⟨rfl, rfl, rfl⟩
   ·exact gN_st2 h
  exact GKp.of hi (keep_tr (keep_tr (keep_tr (gN_st2 hj) (gN_st2 hj2)) k1) hp.keep)
 | _, _, s, _, _, .out (s1 := s1) _ _ _ _ _ _ h8 _ hp, hi => by
  have k1 : s1.names = s.names ∧ s1.left = s.left ∧ s1.vars = s.vars := by
   rcases h8 with ⟨_, h⟩ | ⟨_, j, _, h⟩
   ·rw [h]; exact ⟨rfl, rfl, rfl⟩
   ·exact gN_st2 h
  exact GKp.of hi (keep_tr k1 hp.keep)
end
end Go.Proofs.YtdcbbkpdlcojfaaGreat
