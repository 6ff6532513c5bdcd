/-
  Part of the proof: the texts R5, R6, S4, D0, D1, V0, C4, C5, C6, V1, V5, VU, V2, V4, VA. Conditions are with the theorems.
-/
import Derived.Test.YtdcbbkpdlcojfaaGreatP5a
import Derived.Test.YtdcbbkpdlcojfaaGreatP5b
import Derived.Test.YtdcbbkpdlcojfaaGreatP5c
import Derived.Test.YtdcbbkpdlcojfaaGreatP5d
namespace Go.Proofs.YtdcbbkpdlcojfaaGreat
set_option linter.unusedSimpArgs false
set_option linter.unusedVariables false
open Go.RowKit
/-- The contract of scope.stmts. -/
def HSs (c : Nat) (vp : SV) (fs : List Tf) (v : SV) (l : List Ty) : Prop := ∀ (vn : SV) (ns : List ByteArray), ns.length + vYs l ≤ 1000000 → Spec Tryz.prog 40 [.pointer (some ⟨c, 0, none⟩), sv v] [row c 90 [sv vp, sv vn], own 9 1 eS (sv vn) ns] [tysA v l, tfsA vp fs] (X := SV × List ByteArray) (fun x => (bYs fs ns l).2 = 0 → x.2 = (bYs fs ns l).1) (fun _ => .int .i64 (bYs fs ns l).2) (fun x => [row c 90 [sv vp, sv x.1], own 9 1 eS (sv x.1) x.2]) (fun _ => [])
theorem own4of4 {A B C D D' : Asn} (h : ∀ w G, D.pred w G → D'.pred w G) : ∀ (i : Nat) (X : Asn), ([A, D', B, C] : List Asn)[i]? = some X → ∃ Y, ([A, D, B, C] : List Asn)[i]? = some Y ∧ ∀ w G, Y.pred w G → X.pred w G
 | 0, X, hX => ⟨A, rfl, by cases hX; exact fun _ _ h => h⟩
 | 1, X, hX => ⟨D, rfl, by cases hX; exact h⟩
 | 2, X, hX => ⟨B, rfl, by cases hX; exact fun _ _ h => h⟩
 | 3, X, hX => ⟨C, rfl, by cases hX; exact fun _ _ h => h⟩
 | i + 4, X, hX => by simp at hX
theorem se_own (c : Nat) (vp vn : SV) (fs : List Tf) (ns : List ByteArray) (hfl : fs.length ≤ 1000000) (hns : ns.length ≤ 1000000) (t : Tx) (ht : GX t) : Spec Tryz.prog 55 [.pointer (some ⟨c, 0, none⟩), xV t] [] [row c 90 [sv vp, sv vn], own 9 1 eS (sv vn) ns, tfsA vp fs, txsA t.v t.kids] (X := Unit) (fun _ => True) (fun _ => .int .i64 (eX fs ns t)) (fun _ => []) (fun _ => []) :=
 Spec.roAll (se_spec c vp vn fs ns hfl hns t ht) (own4of4 own_to_sl)
theorem bYs_stop {fs : List Tf} {ns ns2 : List ByteArray} {l : List Ty} {i : Nat} {st : Ty} {z : Int} (hst : l[i]? = some st) (h : bYs fs ns (l.take i) = (ns2, 0)) (hz : (bY fs ns2 st).2 = z) (hz0 : z ≠ 0) : (bYs fs ns l).2 = z := by
 have h1 := bYs_app fs ns (l.take (i + 1)) (l.drop (i + 1))
 rw [List.take_append_drop, bYs_take hst, h] at h1
 rw [h1]
 show fst (fst 0 (bY fs ns2 st).2) _ = z
 rw [zero_fst, hz, fst_ne hz0]
theorem bYs_go {fs : List Tf} {ns ns2 ns3 : List ByteArray} {l : List Ty} {i : Nat} {st : Ty} (hst : l[i]? = some st) (h : bYs fs ns (l.take i) = (ns2, 0)) (hz : bY fs ns2 st = (ns3, 0)) : bYs fs ns (l.take (i + 1)) = (ns3, 0) := by
 rw [bYs_take hst, h]
 show ((bY fs ns2 st).1, fst 0 (bY fs ns2 st).2) = _
 rw [hz]
 rfl
theorem bY_a {fs : List Tf} {ns : List ByteArray} {st : Ty} (h2 : st.kind = 2) (hm : memB st.name ns = false) : (bY fs ns st).2 = 21 := by
 rw [bY_eq]
 show fst (aE ns st) _ = 21
 have h : aE ns st = 21 := by unfold aE; rw [if_pos h2, hm]; rfl
 rw [h]
 rfl
theorem aE_0 {ns : List ByteArray} {st : Ty} (h : ¬ (st.kind = 2 ∧ memB st.name ns = false)) : aE ns st = 0 := by
 unfold aE
 by_cases h2 : st.kind = 2
 ·rw [if_pos h2]
  by_cases hm : memB st.name ns = true
  ·rw [if_pos hm]
  ·exact absurd ⟨h2, by simpa using hm⟩ h
 ·rw [if_neg h2]
theorem dE_0 {ns : List ByteArray} {st : Ty} (h : ¬ (st.kind = 1 ∧ memB st.name ns = true)) : dE ns st = 0 := by
 unfold dE
 by_cases h2 : st.kind = 1
 ·rw [if_pos h2]
  by_cases hm : memB st.name ns = true
  ·exact absurd ⟨h2, hm⟩ h
  ·rw [if_neg hm]
 ·rw [if_neg h2]
theorem bY_d {fs : List Tf} {ns : List ByteArray} {st : Ty} {e : Tx} (h1 : st.kind = 1) (hm : memB st.name ns = true) (he : st.es = [e]) : (bY fs ns st).2 = fst (eX fs ns e) 22 := by
 rw [bY_eq]
 show fst (aE ns st) (fst (eXs fs ns st.es) (fst (dE ns st) _)) = _
 rw [aE_0 (fun h => by rw [h1] at h; exact absurd h.1 (by decide)), he]
 have h : dE ns st = 22 := by unfold dE; rw [if_pos h1, if_pos hm]
 rw [h]
 show fst 0 (fst (fst (eX fs ns e) 0) (fst 22 _)) = _
 rw [zero_fst, fst_zero]
 rfl
theorem bY_x {fs : List Tf} {ns : List ByteArray} {st : Ty} (ha : ¬ (st.kind = 2 ∧ memB st.name ns = false)) {z : Int} (hz : eXs fs ns st.es = z) (h0 : z ≠ 0) : (bY fs ns st).2 = z := by
 rw [bY_eq]
 show fst (aE ns st) (fst (eXs fs ns st.es) _) = _
 rw [aE_0 ha, zero_fst, hz, fst_ne h0]
theorem bY_b {fs : List Tf} {ns : List ByteArray} {st : Ty} (ha : ¬ (st.kind = 2 ∧ memB st.name ns = false)) (hd : ¬ (st.kind = 1 ∧ memB st.name ns = true)) (hz : eXs fs ns st.es = 0) : bY fs ns st = ((bYs fs (bYs fs (dN ns st) st.body).1 st.els).1, fst (bYs fs (dN ns st) st.body).2 (bYs fs (bYs fs (dN ns st) st.body).1 st.els).2) := by
 rw [bY_eq, aE_0 ha, dE_0 hd, hz]
 rfl
theorem one_of {t : Ty} (h : rY t = true) (hk : t.kind ≠ 3) : ∃ e, t.es = [e] := by
 rw [rY_def] at h
 simp only [Bool.and_eq_true] at h
 have h2 := h.1.1.1
 unfold okY at h2
 simp only [Bool.and_eq_true, decide_eq_true_eq] at h2
 have h3 := h2.1.1.1.2
 rw [if_neg hk] at h3
 exact List.length_eq_one_iff.1 h3
structure Xn where
 i : Nat
 vn : SV
 ns : List ByteArray
set_option maxHeartbeats 8000000 in
set_option maxRecDepth 100000 in
theorem ss_step (c : Nat) (vp : SV) (fs : List Tf) (hfl : fs.length ≤ 1000000) (v : SV) (l : List Ty) (hl : l.length ≤ 1000000) (hg : GYs l) (hr : l.all rY = true) (ih : ∀ u ∈ l, HSs c vp fs u.vb u.body ∧ HSs c vp fs u.vl u.els) (vn : SV) (ns : List ByteArray) (hb : ns.length + vYs l ≤ 1000000) :
  Spec Tryz.prog 40 [.pointer (some ⟨c, 0, none⟩), sv v] [row c 90 [sv vp, sv vn], own 9 1 eS (sv vn) ns] [tysA v l, tfsA vp fs] (X := SV × List ByteArray) (fun x => (bYs fs ns l).2 = 0 → x.2 = (bYs fs ns l).1) (fun _ => .int .i64 (bYs fs ns l).2) (fun x => [row c 90 [sv vp, sv x.1], own 9 1 eS (sv x.1) x.2]) (fun _ => []) := by
 refine r_enter Tryz.func40 rfl Tryz.ntmps40 rfl fun w0 M H => ?_
 refine r_more 0 2 rfl tys_sl ?_
 refine r_seq (r_region (r_p (p_assign rfl) rfl (r_nil (r_seq (r_seq (r_region (r_p (p_assign rfl) rfl (r_nil (r_block ?_)))))))))
 refine r_loop (X := Xn) (fun x => x.i ≤ l.length ∧ bYs fs ns (l.take x.i) = (x.ns, 0)) (fun x => [(0, .pointer (some ⟨c, 0, none⟩)), (1, sv v), (5, .int .i64 (x.i : Int))]) (fun x => [(0, row c 90 [sv vp, sv x.vn]), (1, own 9 1 eS (sv x.vn) x.ns)]) (fun x => [(0, tysA v l), (2, sl 5 eTy (sv v) l), (1, tfsA vp fs)]) (fun x => l.length - x.i) ⟨0, vn, ns⟩ ⟨Nat.zero_le _, rfl⟩ rfl rfl rfl (fun x hx0 => ?_)
 obtain ⟨i, vn2, ns2⟩ := x
 obtain ⟨n1, n2⟩ := hx0
 dsimp only at n1 n2 ⊢
 have hnl2 : ns2.length = ns.length + vYs (l.take i) := by have h := bYs_len fs ns (l.take i); rw [n2] at h; exact h
 have hvl2 := vYs_app (l.take i) (l.drop i)
 rw [List.take_append_drop] at hvl2
 refine r_seq (r_seq (r_region (r_p (p_move rfl) rfl (r_p (p_move rfl) rfl ?_))))
 refine r_p (p_len_sl Tryz.underlying51 rfl (hs_sl (k := 2) rfl)) rfl ?_
 refine r_p (p_bin rfl rfl b_lt) rfl ?_
 refine r_nil ?_
 refine r_cond rfl (fun h1 => ?_) (fun h1 => ?_)
 ·(try simp only [decide_eq_true_eq, decide_eq_false_iff_not, Bool.and_eq_true, Bool.or_eq_true, Bool.and_eq_false_iff, Bool.or_eq_false_iff, Bool.not_eq_true, Bool.not_eq_false, Bool.not_eq_true', Bool.not_eq_false', Bool.not_not, bne_iff_ne, beq_iff_eq] at h1)
  have hi : i < l.length := by omega
  obtain ⟨st, hst⟩ : ∃ k, l[i]? = some k := ⟨_, List.getElem?_eq_getElem hi⟩
  have hsm := List.mem_of_getElem? hst
  have hsg := GY_es (hg.mem st hsm)
  have hry : rY st = true := List.all_eq_true.1 hr st hsm
  have hvb := vYs_app (l.take (i + 1)) (l.drop (i + 1))
  rw [List.take_append_drop, vYs_take hst] at hvb
  have hvs := vY_def st
  refine r_more 0 7 rfl (tys_es hsm) ?_
  refine r_more 0 8 rfl (tys_body hsm) ?_
  refine r_more 0 9 rfl (tys_els hsm) ?_
  refine r_more 7 10 rfl txs_sl ?_
  refine r_skip (r_seq (r_block (r_seq (r_region (r_p (p_move rfl) rfl (r_p (p_move rfl) rfl ?_))))))
  refine r_p (p_idx_sl (j := i) Tryz.underlying51 t53 rfl rfl (hs_sl (k := 2) rfl) (by first | rfl | omega) (by first | omega | (simp; done) | (simp; omega))) rfl ?_
  refine r_p (p_loadA t53 rfl rfl rfl (g_el' (hs_sl (k := 2) rfl) (by intro _; rfl) hst (by rfl))) rfl ?_
  refine r_alloc t53 rfl rfl fun b6 => ?_
  refine r_store_all (k := 6) t53 rfl rfl rfl rfl rfl rfl ?_
  refine r_nil (r_seq ?_)
  refine r_draw [22, 23, 24, 25, 26, 27, 28, 7] _ rfl (stg_mem (V := [(0, 22, _), (1, 23, _), (2, 24, _), (3, 25, _), (4, 26, _), (5, 27, _)]) [0, 1, 2, 3, 4, 5] 6 [6, 5, 4, 3, 2, 1, 0] [7] (fun _ => [(7, 7, _)]) rfl rfl (prs_cons (pri rfl (p_field0 fo53_1 rfl)) (prs_cons (pri rfl (p_load1 t9 rfl rfl (g_row1 (k := 6) rfl rfl))) (prs_cons (pri rfl (p_move rfl)) (prs_cons (pri rfl (p_nilCheck rfl)) (prs_cons (pri rfl (p_field0 fo90_1 rfl)) (prs_cons (pri rfl (p_load1 t58 rfl rfl (g_row1 (k := 0) rfl rfl))) prs_nil)))))) rfl rfl rfl rfl rfl rfl rfl rfl rfl rfl rfl (fun _ _ => rfl) rfl (ms_callN (xs := [.tmp 23, .tmp 27]) (among_own st.name vn2 ns2 (by omega)) cb39 [] [(true, 1)] [] rfl rfl rfl rfl rfl rfl rfl rfl (fun _ _ => rfl) (fun _ _ _ => rfl)) (fun _ _ => stg_end [7] rfl rfl (prs_cons (pri rfl (p_assign rfl)) prs_nil) rfl rfl rfl ?_))
  refine r_seq (r_seq (r_region ?_))
  refine r_p (p_field0 fo53_0 rfl) rfl ?_
  refine r_p (p_load1 t3 rfl rfl (g_row1 (k := 6) rfl rfl)) rfl ?_
  refine r_p (p_bin rfl rfl b_eq) rfl ?_
  refine r_p (p_move rfl) rfl ?_
  refine r_gp [] rfl rfl trivial (fun hg2 => p_move rfl) rfl ?_
  refine r_gp [(33, _)] rfl rfl ⟨rfl, trivial⟩ (fun hg3 => p_not rfl) rfl ?_
  refine r_p (p_pick rfl rfl rfl (by first | exact pick_and | exact pick_or |  rfl)) rfl ?_
  refine r_nil ?_
  refine r_cond rfl (fun h4 => ?_) (fun h4 => ?_)
  ·have q2 : st.kind = 2 ∧ memB st.name ns2 = false := by simpa using h4
   refine r_seq (r_region (r_p (p_assign rfl) rfl (r_nil (r_cret ?_))))
   refine r_ret (vn2, ns2) (fun h => absurd h (by rw [bYs_stop hst n2 (bY_a q2.1 q2.2) (by decide)]; exact (by decide))) rfl (rs1 (rv_tmp rfl)) (by rw [bYs_stop hst n2 (bY_a q2.1 q2.2) (by decide)]) [0, 1] [] rfl rfl rfl
  ·have q2 : ¬ (st.kind = 2 ∧ memB st.name ns2 = false) := by rintro ⟨a, b⟩; rw [decide_eq_true a, b] at h4; exact absurd h4 (by simp)
   refine r_skip (r_seq (r_seq (r_region ?_)))
   refine r_p (p_field0 fo53_0 rfl) rfl ?_
   refine r_p (p_load1 t3 rfl rfl (g_row1 (k := 6) rfl rfl)) rfl ?_
   refine r_p (p_bin rfl rfl b_eq) rfl ?_
   refine r_p (p_move rfl) rfl ?_
   refine r_gp [] rfl rfl trivial (fun hg5 => p_move rfl) rfl ?_
   refine r_p (p_pick rfl rfl rfl (by first | exact pick_and | exact pick_or |  rfl)) rfl ?_
   refine r_nil ?_
   refine r_cond rfl (fun h6 => ?_) (fun h6 => ?_)
   ·have q3 : st.kind = 1 ∧ memB st.name ns2 = true := by simpa using h6
    obtain ⟨e, hes⟩ := one_of hry (by rw [q3.1]; decide)
    have he0 : st.es[0]? = some e := by rw [hes]; rfl
    refine r_seq (r_region (r_p (p_move rfl) rfl ?_))
    refine r_p (p_field0 fo53_2 rfl) rfl ?_
    refine r_p (p_load1 t46 rfl rfl (g_row1 (k := 6) rfl rfl)) rfl ?_
    refine r_p (p_idx_sl (j := 0) Tryz.underlying46 t48 rfl rfl (hs_sl (k := 10) rfl) rfl (by rw [hes]; exact Nat.zero_lt_one)) rfl ?_
    refine r_p (p_loadA t48 rfl rfl rfl (g_el' (hs_sl (k := 10) rfl) (by intro _; rfl) he0 (by rfl))) rfl ?_
    have hum : e ∈ st.es := List.mem_of_getElem? he0
    refine r_more 7 11 rfl (txs_kid hum) ?_
    refine r_callN (xs := [.tmp 42, .tmp 46]) (se_own c vp vn2 fs ns2 hfl (by omega) e (hsg.2.mem e hum)) cb55 [] [(true, 0), (true, 1), (false, 1), (false, 11)] [] rfl rfl rfl rfl rfl rfl rfl rfl (fun _ _ => rfl) (fun _ _ _ => rfl) rfl (fun _ _ => ?_)
    refine r_p (p_assign rfl) rfl (r_nil (r_seq (r_seq (r_region (r_p (p_move rfl) rfl ?_)))))
    refine r_p (p_bin rfl rfl b_ne) rfl ?_
    refine r_nil ?_
    refine r_cond rfl (fun h7 => ?_) (fun h7 => ?_)
    ·(try simp only [decide_eq_true_eq, decide_eq_false_iff_not, Bool.and_eq_true, Bool.or_eq_true, Bool.and_eq_false_iff, Bool.or_eq_false_iff, Bool.not_eq_true, Bool.not_eq_false, Bool.not_eq_true', Bool.not_eq_false', Bool.not_not, bne_iff_ne, beq_iff_eq] at h7)
     have q4 : eX fs ns2 e ≠ 0 := h7
     refine r_seq (r_region (r_p (p_move rfl) rfl (r_p (p_assign rfl) rfl (r_nil (r_cret ?_)))))
     refine r_ret (vn2, ns2) (fun h => absurd h (by rw [bYs_stop hst n2 (z := eX fs ns2 e) (by rw [bY_d q3.1 q3.2 hes, fst_ne q4]) q4]; exact q4)) rfl (rs1 (rv_tmp rfl)) (by rw [bYs_stop hst n2 (z := eX fs ns2 e) (by rw [bY_d q3.1 q3.2 hes, fst_ne q4]) q4]) [0, 1] [] rfl rfl rfl
    ·(try simp only [decide_eq_true_eq, decide_eq_false_iff_not, Bool.and_eq_true, Bool.or_eq_true, Bool.and_eq_false_iff, Bool.or_eq_false_iff, Bool.not_eq_true, Bool.not_eq_false, Bool.not_eq_true', Bool.not_eq_false', Bool.not_not, bne_iff_ne, beq_iff_eq] at h7)
     have q4 : eX fs ns2 e = 0 := h7
     refine r_skip (r_seq (r_region (r_p (p_assign rfl) rfl (r_nil (r_cret ?_)))))
     refine r_ret (vn2, ns2) (fun h => absurd h (by rw [bYs_stop hst n2 (z := 22) (by rw [bY_d q3.1 q3.2 hes, q4]; rfl) (by decide)]; exact (by decide))) rfl (rs1 (rv_tmp rfl)) (by rw [bYs_stop hst n2 (z := 22) (by rw [bY_d q3.1 q3.2 hes, q4]; rfl) (by decide)]) [0, 1] [] rfl rfl rfl
   ·have q3 : ¬ (st.kind = 1 ∧ memB st.name ns2 = true) := by rintro ⟨a, b⟩; rw [decide_eq_true a, b] at h6; exact absurd h6 (by simp)
    refine r_skip (r_seq (r_seq (r_region (r_p (p_assign rfl) rfl (r_nil (r_block ?_))))))
    refine r_loop (X := Nat) (fun j => j ≤ st.es.length ∧ eXs fs ns2 (st.es.take j) = 0) (fun j => [(0, .pointer (some ⟨c, 0, none⟩)), (1, sv v), (5, .int .i64 (i : Int)), (6, .pointer (some ⟨b6, 0, none⟩)), (7, .bool (memB st.name ns2)), (9, .int .i64 (j : Int))]) (fun j => [(0, row c 90 [sv vp, sv vn2]), (1, own 9 1 eS (sv vn2) ns2), (6, row b6 53 (eTy st))]) (fun j => [(0, tysA v l), (2, sl 5 eTy (sv v) l), (1, tfsA vp fs), (7, txsA st.ve st.es), (8, tysA st.vb st.body), (9, tysA st.vl st.els), (10, sl 4 eTx (sv st.ve) st.es)]) (fun j => st.es.length - j) 0 ⟨Nat.zero_le _, rfl⟩ rfl rfl rfl (fun j hy0 => ?_)
    obtain ⟨n3, n4⟩ := hy0
    refine r_seq (r_seq (r_region (r_p (p_move rfl) rfl ?_)))
    refine r_p (p_field0 fo53_2 rfl) rfl ?_
    refine r_p (p_load1 t46 rfl rfl (g_row1 (k := 6) rfl rfl)) rfl ?_
    refine r_p (p_len_sl Tryz.underlying46 rfl (hs_sl (k := 10) rfl)) rfl ?_
    refine r_p (p_bin rfl rfl b_lt) rfl ?_
    refine r_nil ?_
    refine r_cond rfl (fun h8 => ?_) (fun h8 => ?_)
    ·(try simp only [decide_eq_true_eq, decide_eq_false_iff_not, Bool.and_eq_true, Bool.or_eq_true, Bool.and_eq_false_iff, Bool.or_eq_false_iff, Bool.not_eq_true, Bool.not_eq_false, Bool.not_eq_true', Bool.not_eq_false', Bool.not_not, bne_iff_ne, beq_iff_eq] at h8)
     have hj : j < st.es.length := by omega
     obtain ⟨u, hu⟩ : ∃ k, st.es[j]? = some k := ⟨_, List.getElem?_eq_getElem hj⟩
     have hum := List.mem_of_getElem? hu
     refine r_skip (r_seq (r_block (r_seq (r_region (r_p (p_move rfl) rfl ?_)))))
     refine r_p (p_field0 fo53_2 rfl) rfl ?_
     refine r_p (p_load1 t46 rfl rfl (g_row1 (k := 6) rfl rfl)) rfl ?_
     refine r_p (p_move rfl) rfl ?_
     refine r_p (p_idx_sl (j := j) Tryz.underlying46 t48 rfl rfl (hs_sl (k := 10) rfl) (by first | rfl | omega) (by first | omega | (simp; done) | (simp; omega))) rfl ?_
     refine r_p (p_loadA t48 rfl rfl rfl (g_el' (hs_sl (k := 10) rfl) (by intro _; rfl) hu (by rfl))) rfl ?_
     refine r_more 7 11 rfl (txs_kid hum) ?_
     refine r_callN (xs := [.tmp 58, .tmp 63]) (se_own c vp vn2 fs ns2 hfl (by omega) u (hsg.2.mem u hum)) cb55 [] [(true, 0), (true, 1), (false, 1), (false, 11)] [] rfl rfl rfl rfl rfl rfl rfl rfl (fun _ _ => rfl) (fun _ _ _ => rfl) rfl (fun _ _ => ?_)
     refine r_p (p_assign rfl) rfl (r_nil (r_seq (r_region (r_p (p_move rfl) rfl ?_))))
     refine r_p (p_bin rfl rfl b_ne) rfl ?_
     refine r_nil ?_
     refine r_cond rfl (fun h9 => ?_) (fun h9 => ?_)
     ·(try simp only [decide_eq_true_eq, decide_eq_false_iff_not, Bool.and_eq_true, Bool.or_eq_true, Bool.and_eq_false_iff, Bool.or_eq_false_iff, Bool.not_eq_true, Bool.not_eq_false, Bool.not_eq_true', Bool.not_eq_false', Bool.not_not, bne_iff_ne, beq_iff_eq] at h9)
      have q6 : eX fs ns2 u ≠ 0 := h9
      refine r_seq (r_region (r_p (p_move rfl) rfl (r_p (p_assign rfl) rfl (r_nil (r_cret ?_)))))
      refine r_ret (vn2, ns2) (fun h => absurd h (by rw [bYs_stop hst n2 (bY_x q2 (eXs_hit hu n4 q6) q6) q6]; exact q6)) rfl (rs1 (rv_tmp rfl)) (by rw [bYs_stop hst n2 (bY_x q2 (eXs_hit hu n4 q6) q6) q6]) [0, 1] [] rfl rfl rfl
     ·(try simp only [decide_eq_true_eq, decide_eq_false_iff_not, Bool.and_eq_true, Bool.or_eq_true, Bool.and_eq_false_iff, Bool.or_eq_false_iff, Bool.not_eq_true, Bool.not_eq_false, Bool.not_eq_true', Bool.not_eq_false', Bool.not_not, bne_iff_ne, beq_iff_eq] at h9)
      have q6 : eX fs ns2 u = 0 := h9
      refine r_skip (r_region (r_p (p_move rfl) rfl ?_))
      refine r_p (p_bin rfl rfl (b_add (by first | exact w_i64 (by omega) (by omega) | rfl))) rfl ?_
      refine r_p (p_assign rfl) rfl (r_nil ?_)
      refine r_here (j + 1) ⟨⟨by omega, by rw [eXs_take hu, n4, q6]; rfl⟩, by omega⟩ rfl rfl rfl
    ·(try simp only [decide_eq_true_eq, decide_eq_false_iff_not, Bool.and_eq_true, Bool.or_eq_true, Bool.and_eq_false_iff, Bool.or_eq_false_iff, Bool.not_eq_true, Bool.not_eq_false, Bool.not_eq_true', Bool.not_eq_false', Bool.not_not, bne_iff_ne, beq_iff_eq] at h8)
     have hj : j = st.es.length := by omega
     subst hj
     rw [List.take_length] at n4
     refine r_exit ?_
     refine r_seq_cut (X := SV) (fun _ => True) (fun y => [(0, .pointer (some ⟨c, 0, none⟩)), (1, sv v), (5, .int .i64 (i : Int)), (6, .pointer (some ⟨b6, 0, none⟩))]) (fun y => [(0, row c 90 [sv vp, sv y]), (1, own 9 1 eS (sv y) (dN ns2 st)), (6, row b6 53 (eTy st))]) (fun y => [(0, tysA v l), (2, sl 5 eTy (sv v) l), (1, tfsA vp fs), (7, txsA st.ve st.es), (8, tysA st.vb st.body), (9, tysA st.vl st.els), (10, sl 4 eTx (sv st.ve) st.es)]) ?_ (fun vn3 _ => ?_)
     ·refine r_seq (r_region ?_)
      refine r_p (p_field0 fo53_0 rfl) rfl ?_
      refine r_p (p_load1 t3 rfl rfl (g_row1 (k := 6) rfl rfl)) rfl ?_
      refine r_p (p_bin rfl rfl b_eq) rfl ?_
      refine r_nil ?_
      refine r_cond rfl (fun h10 => ?_) (fun h10 => ?_)
      ·have q7 : st.kind = 1 := of_decide_eq_true h10
       refine r_draw [71, 72, 73, 74, 75, 76, 77, 78, 79, 80, 81] _ rfl (stg_mem (V := [(0, 71, _), (1, 72, _), (2, 73, _), (3, 74, _), (4, 75, _), (5, 76, _), (6, 77, _)]) [0, 1, 2, 3, 4, 5, 6] 7 [7, 6, 5] [] (fun v78 => []) rfl rfl (prs_cons (pri rfl (p_move rfl)) (prs_cons (pri rfl (p_move rfl)) (prs_cons (pri rfl (p_nilCheck rfl)) (prs_cons (pri rfl (p_field0 fo90_1 rfl)) (prs_cons (pri rfl (p_load1 t58 rfl rfl (g_row1 (k := 0) rfl rfl))) (prs_cons (pri rfl (p_field0 fo53_1 rfl)) (prs_cons (pri rfl (p_load1 t9 rfl rfl (g_row1 (k := 6) rfl rfl))) prs_nil))))))) rfl rfl rfl rfl rfl rfl rfl rfl rfl rfl rfl (fun _ _ => rfl) rfl (ms_bslice1 eS st.name Tryz.underlying58 t9 rfl (by decide) (by decide) rfl rfl rfl) (fun v78 _ => stg_mem [0, 1, 2, 3, 4] 8 [8, 7, 6, 5, 4, 3, 2, 1] [9, 10] (fun v79 => [(9, 80, _), (10, 81, _)]) rfl rfl (prs_cons (pri rfl (p_move rfl)) (prs_cons (pri rfl (p_move rfl)) (prs_cons (pri rfl (p_nilCheck rfl)) (prs_cons (pri rfl (p_field0 fo90_1 rfl)) (prs_cons (pri rfl (p_load1 t58 rfl rfl (g_row1 (k := 0) rfl rfl))) prs_nil))))) rfl rfl rfl rfl rfl rfl rfl rfl rfl rfl rfl (fun _ _ => rfl) rfl (ms_append 1 Tryz.underlying58 t9 rfl (by decide) (fun _ => rfl) (fun _ => rfl) rfl rfl rfl (hs_own (k := 78) rfl) (by simp only [List.length_singleton]; omega) (by unfold maxLen; simp only [List.length_singleton]; omega)) (fun v79 _ => stg_mem0 [9, 10, 0] 11 [11, 10, 9, 8, 7, 6, 5, 4, 3, 2, 1, 0] [] (fun _ => []) rfl rfl (prs_cons (pri rfl (p_nilCheck rfl)) (prs_cons (pri rfl (p_field0 fo90_1 rfl)) (prs_cons (pri rfl (p_move rfl)) prs_nil))) rfl rfl rfl rfl rfl rfl rfl rfl rfl (fun _ _ => rfl) rfl (ms_store_row (k := 0) t58 rfl rfl rfl rfl rfl rfl rfl rfl) (fun _ _ => stg_end [] rfl rfl prs_nil rfl rfl rfl ?_))))
       refine r_here v79 trivial rfl (by rw [show dN ns2 st = ns2 ++ [st.name] from if_pos q7]; rfl) rfl
      ·have q7 : ¬ st.kind = 1 := of_decide_eq_false h10
       refine r_skip ?_
       refine r_here vn2 trivial rfl (by rw [show dN ns2 st = ns2 from if_neg q7]; rfl) rfl
     ·refine r_seq (r_region (r_p (p_move rfl) rfl ?_))
      refine r_p (p_field0 fo53_3 rfl) rfl ?_
      refine r_p (p_load1 t51 rfl rfl (g_row1 (k := 6) rfl rfl)) rfl ?_
      refine r_callN (xs := [.tmp 82, .tmp 84]) ((ih st hsm).1 vn3 (dN ns2 st) (by rw [dN_len]; omega)) cb40 [0, 1] [(false, 8), (false, 1)] [0, 1] rfl rfl rfl rfl rfl rfl rfl rfl (fun _ _ => rfl) (fun _ _ _ => rfl) rfl (fun ⟨vn4, ns4⟩ h4 => ?_)
      dsimp only at h4 ⊢
      refine r_p (p_assign rfl) rfl (r_nil ?_)
      refine r_seq_cut (X := SV × List ByteArray) (fun y => fst (bYs fs (dN ns2 st) st.body).2 (bYs fs (bYs fs (dN ns2 st) st.body).1 st.els).2 = 0 → y.2 = (bYs fs (bYs fs (dN ns2 st) st.body).1 st.els).1) (fun y => [(0, .pointer (some ⟨c, 0, none⟩)), (1, sv v), (5, .int .i64 (i : Int)), (6, .pointer (some ⟨b6, 0, none⟩)), (11, .int .i64 (fst (bYs fs (dN ns2 st) st.body).2 (bYs fs (bYs fs (dN ns2 st) st.body).1 st.els).2))]) (fun y => [(0, row c 90 [sv vp, sv y.1]), (1, own 9 1 eS (sv y.1) y.2), (6, row b6 53 (eTy st))]) (fun y => [(0, tysA v l), (2, sl 5 eTy (sv v) l), (1, tfsA vp fs), (7, txsA st.ve st.es), (8, tysA st.vb st.body), (9, tysA st.vl st.els), (10, sl 4 eTx (sv st.ve) st.es)]) ?_ (fun y hy => ?_)
      ·refine r_seq (r_region (r_p (p_move rfl) rfl ?_))
       refine r_p (p_bin rfl rfl b_eq) rfl ?_
       refine r_nil ?_
       refine r_cond rfl (fun h11 => ?_) (fun h11 => ?_)
       ·(try simp only [decide_eq_true_eq, decide_eq_false_iff_not, Bool.and_eq_true, Bool.or_eq_true, Bool.and_eq_false_iff, Bool.or_eq_false_iff, Bool.not_eq_true, Bool.not_eq_false, Bool.not_eq_true', Bool.not_eq_false', Bool.not_not, bne_iff_ne, beq_iff_eq] at h11)
        have q8 : (bYs fs (dN ns2 st) st.body).2 = 0 := h11
        refine r_region (r_p (p_move rfl) rfl ?_)
        refine r_p (p_field0 fo53_4 rfl) rfl ?_
        refine r_p (p_load1 t51 rfl rfl (g_row1 (k := 6) rfl rfl)) rfl ?_
        refine r_callN (xs := [.tmp 88, .tmp 90]) ((ih st hsm).2 vn4 ns4 (by rw [h4 q8, bYs_len, dN_len]; omega)) cb40 [0, 1] [(false, 9), (false, 1)] [0, 1] rfl rfl rfl rfl rfl rfl rfl rfl (fun _ _ => rfl) (fun _ _ _ => rfl) rfl (fun ⟨vn5, ns5⟩ h5 => ?_)
        dsimp only at h5 ⊢
        rw [h4 q8] at h5 ⊢
        refine r_p (p_assign rfl) rfl (r_nil ?_)
        refine r_here (vn5, ns5) (fun h => h5 (by rw [q8] at h; exact h)) (by rw [q8, zero_fst]; rfl) rfl rfl
       ·(try simp only [decide_eq_true_eq, decide_eq_false_iff_not, Bool.and_eq_true, Bool.or_eq_true, Bool.and_eq_false_iff, Bool.or_eq_false_iff, Bool.not_eq_true, Bool.not_eq_false, Bool.not_eq_true', Bool.not_eq_false', Bool.not_not, bne_iff_ne, beq_iff_eq] at h11)
        have q8 : (bYs fs (dN ns2 st) st.body).2 ≠ 0 := h11
        refine r_skip ?_
        refine r_here (vn4, ns4) (fun h => absurd h (by rw [fst_ne q8]; exact q8)) (by rw [fst_ne q8]; rfl) rfl rfl
      ·refine r_seq (r_region (r_p (p_move rfl) rfl ?_))
       refine r_p (p_bin rfl rfl b_ne) rfl ?_
       refine r_nil ?_
       refine r_cond rfl (fun h12 => ?_) (fun h12 => ?_)
       ·(try simp only [decide_eq_true_eq, decide_eq_false_iff_not, Bool.and_eq_true, Bool.or_eq_true, Bool.and_eq_false_iff, Bool.or_eq_false_iff, Bool.not_eq_true, Bool.not_eq_false, Bool.not_eq_true', Bool.not_eq_false', Bool.not_not, bne_iff_ne, beq_iff_eq] at h12)
        have q9 : fst (bYs fs (dN ns2 st) st.body).2 (bYs fs (bYs fs (dN ns2 st) st.body).1 st.els).2 ≠ 0 := h12
        refine r_seq (r_region (r_p (p_move rfl) rfl (r_p (p_assign rfl) rfl (r_nil (r_cret ?_)))))
        refine r_ret y (fun h => absurd h (by rw [bYs_stop hst n2 (z := fst (bYs fs (dN ns2 st) st.body).2 (bYs fs (bYs fs (dN ns2 st) st.body).1 st.els).2) (by rw [bY_b q2 q3 n4]) q9]; exact q9)) rfl (rs1 (rv_tmp rfl)) (by rw [bYs_stop hst n2 (z := fst (bYs fs (dN ns2 st) st.body).2 (bYs fs (bYs fs (dN ns2 st) st.body).1 st.els).2) (by rw [bY_b q2 q3 n4]) q9]) [0, 1] [] rfl rfl rfl
       ·(try simp only [decide_eq_true_eq, decide_eq_false_iff_not, Bool.and_eq_true, Bool.or_eq_true, Bool.and_eq_false_iff, Bool.or_eq_false_iff, Bool.not_eq_true, Bool.not_eq_false, Bool.not_eq_true', Bool.not_eq_false', Bool.not_not, bne_iff_ne, beq_iff_eq] at h12)
        have q9 : fst (bYs fs (dN ns2 st) st.body).2 (bYs fs (bYs fs (dN ns2 st) st.body).1 st.els).2 = 0 := h12
        refine r_skip (r_region (r_p (p_move rfl) rfl ?_))
        refine r_p (p_bin rfl rfl (b_add (by first | exact w_i64 (by omega) (by omega) | rfl))) rfl ?_
        refine r_p (p_assign rfl) rfl (r_nil ?_)
        refine r_here ⟨i + 1, y.1, y.2⟩ ⟨⟨by dsimp only; omega, bYs_go hst n2 (by rw [bY_b q2 q3 n4, hy q9, q9])⟩, by dsimp only; omega⟩ rfl rfl rfl
 ·(try simp only [decide_eq_true_eq, decide_eq_false_iff_not, Bool.and_eq_true, Bool.or_eq_true, Bool.and_eq_false_iff, Bool.or_eq_false_iff, Bool.not_eq_true, Bool.not_eq_false, Bool.not_eq_true', Bool.not_eq_false', Bool.not_not, bne_iff_ne, beq_iff_eq] at h1)
  have hi : i = l.length := by omega
  subst hi
  rw [List.take_length] at n2
  refine r_exit (r_seq (r_region (r_p (p_assign rfl) rfl (r_nil (r_cret ?_)))))
  refine r_ret (vn2, ns2) (fun _ => by rw [n2]) rfl (rs1 (rv_tmp rfl)) (by rw [n2]) [0, 1] [] rfl rfl rfl
theorem ss_all (c : Nat) (vp : SV) (fs : List Tf) (hfl : fs.length ≤ 1000000) : ∀ (n : Nat) (v : SV) (l : List Ty), SizeOf.sizeOf l < n → l.length ≤ 1000000 → GYs l → l.all rY = true → HSs c vp fs v l
 | 0, _, _, h, _, _, _ => absurd h (Nat.not_lt_zero _)
 | n + 1, v, l, h, hl, hg, hr => fun vn ns hb => ss_step c vp fs hfl v l hl hg hr (fun u hu => by
  have h1 := List.sizeOf_lt_of_mem hu
  have h2 : SizeOf.sizeOf u.body < SizeOf.sizeOf u ∧ SizeOf.sizeOf u.els < SizeOf.sizeOf u := by
   cases u
   simp only [Ty.mk.sizeOf_spec, Ty.body, Ty.els]
   omega
  have h3 := hg.mem u hu
  have h4 := List.all_eq_true.1 hr u hu
  rw [rY_def] at h4
  simp only [Bool.and_eq_true] at h4
  exact ⟨ss_all c vp fs hfl n u.vb u.body (by omega) (GY_body h3).1 (GY_body h3).2 h4.1.2, ss_all c vp fs hfl n u.vl u.els (by omega) (GY_els h3).1 (GY_els h3).2 h4.2⟩) vn ns hb
theorem ss_spec (c : Nat) (vp : SV) (fs : List Tf) (hfl : fs.length ≤ 1000000) (v : SV) (l : List Ty) (hl : l.length ≤ 1000000) (hg : GYs l) (hr : l.all rY = true) : HSs c vp fs v l := ss_all c vp fs hfl _ v l (Nat.lt_succ_self _) hl hg hr
theorem chkFs_hit {fs l : List Tf} {i : Nat} {f : Tf} {z : Int} (hf : l[i]? = some f) (h0 : chkFs fs (l.take i) = 0) (h : chkF fs f = z) (hz : z ≠ 0) : chkFs fs l = z := by
 have h1 := chkFs_app fs (l.take (i + 1)) (l.drop (i + 1))
 rw [List.take_append_drop, chkFs_take hf, h0, zero_fst, h, fst_ne hz] at h1
 exact h1
theorem chkF_b {fs : List Tf} {f : Tf} (h : big f) : chkF fs f = 2 := by rw [chkF_eq, if_pos h]; rfl
theorem dcl_hit {l : List ByteArray} {i : Nat} {x : ByteArray} (hx : l[i]? = some x) (h0 : dcl [] (l.take i) = 0) (h : memB x (l.take i) = true) : dcl [] l = 22 := by
 have h1 := dcl_app [] (l.take (i + 1)) (l.drop (i + 1))
 rw [List.take_append_drop, dcl_take hx, h0, zero_fst, if_pos h] at h1
 exact h1
theorem chkF_p {fs : List Tf} {f : Tf} (h : ¬ big f) (h2 : dcl [] f.ps = 22) : chkF fs f = 22 := by rw [chkF_eq, if_neg h, h2]; rfl
theorem chkF_s {fs : List Tf} {f : Tf} (h : ¬ big f) (h2 : dcl [] f.ps = 0) : chkF fs f = (bYs fs f.ps f.body).2 := by rw [chkF_eq, if_neg h, h2]; rfl
theorem chk_1z {fs : List Tf} (h : rP fs = false) : chk fs = 1 := by unfold chk; rw [if_pos h]
theorem chk_2z {fs : List Tf} (h : rP fs = true) (h2 : fs.length > 16) : chk fs = 2 := by unfold chk; rw [if_neg (by rw [h]; simp), if_pos h2]
set_option maxHeartbeats 8000000 in
set_option maxRecDepth 100000 in
theorem check8_spec (vp : SV) (fs : List Tf) (hg : GP fs) :
  Spec Tryz.prog 14 [.agg #[sv vp]] [] [tfsA vp fs] (X := Unit) (fun _ => True) (fun _ => .int .i64 (chk fs)) (fun _ => []) (fun _ => []) := by
 refine r_enter Tryz.func14 rfl Tryz.ntmps14 rfl fun w0 M H => ?_
 refine r_more 0 1 rfl tfs_sl ?_
 have hgl := hg.1
 refine r_seq (r_region ?_)
 refine r_boxA rfl rfl fun b1 => ?_
 refine r_p (p_assign rfl) rfl (r_nil (r_seq (r_region ?_)))
 refine r_p (p_loadA t29 rfl rfl rfl (g_all (k := 1) rfl)) rfl ?_
 refine r_callN (xs := [.tmp 13]) (right8_spec vp fs hg) cb36 [] [(false, 0)] [] rfl rfl rfl rfl rfl rfl rfl rfl (fun _ _ => rfl) (fun _ _ _ => rfl) rfl (fun _ _ => ?_)
 refine r_p (p_assign rfl) rfl (r_nil (r_seq (r_seq (r_region (r_p (p_move rfl) rfl ?_)))))
 refine r_p (p_not rfl) rfl ?_
 refine r_nil ?_
 refine r_cond rfl (fun h1 => ?_) (fun h1 => ?_)
 ·have q1 : rP fs = false := by simpa using h1
  refine r_seq (r_region (r_p (p_assign rfl) rfl (r_nil (r_cret ?_))))
  refine r_ret () trivial rfl (rs1 (rv_tmp rfl)) (by rw [chk_1z q1]) [] [] rfl rfl rfl
 ·have q1 : rP fs = true := by simpa using h1
  refine r_skip (r_seq (r_seq (r_region ?_)))
  refine r_p (p_field0 fo29_0 rfl) rfl ?_
  refine r_p (p_load1 t27 rfl rfl (g_row1 (k := 1) rfl rfl)) rfl ?_
  refine r_p (p_len_sl Tryz.underlying27 rfl (hs_sl (k := 1) rfl)) rfl ?_
  refine r_p (p_bin rfl rfl b_gt) rfl ?_
  refine r_nil ?_
  refine r_cond rfl (fun h2 => ?_) (fun h2 => ?_)
  ·(try simp only [decide_eq_true_eq, decide_eq_false_iff_not, Bool.and_eq_true, Bool.or_eq_true, Bool.and_eq_false_iff, Bool.or_eq_false_iff, Bool.not_eq_true, Bool.not_eq_false, Bool.not_eq_true', Bool.not_eq_false', Bool.not_not, bne_iff_ne, beq_iff_eq] at h2)
   have q2 : fs.length > 16 := by omega
   refine r_seq (r_region (r_p (p_assign rfl) rfl (r_nil (r_cret ?_))))
   refine r_ret () trivial rfl (rs1 (rv_tmp rfl)) (by rw [chk_2z q1 q2]) [] [] rfl rfl rfl
  ·(try simp only [decide_eq_true_eq, decide_eq_false_iff_not, Bool.and_eq_true, Bool.or_eq_true, Bool.and_eq_false_iff, Bool.or_eq_false_iff, Bool.not_eq_true, Bool.not_eq_false, Bool.not_eq_true', Bool.not_eq_false', Bool.not_not, bne_iff_ne, beq_iff_eq] at h2)
   have q2 : ¬ fs.length > 16 := by omega
   refine r_skip (r_seq (r_seq (r_region (r_p (p_assign rfl) rfl (r_nil (r_block ?_))))))
   refine r_loop (X := Nat) (fun i => i ≤ fs.length ∧ ∀ j f, j < i → fs[j]? = some f → fix fs f.name = (j : Int)) (fun i => [(1, .pointer (some ⟨b1, 0, none⟩)), (4, .int .i64 (i : Int))]) (fun i => [(1, row b1 29 [sv vp])]) (fun i => [(0, tfsA vp fs), (1, sl 3 eTf (sv vp) fs)]) (fun i => fs.length - i) 0 ⟨Nat.zero_le _, fun j f h => absurd h (Nat.not_lt_zero _)⟩ rfl rfl rfl (fun i hx0 => ?_)
   obtain ⟨n1, n2⟩ := hx0
   refine r_seq (r_seq (r_region (r_p (p_move rfl) rfl ?_)))
   refine r_p (p_field0 fo29_0 rfl) rfl ?_
   refine r_p (p_load1 t27 rfl rfl (g_row1 (k := 1) rfl rfl)) rfl ?_
   refine r_p (p_len_sl Tryz.underlying27 rfl (hs_sl (k := 1) rfl)) rfl ?_
   refine r_p (p_bin rfl rfl b_lt) rfl ?_
   refine r_nil ?_
   refine r_cond rfl (fun h3 => ?_) (fun h3 => ?_)
   ·(try simp only [decide_eq_true_eq, decide_eq_false_iff_not, Bool.and_eq_true, Bool.or_eq_true, Bool.and_eq_false_iff, Bool.or_eq_false_iff, Bool.not_eq_true, Bool.not_eq_false, Bool.not_eq_true', Bool.not_eq_false', Bool.not_not, bne_iff_ne, beq_iff_eq] at h3)
    have hi : i < fs.length := by omega
    obtain ⟨f, hf⟩ : ∃ k, fs[i]? = some k := ⟨_, List.getElem?_eq_getElem hi⟩
    have hfm := List.mem_of_getElem? hf
    refine r_skip (r_seq (r_block (r_seq ?_)))
    refine r_draw [28, 29, 30, 31, 32, 33, 34, 35, 36, 37] _ rfl (stg_mem (V := [(0, 28, _), (1, 29, _), (2, 30, _), (3, 31, _), (4, 32, _), (5, 33, _), (6, 34, _), (8, 36, _)]) [0, 1, 2, 3, 4, 5, 6, 8] 7 [7, 6, 5, 4, 3, 2, 1, 0] [9] (fun _ => [(9, 37, _)]) rfl rfl (prs_cons (pri rfl (p_loadA t29 rfl rfl rfl (g_all (k := 1) rfl))) (prs_cons (pri rfl (p_field0 fo29_0 rfl)) (prs_cons (pri rfl (p_load1 t27 rfl rfl (g_row1 (k := 1) rfl rfl))) (prs_cons (pri rfl (p_move rfl)) (prs_cons (pri rfl (p_idx_sl (j := i) Tryz.underlying27 t63 rfl rfl (hs_sl (k := 1) rfl) (by first | rfl | omega) (by first | omega | (simp; done) | (simp; omega)))) (prs_cons (pri rfl (p_field fo63_0 rfl)) (prs_cons (pri rfl (p_load1 t9 rfl rfl (g_elp (hs_sl (k := 1) rfl) (by intro _; rfl) hf rfl))) (prs_cons (pri rfl (p_move rfl)) prs_nil)))))))) rfl rfl rfl rfl rfl rfl rfl rfl rfl rfl rfl (fun _ _ => rfl) rfl (ms_callN (xs := [.tmp 28, .tmp 34]) (find9_spec f.name vp fs hg.1) cb37 [] [(false, 1)] [] rfl rfl rfl rfl rfl rfl rfl rfl (fun _ _ => rfl) (fun _ _ _ => rfl)) (fun _ _ => stg_end [9, 8] rfl rfl (prs_cons (pri rfl (p_bin rfl rfl b_ne)) (prs_cons (pri rfl (p_move rfl)) prs_nil)) rfl rfl rfl ?_))
    refine r_cond rfl (fun h4 => ?_) (fun h4 => ?_)
    ·(try simp only [decide_eq_true_eq, decide_eq_false_iff_not, Bool.and_eq_true, Bool.or_eq_true, Bool.and_eq_false_iff, Bool.or_eq_false_iff, Bool.not_eq_true, Bool.not_eq_false, Bool.not_eq_true', Bool.not_eq_false', Bool.not_not, bne_iff_ne, beq_iff_eq] at h4)
     have q4 : ¬ fix fs f.name = (i : Int) := h4
     refine r_seq (r_region (r_p (p_assign rfl) rfl (r_nil (r_cret ?_))))
     refine r_ret () trivial rfl (rs1 (rv_tmp rfl)) (by rw [chk_22 q1 q2 (once_no hf q4)]) [] [] rfl rfl rfl
    ·(try simp only [decide_eq_true_eq, decide_eq_false_iff_not, Bool.and_eq_true, Bool.or_eq_true, Bool.and_eq_false_iff, Bool.or_eq_false_iff, Bool.not_eq_true, Bool.not_eq_false, Bool.not_eq_true', Bool.not_eq_false', Bool.not_not, bne_iff_ne, beq_iff_eq] at h4)
     have q4 : fix fs f.name = (i : Int) := h4
     refine r_skip (r_region (r_p (p_move rfl) rfl ?_))
     refine r_p (p_bin rfl rfl (b_add (by first | exact w_i64 (by omega) (by omega) | rfl))) rfl ?_
     refine r_p (p_assign rfl) rfl (r_nil ?_)
     refine r_here (i + 1) ⟨⟨by omega, fun j g hj hgj => by
      by_cases h : j = i
      ·subst h
       rw [hf] at hgj
       cases hgj
       exact q4
      ·exact n2 j g (by omega) hgj⟩, by omega⟩ rfl rfl rfl
   ·(try simp only [decide_eq_true_eq, decide_eq_false_iff_not, Bool.and_eq_true, Bool.or_eq_true, Bool.and_eq_false_iff, Bool.or_eq_false_iff, Bool.not_eq_true, Bool.not_eq_false, Bool.not_eq_true', Bool.not_eq_false', Bool.not_not, bne_iff_ne, beq_iff_eq] at h3)
    have hi : i = fs.length := by omega
    subst hi
    have q3 : once fs = true := once_iff.2 fun j g hgj => n2 j g (List.getElem?_eq_some_iff.1 hgj).1 hgj
    refine r_exit (r_seq (r_region ?_))
    refine r_p (p_loadA t29 rfl rfl rfl (g_all (k := 1) rfl)) rfl ?_
    refine r_callN (xs := [.tmp 38, .const (.string (ByteArray.mk #[109, 97, 105, 110]))]) (find9_spec nMain vp fs hg.1) cb37 [] [(false, 1)] [] rfl rfl rfl rfl rfl rfl rfl rfl (fun _ _ => rfl) (fun _ _ _ => rfl) rfl (fun _ _ => ?_)
    refine r_p (p_assign rfl) rfl (r_nil (r_seq (r_seq (r_region (r_p (p_move rfl) rfl ?_)))))
    refine r_p (p_bin rfl rfl b_lt) rfl ?_
    refine r_nil ?_
    refine r_cond rfl (fun h5 => ?_) (fun h5 => ?_)
    ·have hff : ffind fs nMain = none := ffind_fix.1.1 (of_decide_eq_true h5)
     refine r_seq (r_region (r_p (p_assign rfl) rfl (r_nil (r_cret ?_))))
     refine r_ret () trivial rfl (rs1 (rv_tmp rfl)) (by rw [chk_21 q1 q2 q3 hff]) [] [] rfl rfl rfl
    ·have hq1 : ¬ fix fs nMain < 0 := of_decide_eq_false h5
     obtain ⟨fm, hff⟩ : ∃ f, ffind fs nMain = some f := by
      cases hf : ffind fs nMain with
      | none => exact absurd (ffind_fix.1.2 hf) hq1
      | some f => exact ⟨f, rfl⟩
     obtain ⟨m, hxm, hfx⟩ := ffind_fix.2 fm hff
     have hfmm := List.mem_of_getElem? hfx
     have hml : m < fs.length := (List.getElem?_eq_some_iff.1 hfx).1
     rw [hxm]
     refine r_more 0 11 rfl (tfs_f hfmm) ?_
     refine r_more 11 12 rfl tf_ps ?_
     refine r_skip (r_seq (r_seq (r_region ?_)))
     refine r_p (p_field0 fo29_0 rfl) rfl ?_
     refine r_p (p_load1 t27 rfl rfl (g_row1 (k := 1) rfl rfl)) rfl ?_
     refine r_p (p_move rfl) rfl ?_
     refine r_p (p_idx_sl (j := m) Tryz.underlying27 t63 rfl rfl (hs_sl (k := 1) rfl) rfl hml) rfl ?_
     refine r_p (p_field fo63_1 rfl) rfl ?_
     refine r_p (p_load1 t58 rfl rfl (g_elp (hs_sl (k := 1) rfl) (by intro _; rfl) hfx rfl)) rfl ?_
     refine r_p (p_len_sl Tryz.underlying58 rfl (hs_sl (k := 12) rfl)) rfl ?_
     refine r_p (p_bin rfl rfl b_gt) rfl ?_
     refine r_nil ?_
     refine r_cond rfl (fun h6 => ?_) (fun h6 => ?_)
     ·(try simp only [decide_eq_true_eq, decide_eq_false_iff_not, Bool.and_eq_true, Bool.or_eq_true, Bool.and_eq_false_iff, Bool.or_eq_false_iff, Bool.not_eq_true, Bool.not_eq_false, Bool.not_eq_true', Bool.not_eq_false', Bool.not_not, bne_iff_ne, beq_iff_eq] at h6)
      have q6 : fm.ps.length > 0 := by omega
      refine r_seq (r_region (r_p (p_assign rfl) rfl (r_nil (r_cret ?_))))
      refine r_ret () trivial rfl (rs1 (rv_tmp rfl)) (by rw [chk_23 q1 q2 q3 hff q6]) [] [] rfl rfl rfl
     ·(try simp only [decide_eq_true_eq, decide_eq_false_iff_not, Bool.and_eq_true, Bool.or_eq_true, Bool.and_eq_false_iff, Bool.or_eq_false_iff, Bool.not_eq_true, Bool.not_eq_false, Bool.not_eq_true', Bool.not_eq_false', Bool.not_not, bne_iff_ne, beq_iff_eq] at h6)
      have q6 : ¬ fm.ps.length > 0 := by omega
      refine r_skip (r_seq (r_seq (r_region (r_p (p_assign rfl) rfl (r_nil (r_block ?_))))))
      refine r_loop (X := Nat) (fun i => i ≤ fs.length ∧ chkFs fs (fs.take i) = 0) (fun i => [(1, .pointer (some ⟨b1, 0, none⟩)), (6, .int .i64 (i : Int))]) (fun i => [(1, row b1 29 [sv vp])]) (fun i => [(0, tfsA vp fs), (1, sl 3 eTf (sv vp) fs)]) (fun i => fs.length - i) 0 ⟨Nat.zero_le _, rfl⟩ rfl rfl rfl (fun i hx0 => ?_)
      obtain ⟨n1, n2⟩ := hx0
      refine r_seq (r_seq (r_region (r_p (p_move rfl) rfl ?_)))
      refine r_p (p_field0 fo29_0 rfl) rfl ?_
      refine r_p (p_load1 t27 rfl rfl (g_row1 (k := 1) rfl rfl)) rfl ?_
      refine r_p (p_len_sl Tryz.underlying27 rfl (hs_sl (k := 1) rfl)) rfl ?_
      refine r_p (p_bin rfl rfl b_lt) rfl ?_
      refine r_nil ?_
      refine r_cond rfl (fun h7 => ?_) (fun h7 => ?_)
      ·(try simp only [decide_eq_true_eq, decide_eq_false_iff_not, Bool.and_eq_true, Bool.or_eq_true, Bool.and_eq_false_iff, Bool.or_eq_false_iff, Bool.not_eq_true, Bool.not_eq_false, Bool.not_eq_true', Bool.not_eq_false', Bool.not_not, bne_iff_ne, beq_iff_eq] at h7)
       have hi : i < fs.length := by omega
       obtain ⟨f, hf⟩ : ∃ k, fs[i]? = some k := ⟨_, List.getElem?_eq_getElem hi⟩
       have hfm := List.mem_of_getElem? hf
       have hgf := hg.2 f hfm
       have hpl := hgf.2.2.1
       have hsum := hgf.2.2.2.2.2
       have hvn := vYs_le f.body
       have hdn := dSs_le f.body
       have hbr : f.body.all rY = true := by
        have h := List.all_eq_true.1 q1 f hfm
        rw [rF_def] at h
        simp only [Bool.and_eq_true] at h
        exact h.2
       refine r_more 0 7 rfl (tfs_f hfm) ?_
       refine r_more 7 8 rfl tf_ps ?_
       refine r_more 7 9 rfl tf_body ?_
       refine r_skip (r_seq (r_block (r_seq (r_region ?_))))
       refine r_p (p_field0 fo29_0 rfl) rfl ?_
       refine r_p (p_load1 t27 rfl rfl (g_row1 (k := 1) rfl rfl)) rfl ?_
       refine r_p (p_move rfl) rfl ?_
       refine r_p (p_idx_sl (j := i) Tryz.underlying27 t63 rfl rfl (hs_sl (k := 1) rfl) (by first | rfl | omega) (by first | omega | (simp; done) | (simp; omega))) rfl ?_
       refine r_p (p_loadA t63 rfl rfl rfl (g_el' (hs_sl (k := 1) rfl) (by intro _; rfl) hf (by rfl))) rfl ?_
       refine r_alloc t63 rfl rfl fun b7 => ?_
       refine r_store_all (k := 7) t63 rfl rfl rfl rfl rfl rfl ?_
       refine r_nil (r_seq (r_region ?_))
       refine r_p (p_field0 fo63_2 rfl) rfl ?_
       refine r_p (p_load1 t51 rfl rfl (g_row1 (k := 7) rfl rfl)) rfl ?_
       refine r_callN (xs := [.tmp 63]) (stmtsize_spec f.vb f.body hgf.2.2.2.1 hgf.2.2.2.2.1 (by omega)) cb38 [] [(false, 9)] [] rfl rfl rfl rfl rfl rfl rfl rfl (fun _ _ => rfl) (fun _ _ _ => rfl) rfl (fun _ _ => ?_)
       refine r_alloc t86 rfl rfl fun b8 => ?_
       refine r_store_all (k := 8) t86 rfl rfl rfl rfl rfl rfl ?_
       refine r_nil (r_seq (r_seq (r_region ?_)))
       refine r_p (p_field0 fo63_1 rfl) rfl ?_
       refine r_p (p_load1 t58 rfl rfl (g_row1 (k := 7) rfl rfl)) rfl ?_
       refine r_p (p_len_sl Tryz.underlying58 rfl (hs_sl (k := 8) rfl)) rfl ?_
       refine r_p (p_bin rfl rfl b_gt) rfl ?_
       refine r_p (p_move rfl) rfl ?_
       refine r_gp [] rfl rfl trivial (fun hg8 => p_field0 fo63_1 rfl) rfl ?_
       refine r_gp [(70, _)] rfl rfl ⟨rfl, trivial⟩ (fun hg9 => p_load1 t58 rfl rfl (g_row1 (k := 7) rfl rfl)) rfl ?_
       refine r_gp [(70, _), (71, _)] rfl rfl ⟨rfl, rfl, trivial⟩ (fun hg10 => p_len_sl Tryz.underlying58 rfl (hs_sl (k := 8) rfl)) rfl ?_
       refine r_gp [(70, _), (71, _), (72, _)] rfl rfl ⟨rfl, rfl, rfl, trivial⟩ (fun hg11 => p_field0 fo86_1 rfl) rfl ?_
       refine r_gp [(70, _), (71, _), (72, _), (73, _)] rfl rfl ⟨rfl, rfl, rfl, rfl, trivial⟩ (fun hg12 => p_load1 t3 rfl rfl (g_row1 (k := 8) rfl rfl)) rfl ?_
       refine r_gp [(70, _), (71, _), (72, _), (73, _), (74, _)] rfl rfl ⟨rfl, rfl, rfl, rfl, rfl, trivial⟩ (fun hg13 => p_bin rfl rfl (b_add (by first | exact w_i64 (by omega) (by omega) | rfl))) rfl ?_
       refine r_gp [(70, _), (71, _), (72, _), (73, _), (74, _), (75, _)] rfl rfl ⟨rfl, rfl, rfl, rfl, rfl, rfl, trivial⟩ (fun hg14 => p_bin rfl rfl b_gt) rfl ?_
       refine r_p (p_pick rfl rfl rfl (by first | exact pick_and | exact pick_or |  rfl)) rfl ?_
       refine r_p (p_move rfl) rfl ?_
       refine r_gp [] rfl rfl trivial (fun hg15 => p_field0 fo86_0 rfl) rfl ?_
       refine r_gp [(79, _)] rfl rfl ⟨rfl, trivial⟩ (fun hg16 => p_load1 t3 rfl rfl (g_row1 (k := 8) rfl rfl)) rfl ?_
       refine r_gp [(79, _), (80, _)] rfl rfl ⟨rfl, rfl, trivial⟩ (fun hg17 => p_bin rfl rfl b_gt) rfl ?_
       refine r_p (p_pick rfl rfl rfl (by first | exact pick_and | exact pick_or |  rfl)) rfl ?_
       refine r_p (p_move rfl) rfl ?_
       refine r_gp [] rfl rfl trivial (fun hg18 => p_field0 fo86_2 rfl) rfl ?_
       refine r_gp [(84, _)] rfl rfl ⟨rfl, trivial⟩ (fun hg19 => p_load1 t3 rfl rfl (g_row1 (k := 8) rfl rfl)) rfl ?_
       refine r_gp [(84, _), (85, _)] rfl rfl ⟨rfl, rfl, trivial⟩ (fun hg20 => p_bin rfl rfl b_gt) rfl ?_
       refine r_p (p_pick rfl rfl rfl (by first | exact pick_and | exact pick_or |  rfl)) rfl ?_
       refine r_p (p_move rfl) rfl ?_
       refine r_gp [] rfl rfl trivial (fun hg21 => p_field0 fo86_3 rfl) rfl ?_
       refine r_gp [(89, _)] rfl rfl ⟨rfl, trivial⟩ (fun hg22 => p_load1 t3 rfl rfl (g_row1 (k := 8) rfl rfl)) rfl ?_
       refine r_gp [(89, _), (90, _)] rfl rfl ⟨rfl, rfl, trivial⟩ (fun hg23 => p_bin rfl rfl b_gt) rfl ?_
       refine r_p (p_pick rfl rfl rfl (by first | exact pick_and | exact pick_or |  rfl)) rfl ?_
       refine r_nil ?_
       refine r_cond rfl (fun h24 => ?_) (fun h24 => ?_)
       ·(try simp only [decide_eq_true_eq, decide_eq_false_iff_not, Bool.and_eq_true, Bool.or_eq_true, Bool.and_eq_false_iff, Bool.or_eq_false_iff, Bool.not_eq_true, Bool.not_eq_false, Bool.not_eq_true', Bool.not_eq_false', Bool.not_not, bne_iff_ne, beq_iff_eq] at h24)
        have q8 : big f := by rw [big_iff]; omega
        refine r_seq (r_region (r_p (p_assign rfl) rfl (r_nil (r_cret ?_))))
        refine r_ret () trivial rfl (rs1 (rv_tmp rfl)) (by rw [chk_0 q1 q2 q3 hff q6, chkFs_hit hf n2 (chkF_b q8) (by decide)]) [] [] rfl rfl rfl
       ·(try simp only [decide_eq_true_eq, decide_eq_false_iff_not, Bool.and_eq_true, Bool.or_eq_true, Bool.and_eq_false_iff, Bool.or_eq_false_iff, Bool.not_eq_true, Bool.not_eq_false, Bool.not_eq_true', Bool.not_eq_false', Bool.not_not, bne_iff_ne, beq_iff_eq] at h24)
        have q8 : ¬ big f := by rw [big_iff]; omega
        refine r_skip (r_seq (r_region ?_))
        refine r_p (p_loadA t29 rfl rfl rfl (g_all (k := 1) rfl)) rfl ?_
        refine r_p (p_build (parts := [(0, .tmp 93)]) t90 pl90 rfl rfl) rfl ?_
        refine r_boxA rfl rfl fun b95 => ?_
        refine r_p (p_assign rfl) rfl (r_nil (r_seq (r_seq (r_region (r_p (p_assign rfl) rfl (r_nil (r_block ?_)))))))
        refine r_nilown 20 (α := ByteArray) (S := 9) (s := 1) (enc := eS) ?_
        refine r_loop (X := Nat × SV) (fun x => x.1 ≤ f.ps.length ∧ dcl [] (f.ps.take x.1) = 0) (fun x => [(1, .pointer (some ⟨b1, 0, none⟩)), (6, .int .i64 (i : Int)), (7, .pointer (some ⟨b7, 0, none⟩)), (9, .pointer (some ⟨b95, 0, none⟩)), (10, .int .i64 (x.1 : Int))]) (fun x => [(1, row b1 29 [sv vp]), (7, row b7 63 (eTf f)), (95, row b95 90 [sv vp, sv x.2]), (20, own 9 1 eS (sv x.2) (f.ps.take x.1))]) (fun x => [(0, tfsA vp fs), (1, sl 3 eTf (sv vp) fs), (7, tfA f), (8, sl 1 eS (sv f.vp) f.ps), (9, tysA f.vb f.body)]) (fun x => f.ps.length - x.1) (0, nilS) ⟨Nat.zero_le _, rfl⟩ rfl rfl rfl (fun x hy0 => ?_)
        obtain ⟨j, vn⟩ := x
        obtain ⟨n3, n4⟩ := hy0
        dsimp only at n3 n4 ⊢
        refine r_seq (r_seq (r_region (r_p (p_move rfl) rfl ?_)))
        refine r_p (p_field0 fo63_1 rfl) rfl ?_
        refine r_p (p_load1 t58 rfl rfl (g_row1 (k := 7) rfl rfl)) rfl ?_
        refine r_p (p_len_sl Tryz.underlying58 rfl (hs_sl (k := 8) rfl)) rfl ?_
        refine r_p (p_bin rfl rfl b_lt) rfl ?_
        refine r_nil ?_
        refine r_cond rfl (fun h25 => ?_) (fun h25 => ?_)
        ·(try simp only [decide_eq_true_eq, decide_eq_false_iff_not, Bool.and_eq_true, Bool.or_eq_true, Bool.and_eq_false_iff, Bool.or_eq_false_iff, Bool.not_eq_true, Bool.not_eq_false, Bool.not_eq_true', Bool.not_eq_false', Bool.not_not, bne_iff_ne, beq_iff_eq] at h25)
         have hj : j < f.ps.length := by omega
         obtain ⟨x, hx⟩ : ∃ k, f.ps[j]? = some k := ⟨_, List.getElem?_eq_getElem hj⟩
         refine r_skip (r_seq (r_block (r_seq ?_)))
         refine r_draw [103, 104, 105, 106, 107, 108, 109, 110, 111, 112, 11] _ rfl (stg_mem (V := [(0, 103, _), (1, 104, _), (2, 105, _), (3, 106, _), (4, 107, _), (5, 108, _), (6, 109, _), (7, 110, _), (8, 111, _)]) [0, 1, 2, 3, 4, 5, 6, 7, 8] 9 [9, 8, 7, 6, 5, 4, 3, 2, 1, 0] [10] (fun _ => [(10, 11, _)]) rfl rfl (prs_cons (pri rfl (p_field0 fo63_1 rfl)) (prs_cons (pri rfl (p_load1 t58 rfl rfl (g_row1 (k := 7) rfl rfl))) (prs_cons (pri rfl (p_move rfl)) (prs_cons (pri rfl (p_idx_sl (j := j) Tryz.underlying58 t9 rfl rfl (hs_sl (k := 8) rfl) (by first | rfl | omega) (by first | omega | (simp; done) | (simp; omega)))) (prs_cons (pri rfl (p_load1 t9 rfl rfl (g_el' (hs_sl (k := 8) rfl) (by intro _; rfl) hx (by rfl)))) (prs_cons (pri rfl (p_move rfl)) (prs_cons (pri rfl (p_nilCheck rfl)) (prs_cons (pri rfl (p_field0 fo90_1 rfl)) (prs_cons (pri rfl (p_load1 t58 rfl rfl (g_row1 (k := 95) rfl rfl))) prs_nil))))))))) rfl rfl rfl rfl rfl rfl rfl rfl rfl rfl rfl (fun _ _ => rfl) rfl (ms_callN (xs := [.tmp 107, .tmp 111]) (among_own x vn (f.ps.take j) (by rw [List.length_take]; omega)) cb39 [] [(true, 20)] [] rfl rfl rfl rfl rfl rfl rfl rfl (fun _ _ => rfl) (fun _ _ _ => rfl)) (fun _ _ => stg_end [10] rfl rfl (prs_cons (pri rfl (p_assign rfl)) prs_nil) rfl rfl rfl ?_))
         refine r_seq (r_seq (r_region (r_p (p_move rfl) rfl (r_nil ?_))))
         refine r_cond rfl (fun h26 => ?_) (fun h26 => ?_)
         ·have q10 : memB x (f.ps.take j) = true := h26
          refine r_seq (r_region (r_p (p_assign rfl) rfl (r_nil (r_cret ?_))))
          refine r_ret () trivial rfl (rs1 (rv_tmp rfl)) (by rw [chk_0 q1 q2 q3 hff q6, chkFs_hit hf n2 (chkF_p q8 (dcl_hit hx n4 q10)) (by decide)]) [] [] rfl rfl rfl
         ·have q10 : memB x (f.ps.take j) = false := h26
          refine r_skip ?_
          refine r_draw [114, 115, 116, 117, 118, 119, 120, 121, 122, 123, 124, 125, 126, 127] _ rfl (stg_mem (V := [(0, 114, _), (1, 115, _), (2, 116, _), (3, 117, _), (4, 118, _), (5, 119, _), (6, 120, _), (7, 121, _), (8, 122, _), (9, 123, _)]) [0, 1, 2, 3, 4, 5, 6, 7, 8, 9] 10 [10, 9, 8, 7, 6, 5] [] (fun v124 => []) rfl rfl (prs_cons (pri rfl (p_move rfl)) (prs_cons (pri rfl (p_move rfl)) (prs_cons (pri rfl (p_nilCheck rfl)) (prs_cons (pri rfl (p_field0 fo90_1 rfl)) (prs_cons (pri rfl (p_load1 t58 rfl rfl (g_row1 (k := 95) rfl rfl))) (prs_cons (pri rfl (p_field0 fo63_1 rfl)) (prs_cons (pri rfl (p_load1 t58 rfl rfl (g_row1 (k := 7) rfl rfl))) (prs_cons (pri rfl (p_move rfl)) (prs_cons (pri rfl (p_idx_sl (j := j) Tryz.underlying58 t9 rfl rfl (hs_sl (k := 8) rfl) (by first | rfl | omega) (by first | omega | (simp; done) | (simp; omega)))) (prs_cons (pri rfl (p_load1 t9 rfl rfl (g_el' (hs_sl (k := 8) rfl) (by intro _; rfl) hx (by rfl)))) prs_nil)))))))))) rfl rfl rfl rfl rfl rfl rfl rfl rfl rfl rfl (fun _ _ => rfl) rfl (ms_bslice1 eS x Tryz.underlying58 t9 rfl (by decide) (by decide) rfl rfl rfl) (fun v124 _ => stg_mem [0, 1, 2, 3, 4] 11 [11, 10, 9, 8, 7, 6, 5, 4, 3, 2, 1] [12, 13] (fun v125 => [(12, 126, _), (13, 127, _)]) rfl rfl (prs_cons (pri rfl (p_move rfl)) (prs_cons (pri rfl (p_move rfl)) (prs_cons (pri rfl (p_nilCheck rfl)) (prs_cons (pri rfl (p_field0 fo90_1 rfl)) (prs_cons (pri rfl (p_load1 t58 rfl rfl (g_row1 (k := 95) rfl rfl))) prs_nil))))) rfl rfl rfl rfl rfl rfl rfl rfl rfl rfl rfl (fun _ _ => rfl) rfl (ms_append 20 Tryz.underlying58 t9 rfl (by decide) (fun _ => rfl) (fun _ => rfl) rfl rfl rfl (hs_own (k := 124) rfl) (by rw [List.length_take]; simp only [List.length_singleton]; omega) (by unfold maxLen; rw [List.length_take]; simp only [List.length_singleton]; omega)) (fun v125 _ => stg_mem0 [12, 13, 0] 14 [14, 13, 12, 11, 10, 9, 8, 7, 6, 5, 4, 3, 2, 1, 0] [] (fun _ => []) rfl rfl (prs_cons (pri rfl (p_nilCheck rfl)) (prs_cons (pri rfl (p_field0 fo90_1 rfl)) (prs_cons (pri rfl (p_move rfl)) prs_nil))) rfl rfl rfl rfl rfl rfl rfl rfl rfl (fun _ _ => rfl) rfl (ms_store_row (k := 95) t58 rfl rfl rfl rfl rfl rfl rfl rfl) (fun _ _ => stg_end [] rfl rfl prs_nil rfl rfl rfl ?_))))
          refine r_region (r_p (p_move rfl) rfl ?_)
          refine r_p (p_bin rfl rfl (b_add (by first | exact w_i64 (by omega) (by omega) | rfl))) rfl ?_
          refine r_p (p_assign rfl) rfl (r_nil ?_)
          refine r_here (j + 1, v125) ⟨⟨by dsimp only; omega, by dsimp only; rw [dcl_take hx, n4, if_neg (by rw [q10]; simp)]; rfl⟩, by dsimp only; omega⟩ rfl (by dsimp only; rw [take_snoc hx]; rfl) rfl
        ·(try simp only [decide_eq_true_eq, decide_eq_false_iff_not, Bool.and_eq_true, Bool.or_eq_true, Bool.and_eq_false_iff, Bool.or_eq_false_iff, Bool.not_eq_true, Bool.not_eq_false, Bool.not_eq_true', Bool.not_eq_false', Bool.not_not, bne_iff_ne, beq_iff_eq] at h25)
         have hj : j = f.ps.length := by omega
         subst hj
         rw [List.take_length] at n4
         rw [List.take_length]
         refine r_exit (r_seq (r_region (r_p (p_move rfl) rfl ?_)))
         refine r_p (p_field0 fo63_2 rfl) rfl ?_
         refine r_p (p_load1 t51 rfl rfl (g_row1 (k := 7) rfl rfl)) rfl ?_
         refine r_callN (xs := [.tmp 128, .tmp 130]) (ss_spec b95 vp fs hg.1 f.vb f.body hgf.2.2.2.1 hgf.2.2.2.2.1 hbr vn f.ps (by omega)) cb40 [95, 20] [(false, 9), (false, 0)] [95, 20] rfl rfl rfl rfl rfl rfl rfl rfl (fun _ _ => rfl) (fun _ _ _ => rfl) rfl (fun ⟨vn2, ns2⟩ _ => ?_)
         dsimp only
         refine r_p (p_assign rfl) rfl (r_nil (r_seq (r_region (r_p (p_move rfl) rfl ?_))))
         refine r_p (p_bin rfl rfl b_ne) rfl ?_
         refine r_nil ?_
         refine r_cond rfl (fun h27 => ?_) (fun h27 => ?_)
         ·(try simp only [decide_eq_true_eq, decide_eq_false_iff_not, Bool.and_eq_true, Bool.or_eq_true, Bool.and_eq_false_iff, Bool.or_eq_false_iff, Bool.not_eq_true, Bool.not_eq_false, Bool.not_eq_true', Bool.not_eq_false', Bool.not_not, bne_iff_ne, beq_iff_eq] at h27)
          have q11 : (bYs fs f.ps f.body).2 ≠ 0 := h27
          refine r_seq (r_region (r_p (p_move rfl) rfl (r_p (p_assign rfl) rfl (r_nil (r_cret ?_)))))
          refine r_ret () trivial rfl (rs1 (rv_tmp rfl)) (by rw [chk_0 q1 q2 q3 hff q6, chkFs_hit hf n2 (chkF_s q8 n4) q11]) [] [] rfl rfl rfl
         ·(try simp only [decide_eq_true_eq, decide_eq_false_iff_not, Bool.and_eq_true, Bool.or_eq_true, Bool.and_eq_false_iff, Bool.or_eq_false_iff, Bool.not_eq_true, Bool.not_eq_false, Bool.not_eq_true', Bool.not_eq_false', Bool.not_not, bne_iff_ne, beq_iff_eq] at h27)
          have q11 : (bYs fs f.ps f.body).2 = 0 := h27
          refine r_skip (r_region (r_p (p_move rfl) rfl ?_))
          refine r_p (p_bin rfl rfl (b_add (by first | exact w_i64 (by omega) (by omega) | rfl))) rfl ?_
          refine r_p (p_assign rfl) rfl (r_nil ?_)
          refine r_here (i + 1) ⟨⟨by omega, by rw [chkFs_take hf, n2, chkF_s q8 n4, q11]; rfl⟩, by omega⟩ rfl rfl rfl
      ·(try simp only [decide_eq_true_eq, decide_eq_false_iff_not, Bool.and_eq_true, Bool.or_eq_true, Bool.and_eq_false_iff, Bool.or_eq_false_iff, Bool.not_eq_true, Bool.not_eq_false, Bool.not_eq_true', Bool.not_eq_false', Bool.not_not, bne_iff_ne, beq_iff_eq] at h7)
       have hi : i = fs.length := by omega
       subst hi
       rw [List.take_length] at n2
       refine r_exit (r_seq (r_region (r_p (p_assign rfl) rfl (r_nil (r_cret ?_)))))
       refine r_ret () trivial rfl (rs1 (rv_tmp rfl)) (by rw [chk_0 q1 q2 q3 hff q6, n2]) [] [] rfl rfl rfl
mutual
/-- All calls are of functions whose names satisfy A. -/
def aX (A : ByteArray → Prop) : Tx → Prop
 | .mk k _ nm _ kids => (k ≠ 1 → k ≠ 2 → k ≠ 4 → k ≠ 5 → k ≠ 6 → k ≠ 7 → A nm) ∧ aXs A kids
def aXs (A : ByteArray → Prop) : List Tx → Prop
 | [] => True
 | t :: r => aX A t ∧ aXs A r
end
mutual
def aY (A : ByteArray → Prop) : Ty → Prop
 | .mk _ _ _ es _ b _ l => aXs A es ∧ aYs A b ∧ aYs A l
def aYs (A : ByteArray → Prop) : List Ty → Prop
 | [] => True
 | t :: r => aY A t ∧ aYs A r
end
mutual
theorem aX_all {A : ByteArray → Prop} (h : ∀ x, A x) : ∀ t, aX A t
 | .mk k n nm v kids => ⟨fun _ _ _ _ _ _ => h nm, aXs_all h kids⟩
theorem aXs_all {A : ByteArray → Prop} (h : ∀ x, A x) : ∀ l, aXs A l
 | [] => trivial
 | t :: r => ⟨aX_all h t, aXs_all h r⟩
end
mutual
theorem aY_all {A : ByteArray → Prop} (h : ∀ x, A x) : ∀ t, aY A t
 | .mk _ _ _ es _ b _ l => ⟨aXs_all h es, aYs_all h b, aYs_all h l⟩
theorem aYs_all {A : ByteArray → Prop} (h : ∀ x, A x) : ∀ l, aYs A l
 | [] => trivial
 | t :: r => ⟨aY_all h t, aYs_all h r⟩
end
/-- What is read from the inputs. -/
def rdI (s : Ms) : Int × Ms := match s.inp with
 | [] => (0, s)
 | a :: r => (a, { s with inp := r })
/-- States that agree, with functions that agree. -/
structure Smr (A : ByteArray → Prop) (Rl : Ms → Ms → Prop) (fs fs' : List Tf) : Prop where
 mem : ∀ s s', Rl s s' → s'.mem = s.mem
 pay : ∀ s s', Rl s s' → 0 < s.fuel → 0 < s'.fuel ∧ Rl { s with fuel := s.fuel - 1 } { s' with fuel := s'.fuel - 1 }
 inp : ∀ s s', Rl s s' → (rdI s).1 = (rdI s').1 ∧ Rl (rdI s).2 (rdI s').2
 put : ∀ s s' i v, Rl s s' → Rl { s with mem := mput s.mem i v } { s' with mem := mput s'.mem i v }
 out : ∀ s s' v, Rl s s' → Rl { s with out := s.out ++ [v] } { s' with out := s'.out ++ [v] }
 fn : ∀ nm f, A nm → ffind fs nm = some f → ∃ f', ffind fs' nm = some f' ∧ f'.ps = f.ps ∧ f'.body = f.body ∧ aYs A f.body
/-- Results that agree. -/
inductive RR (Rl : Ms → Ms → Prop) {α : Type} : Re α → Re α → Prop
 | ok (a : α) (s s' : Ms) (h : Rl s s') : RR Rl (.ok a s) (.ok a s')
 | err (z : Int) : RR Rl (.err z) (.err z)
structure Sm (A : ByteArray → Prop) (Rl : Ms → Ms → Prop) (fs fs' : List Tf) (g : Nat) : Prop where
 x : ∀ d vs t s s' r, aX A t → Rl s s' → evX g fs d vs t s = some r → r ≠ .err 25 → ∃ r', evX g fs' d vs t s' = some r' ∧ RR Rl r r'
 k : ∀ d vs acc l s s' r, aXs A l → Rl s s' → evK g fs d vs acc l s = some r → r ≠ .err 25 → ∃ r', evK g fs' d vs acc l s' = some r' ∧ RR Rl r r'
 c : ∀ d f f' al s s' r, f'.ps = f.ps → f'.body = f.body → aYs A f.body → Rl s s' → evC g fs d f al s = some r → r ≠ .err 25 → ∃ r', evC g fs' d f' al s' = some r' ∧ RR Rl r r'
 b : ∀ d vs l s s' r, aYs A l → Rl s s' → evB g fs d vs l s = some r → r ≠ .err 25 → ∃ r', evB g fs' d vs l s' = some r' ∧ RR Rl r r'
 s : ∀ d vs t s s' r, aY A t → Rl s s' → evS g fs d vs t s = some r → r ≠ .err 25 → ∃ r', evS g fs' d vs t s' = some r' ∧ RR Rl r r'
 w : ∀ d vs e l v s s' r, aX A e → aYs A l → Rl s s' → evW g fs d vs e l v s = some r → r ≠ .err 25 → ∃ r', evW g fs' d vs e l v s' = some r' ∧ RR Rl r r'
theorem ne_ok {α : Type} {a : α} {s : Ms} : (.ok a s : Re α) ≠ .err 25 := fun h => by cases h
theorem ne_err {α β : Type} {z : Int} (h : (.err z : Re α) ≠ .err 25) : (.err z : Re β) ≠ .err 25 := fun h2 => h (by cases h2; rfl)
theorem rdI_eq {s s' : Ms} (h : s'.inp = s.inp) : (rdI s).1 = (rdI s').1 ∧ (rdI s').2.inp = (rdI s).2.inp ∧ (rdI s).2.out = s.out ∧ (rdI s').2.out = s'.out ∧ (rdI s).2.mem = s.mem ∧ (rdI s').2.mem = s'.mem ∧ (rdI s).2.fuel = s.fuel ∧ (rdI s').2.fuel = s'.fuel := by
 unfold rdI
 rw [h]
 cases hs : s.inp with
 | nil => rw [hs] at h; exact ⟨rfl, by rw [h, hs], rfl, rfl, rfl, rfl, rfl, rfl⟩
 | cons a r => exact ⟨rfl, rfl, rfl, rfl, rfl, rfl, rfl, rfl⟩
theorem runIs_len {fs : List Tf} {ins : List Int} {fuel : Int} {r : Ru} (hg : GP fs) (hi : ∀ x ∈ ins, oW x) (hf : fuel ≤ 1000000) (h : RunIs fs ins fuel r) : r.out.length ≤ 1000000 ∧ r.mem.length ≤ 1000000 := by
 cases h with
 | bad h => exact ⟨Nat.zero_le _, Nat.zero_le _⟩
 | run f g q h hfm he =>
  cases q with
  | err z => exact ⟨Nat.zero_le _, Nat.zero_le _⟩
  | ok v s =>
   obtain ⟨f2, hf2⟩ := chk_fine hg h
   have hk := ((ev_ok hf2.vf g).c 0 f [] (ms0 ins fuel) v s (ffind_mem hfm) (by simp) (ms0_ok hi (by omega)) he).2
   have h1 := hk.sum
   have h2 : ((ms0 ins fuel).out.length : Int) = 0 := rfl
   have h3 : (ms0 ins fuel).fuel = fuel := rfl
   refine ⟨?_, by show ((List.range 256).map s.mem).length ≤ _; simp⟩
   show s.out.length ≤ 1000000
   omega
theorem er_whi {x : ByteArray} {v0 v1 vb v2 v3 : SV} {n : Int} {a : List Ty} : erYs [wVar x v0 n, wLoop x v1 vb (a ++ [wDown x v3 v2])] = [.mk 1 x [pNum n] [] [], .mk 5 oNil [pName x] (erYs a ++ [pDown x]) []] := by
 simp only [erYs, erY, erXs, erX, erYs_app, pNum, pName, pDown]
/-- The state of the loop over statements. -/
structure Xg where
 i : Nat
 vo : SV
 out : List Ty
 s : Gs
 vn : SV
/-- The contract of a block. -/
def HGY (e : Ge) (lev : Nat) : Prop := ∀ (s : Gs) (vn : SV), GInv s → Spec Tryz.prog 32 [.pointer (some ⟨e.g, 0, none⟩), .int .i64 (4 - (lev : Int))] [row e.g 76 (gRow e.vl s vn e.c.me e.vf), own 9 1 eS (sv vn) s.names] [sl 1 eI (sv e.vl) e.c.l, tfsA e.vf e.F] (X := SV × List Ty × Gs × SV) (fun x => GYr e.c lev s (erYs x.2.1) x.2.2.1 ∧ x.2.1.length ≤ 10) (fun x => sv x.1)
 (fun x => [row e.g 76 (gRow e.vl x.2.2.1 x.2.2.2 e.c.me e.vf), own 9 1 eS (sv x.2.2.2) x.2.2.1.names, own 53 5 eTy (sv x.1) x.2.1, ysA x.2.1]) (fun _ => [])
theorem fresh_at {v : Int} (h0 : 0 ≤ v) (h8 : v < 8) : ∃ x, freshL[v.toNat]? = some x ∧ v.toNat < freshL.length ∧ v = (v.toNat : Int) := by
 have h : v.toNat < freshL.length := by show _ < 8; omega
 exact ⟨_, List.getElem?_eq_getElem h, h, by omega⟩
set_option maxHeartbeats 32000000 in
set_option maxRecDepth 100000 in
theorem gstmts_step (e : Ge) (he : Gfine e) (lev : Nat) (hlv : lev ≤ 3) (ih : ∀ k, lev = k + 1 → HGY e k) (s0 : Gs) (vn0 : SV) (hi0 : GInv s0) :
  Spec Tryz.prog 32 [.pointer (some ⟨e.g, 0, none⟩), .int .i64 (4 - (lev : Int))] [row e.g 76 (gRow e.vl (s0) vn0 e.c.me e.vf), own 9 1 eS (sv vn0) s0.names] [sl 1 eI (sv e.vl) e.c.l, tfsA e.vf e.F] (X := SV × List Ty × Gs × SV) (fun x => GYr e.c lev s0 (erYs x.2.1) x.2.2.1 ∧ x.2.1.length ≤ 10) (fun x => sv x.1) (fun x => [row e.g 76 (gRow e.vl (x.2.2.1) x.2.2.2 e.c.me e.vf), own 9 1 eS (sv x.2.2.2) x.2.2.1.names, own 53 5 eTy (sv x.1) x.2.1, ysA x.2.1]) (fun _ => []) := by
 refine r_enter Tryz.func32 rfl Tryz.ntmps32 rfl fun w0 M H => ?_
 refine r_more 1 2 rfl (fun _ G h _ => ⟨G, h, fun _ hb => hb⟩) ?_
 refine r_more 2 3 rfl tfs_sl ?_
 have hfl : e.c.fs.length = e.F.length := by rw [he.fs, List.length_map]
 have hflb := he.fl
 have hmeb := he.me
 obtain ⟨j0, sm, hj0⟩ : ∃ j0 sm, gN e.c.l 5 s0 = (j0, sm) := ⟨_, _, rfl⟩
 have hjb0 := gN_bd (by decide) hj0
 have him : GInv sm := hi0.same (gN_st2 hj0)
 obtain ⟨many, hmany⟩ : ∃ many : Nat, (1 : Int) + j0 = (many : Int) := ⟨(1 + j0).toNat, by omega⟩
 refine r_seq (r_region (r_p (p_assign rfl) rfl (r_nil (r_seq (r_region (r_p (p_assign rfl) rfl (r_nil (r_seq (r_region (r_p (p_move rfl) rfl ?_))))))))))
 refine r_callN (xs := [.tmp 19, .const (.int .i64 5)]) (gnext_spec e.g e.vl vn0 e.vf e.c he.hl he.hlo 5 (by decide) s0) cb31 [0] [(false, 0)] [0] rfl rfl rfl rfl rfl rfl rfl rfl (fun _ _ => rfl) (fun _ _ _ => rfl) rfl (fun _ _ => ?_)
 rw [hj0]
 dsimp only
 refine r_p (p_bin rfl rfl (b_add (by first | exact w_i64 (by omega) (by omega) | rfl))) rfl ?_
 rw [hmany]
 refine r_p (p_assign rfl) rfl (r_nil (r_seq (r_seq (r_region (r_p (p_assign rfl) rfl (r_nil (r_block ?_)))))))
 refine r_nilown 60 (α := Ty) (S := 53) (s := 5) (enc := eTy) ?_
 refine r_collect 40 [] (L := []) (C := ysA []) rfl (fun _ _ _ => trivial) ?_
 refine r_loop (X := Xg) (fun x => x.i ≤ many ∧ GInv x.s ∧ x.out.length ≤ 2 * x.i ∧ ∀ r s2, GLr e.c lev (many - x.i) x.s r s2 → GLr e.c lev many sm (erYs x.out ++ r) s2) (fun x => [(0, .pointer (some ⟨e.g, 0, none⟩)), (1, .int .i64 (4 - (lev : Int))), (5, sv x.vo), (6, .int .i64 (many : Int)), (7, .int .i64 (x.i : Int))]) (fun x => [(0, row e.g 76 (gRow e.vl (x.s) x.vn e.c.me e.vf)), (1, own 9 1 eS (sv x.vn) x.s.names), (60, own 53 5 eTy (sv x.vo) x.out), (40, ysA x.out)]) (fun x => [(0, sl 1 eI (sv e.vl) e.c.l), (2, tfsA e.vf e.F), (3, sl 3 eTf (sv e.vf) e.F)]) (fun x => many - x.i) ⟨0, nilS, [], sm, vn0⟩ ⟨Nat.zero_le _, him, Nat.le_refl _, fun r s2 h => h⟩ rfl (by dsimp only; rw [show sm.names = s0.names from (gN_st2 hj0).1]; rfl) rfl (fun x hx0 => ?_)
 obtain ⟨i, vo, out, s, vn⟩ := x
 obtain ⟨n1, n2, n3, n4⟩ := hx0
 dsimp only at n1 n2 n3 n4 ⊢
 refine r_seq (r_seq (r_region (r_p (p_move rfl) rfl (r_p (p_move rfl) rfl ?_))))
 refine r_p (p_bin rfl rfl b_lt) rfl ?_
 refine r_p (p_move rfl) rfl ?_
 refine r_gp [] rfl rfl trivial (fun hg1 => p_move rfl) rfl ?_
 refine r_gp [(26, _)] rfl rfl ⟨rfl, trivial⟩ (fun hg2 => p_nilCheck rfl) rfl ?_
 refine r_gp [(26, _), (27, _)] rfl rfl ⟨rfl, rfl, trivial⟩ (fun hg3 => p_field0 fo76_2 rfl) rfl ?_
 refine r_gp [(26, _), (27, _), (28, _)] rfl rfl ⟨rfl, rfl, rfl, trivial⟩ (fun hg4 => p_load1 t3 rfl rfl (g_row1 (k := 0) rfl rfl)) rfl ?_
 refine r_gp [(26, _), (27, _), (28, _), (29, _)] rfl rfl ⟨rfl, rfl, rfl, rfl, trivial⟩ (fun hg5 => p_bin rfl rfl b_gt) rfl ?_
 refine r_p (p_pick rfl rfl rfl (by first | exact pick_and | exact pick_or |  rfl)) rfl ?_
 refine r_nil ?_
 refine r_cond rfl (fun h6 => ?_) (fun h6 => ?_)
 ·(try simp only [decide_eq_true_eq, decide_eq_false_iff_not, Bool.and_eq_true, Bool.or_eq_true, Bool.and_eq_false_iff, Bool.or_eq_false_iff, Bool.not_eq_true, Bool.not_eq_false, Bool.not_eq_true', Bool.not_eq_false', Bool.not_not, bne_iff_ne, beq_iff_eq] at h6)
  have hi2 : i < many := by omega
  have hleft : 0 < s.left := h6.2
  obtain ⟨k, sa, hk⟩ : ∃ a b, gN e.c.l 12 { s with left := s.left - 1 } = (a, b) := ⟨_, _, rfl⟩
  have hkb := gN_bd (by decide) hk
  have hna : sa.names = s.names := (gN_st2 hk).1
  have hia : GInv sa := GInv.same (s := { s with left := s.left - 1 }) ⟨n2.v0, n2.v8, n2.nm, by show s.left - 1 ≤ 1000; have := n2.lf; omega⟩ (gN_st2 hk)
  have hin := hia.n
  have hv0 := hia.v0
  have hv8 := hia.v8
  have hinm : sa.names.length ≤ 1000 := hin
  rw [← hna]
  refine r_skip (r_seq (r_block (r_seq (r_region (r_p (p_move rfl) rfl (r_p (p_nilCheck rfl) rfl ?_))))))
  refine r_p (p_field0 fo76_2 rfl) rfl ?_
  refine r_p (p_load1 t3 rfl rfl (g_row1 (k := 0) rfl rfl)) rfl ?_
  refine r_p (p_bin rfl rfl (b_sub (by exact w_i64 (by omega) (by have := n2.lf; omega)))) rfl ?_
  refine r_p (p_nilCheck rfl) rfl ?_
  refine r_p (p_field0 fo76_2 rfl) rfl ?_
  refine r_store_row (k := 0) t3 rfl rfl rfl rfl rfl rfl rfl rfl ?_
  refine r_nil (r_seq (r_region (r_p (p_move rfl) rfl ?_)))
  refine r_callN (xs := [.tmp 41, .const (.int .i64 12)]) (gnext_spec e.g e.vl vn e.vf e.c he.hl he.hlo (12) (by decide) ({ s with left := s.left - 1 })) cb31 [0] [(false, 0)] [0] rfl rfl rfl rfl rfl rfl rfl rfl (fun _ _ => rfl) (fun _ _ _ => rfl) rfl (fun _ _ => ?_)
  rw [hk]
  dsimp only
  refine r_p (p_assign rfl) rfl (r_nil (r_seq (r_region ?_)))
  refine r_bslice eS freshL (parts := [(0, .const (.string (ByteArray.mk #[97]))), (1, .const (.string (ByteArray.mk #[98]))), (2, .const (.string (ByteArray.mk #[99]))), (3, .const (.string (ByteArray.mk #[100]))), (4, .const (.string (ByteArray.mk #[101]))), (5, .const (.string (ByteArray.mk #[120, 49]))), (6, .const (.string (ByteArray.mk #[121, 50]))), (7, .const (.string (ByteArray.mk #[108, 111, 111, 112])))]) Tryz.underlying58 t9 rfl (by decide) (by intro _; rfl) rfl (by decide) (by decide) rfl rfl rfl rfl fun v43 => ?_
  refine r_p (p_assign rfl) rfl (r_nil (r_block (r_seq (r_region (r_p (p_move rfl) rfl ?_)))))
  refine r_p (p_bin rfl rfl b_lt) rfl ?_
  refine r_p (p_move rfl) rfl ?_
  refine r_gp [] rfl rfl trivial (fun hg7 => p_move rfl) rfl ?_
  refine r_gp [(55, _)] rfl rfl ⟨rfl, trivial⟩ (fun hg8 => p_nilCheck rfl) rfl ?_
  refine r_gp [(55, _), (56, _)] rfl rfl ⟨rfl, rfl, trivial⟩ (fun hg9 => p_field0 fo76_5 rfl) rfl ?_
  refine r_gp [(55, _), (56, _), (57, _)] rfl rfl ⟨rfl, rfl, rfl, trivial⟩ (fun hg10 => p_load1 t3 rfl rfl (g_row1 (k := 0) rfl rfl)) rfl ?_
  refine r_gp [(55, _), (56, _), (57, _), (58, _)] rfl rfl ⟨rfl, rfl, rfl, rfl, trivial⟩ (fun hg11 => p_move rfl) rfl ?_
  refine r_gp [(55, _), (56, _), (57, _), (58, _), (59, _)] rfl rfl ⟨rfl, rfl, rfl, rfl, rfl, trivial⟩ (fun hg12 => p_len_sl Tryz.underlying58 rfl (hs_own (k := 43) rfl)) rfl ?_
  refine r_gp [(55, _), (56, _), (57, _), (58, _), (59, _), (60, _)] rfl rfl ⟨rfl, rfl, rfl, rfl, rfl, rfl, trivial⟩ (fun hg13 => p_bin rfl rfl b_lt) rfl ?_
  refine r_p (p_pick rfl rfl rfl (by first | exact pick_and | exact pick_or |  rfl)) rfl ?_
  refine r_p (p_assign rfl) rfl (r_nil ?_)
  refine r_cond rfl (fun h14 => ?_) (fun h14 => ?_)
  ·(try simp only [decide_eq_true_eq, decide_eq_false_iff_not, Bool.and_eq_true, Bool.or_eq_true, Bool.and_eq_false_iff, Bool.or_eq_false_iff, Bool.not_eq_true, Bool.not_eq_false, Bool.not_eq_true', Bool.not_eq_false', Bool.not_not, bne_iff_ne, beq_iff_eq] at h14)
   have h2 : k < 3 ∧ sa.vars < 8 := ⟨h14.1, h14.2⟩
   obtain ⟨nm, hnm, hnm1, hnm2⟩ := fresh_at hia.v0 h2.2
   refine r_seq (r_region (r_p (p_move rfl) rfl (r_p (p_move rfl) rfl (r_p (p_nilCheck rfl) rfl ?_))))
   refine r_p (p_field0 fo76_5 rfl) rfl ?_
   refine r_p (p_load1 t3 rfl rfl (g_row1 (k := 0) rfl rfl)) rfl ?_
   refine r_p (p_idx_sl (j := sa.vars.toNat) Tryz.underlying58 t9 rfl rfl (hs_own (k := 43) rfl) hnm2 hnm1) rfl ?_
   refine r_p (p_load1 t9 rfl rfl (g_el' (hs_own (k := 43) rfl) (by intro _; rfl) hnm (by rfl))) rfl ?_
   refine r_p (p_assign rfl) rfl (r_nil (r_seq (r_region (r_p (p_move rfl) rfl (r_p (p_nilCheck rfl) rfl ?_)))))
   refine r_p (p_field0 fo76_5 rfl) rfl ?_
   refine r_p (p_load1 t3 rfl rfl (g_row1 (k := 0) rfl rfl)) rfl ?_
   refine r_p (p_bin rfl rfl (b_add (by first | exact w_i64 (by omega) (by omega) | rfl))) rfl ?_
   refine r_p (p_nilCheck rfl) rfl ?_
   refine r_p (p_field0 fo76_5 rfl) rfl ?_
   refine r_store_row (k := 0) t3 rfl rfl rfl rfl rfl rfl rfl rfl ?_
   refine r_nil (r_seq (r_region (r_p (p_move rfl) rfl ?_)))
   refine r_callN (xs := [.tmp 77, .const (.int .i64 4)]) (gx_own he 3 (by decide) vn ({ sa with vars := sa.vars + 1 }) (by rw [show ({ sa with vars := sa.vars + 1 } : Gs).names = sa.names from rfl]; exact hin)) cb49 [0] [(false, 0), (true, 1), (false, 2)] [0, 78] rfl rfl rfl rfl rfl (by rw [show ({ sa with vars := sa.vars + 1 } : Gs).names = sa.names from rfl]; rfl) rfl rfl (fun _ _ => rfl) (fun _ _ _ => rfl) rfl (fun ⟨t1, s2⟩ ht1 => ?_)
   dsimp only at ht1 ⊢
   refine r_alloc t48 rfl rfl fun b11 => ?_
   refine r_store_all (k := 11) t48 rfl rfl rfl rfl rfl rfl ?_
   refine r_nil (r_seq (r_region (r_p (p_move rfl) rfl (r_p (p_move rfl) rfl ?_))))
   refine r_p (p_loadA t48 rfl rfl rfl (g_all (k := 11) rfl)) rfl ?_
   refine r_bslice1 eTx t1 Tryz.underlying46 t48 rfl (by decide) (by decide) rfl rfl rfl rfl fun v82 => ?_
   refine r_p (p_build (parts := [(0, .const (.int .i64 1)), (1, .tmp 80), (2, .tmp 82)]) t53 pl53 rfl rfl) rfl ?_
   refine r_bslice1 eTy (.mk 1 nm v82 [t1] nilS [] nilS []) Tryz.underlying51 t53 rfl (by decide) (by decide) rfl rfl rfl rfl fun v84 => ?_
   refine r_append 60 Tryz.underlying51 t53 rfl (by decide) (fun _ => rfl) (fun _ => rfl) rfl rfl rfl (hs_own (k := 84) rfl) (by simp only [List.length_append, List.length_cons, List.length_nil]; omega) (by unfold maxLen; simp only [List.length_append, List.length_cons, List.length_nil]; omega) rfl fun v85 => ?_
   refine r_p (p_assign rfl) rfl (r_nil (r_region (r_p (p_move rfl) rfl (r_p (p_move rfl) rfl (r_p (p_nilCheck rfl) rfl ?_)))))
   refine r_p (p_field0 fo76_4 rfl) rfl ?_
   refine r_p (p_load1 t58 rfl rfl (g_row1 (k := 0) rfl rfl)) rfl ?_
   refine r_p (p_move rfl) rfl ?_
   refine r_bslice1 eS nm Tryz.underlying58 t9 rfl (by decide) (by decide) rfl rfl rfl rfl fun v92 => ?_
   refine r_append 1 Tryz.underlying58 t9 rfl (by decide) (fun _ => rfl) (fun _ => rfl) rfl rfl rfl (hs_own (k := 92) rfl) (by have := hinm; simp only [List.length_singleton]; omega) (by unfold maxLen; have := hinm; simp only [List.length_singleton]; omega) rfl fun v93 => ?_
   refine r_p (p_nilCheck rfl) rfl ?_
   refine r_p (p_field0 fo76_4 rfl) rfl ?_
   refine r_store_row (k := 0) t58 rfl rfl rfl rfl rfl rfl rfl rfl ?_
   refine r_nil (r_region (r_p (p_move rfl) rfl ?_))
   refine r_p (p_bin rfl rfl (b_add (by first | exact w_i64 (by omega) (by omega) | rfl))) rfl ?_
   refine r_p (p_assign rfl) rfl (r_nil ?_)
   have hg1 : G1r e.c (lev) k sa (erYs [.mk 1 nm v82 [t1] nilS [] nilS []]) ({ s2 with names := s2.names ++ [nm] }) := .var h2.1 hnm h2.2 ht1
   have hkp := hg1.inv hia
   refine r_collect 40 [40, 82, 78] (C := ysA (out ++ [.mk 1 nm v82 [t1] nilS [] nilS []])) rfl st1_all ?_
   refine r_here ⟨i + 1, v85, out ++ [.mk 1 nm v82 [t1] nilS [] nilS []], { s2 with names := s2.names ++ [nm] }, v93⟩ ⟨⟨by dsimp only; omega, hkp.inv, by dsimp only; rw [List.length_append]; simp only [List.length_cons, List.length_nil]; omega, by dsimp only; rw [erYs_app]; exact gl_next hi2 hleft hk hg1 n4⟩, by dsimp only; omega⟩ rfl (by dsimp only; rw [show s2.names = sa.names from ht1.keep.1]; rfl) rfl
  ·(try simp only [decide_eq_true_eq, decide_eq_false_iff_not, Bool.and_eq_true, Bool.or_eq_true, Bool.and_eq_false_iff, Bool.or_eq_false_iff, Bool.not_eq_true, Bool.not_eq_false, Bool.not_eq_true', Bool.not_eq_false', Bool.not_not, bne_iff_ne, beq_iff_eq] at h14)
   have q2 : ¬ (k < 3 ∧ sa.vars < 8) := by rintro ⟨a, b⟩; rcases h14 with h | h; exact h a; exact h b
   refine r_seq (r_region (r_p (p_move rfl) rfl ?_))
   refine r_p (p_bin rfl rfl b_eq) rfl ?_
   refine r_p (p_move rfl) rfl ?_
   refine r_gp [] rfl rfl trivial (fun hg15 => p_move rfl) rfl ?_
   refine r_gp [(100, _)] rfl rfl ⟨rfl, trivial⟩ (fun hg16 => p_nilCheck rfl) rfl ?_
   refine r_gp [(100, _), (101, _)] rfl rfl ⟨rfl, rfl, trivial⟩ (fun hg17 => p_field0 fo76_4 rfl) rfl ?_
   refine r_gp [(100, _), (101, _), (102, _)] rfl rfl ⟨rfl, rfl, rfl, trivial⟩ (fun hg18 => p_load1 t58 rfl rfl (g_row1 (k := 0) rfl rfl)) rfl ?_
   refine r_gp [(100, _), (101, _), (102, _), (103, _)] rfl rfl ⟨rfl, rfl, rfl, rfl, trivial⟩ (fun hg19 => p_len_sl Tryz.underlying58 rfl (hs_own (k := 1) rfl)) rfl ?_
   refine r_gp [(100, _), (101, _), (102, _), (103, _), (104, _)] rfl rfl ⟨rfl, rfl, rfl, rfl, rfl, trivial⟩ (fun hg20 => p_bin rfl rfl b_gt) rfl ?_
   refine r_p (p_pick rfl rfl rfl (by first | exact pick_and | exact pick_or |  rfl)) rfl ?_
   refine r_p (p_assign rfl) rfl (r_nil ?_)
   refine r_cond rfl (fun h21 => ?_) (fun h21 => ?_)
   ·(try simp only [decide_eq_true_eq, decide_eq_false_iff_not, Bool.and_eq_true, Bool.or_eq_true, Bool.and_eq_false_iff, Bool.or_eq_false_iff, Bool.not_eq_true, Bool.not_eq_false, Bool.not_eq_true', Bool.not_eq_false', Bool.not_not, bne_iff_ne, beq_iff_eq] at h21)
    have h3 : k = 3 ∧ 0 < sa.names.length := ⟨h21.1, by have := h21.2; omega⟩
    obtain ⟨x6, hx6, hja6, hjb6⟩ := gN_idx (l := e.c.l) (L := sa.names) (n := (sa.names.length : Int)) (by omega) rfl sa
    refine r_seq ?_
    refine r_draw [107, 108, 109, 110, 111, 112, 113, 114, 115, 116, 117, 118, 119, 12] _ rfl (stg_mem (V := [(0, 107, _), (1, 108, _), (2, 109, _), (3, 110, _), (4, 111, _), (5, 112, _), (6, 113, _), (7, 114, _), (8, 115, _), (9, 116, _)]) [0, 1, 2, 3, 4, 5, 6, 7, 8, 9] 10 [10, 9, 8, 7, 6, 5, 4] [11, 12, 13] (fun _ => [(11, 118, _), (12, 119, _), (13, 12, _)]) rfl rfl (prs_cons (pri rfl (p_move rfl)) (prs_cons (pri rfl (p_nilCheck rfl)) (prs_cons (pri rfl (p_field0 fo76_4 rfl)) (prs_cons (pri rfl (p_load1 t58 rfl rfl (g_row1 (k := 0) rfl rfl))) (prs_cons (pri rfl (p_move rfl)) (prs_cons (pri rfl (p_move rfl)) (prs_cons (pri rfl (p_nilCheck rfl)) (prs_cons (pri rfl (p_field0 fo76_4 rfl)) (prs_cons (pri rfl (p_load1 t58 rfl rfl (g_row1 (k := 0) rfl rfl))) (prs_cons (pri rfl (p_len_sl Tryz.underlying58 rfl (hs_own (k := 1) rfl))) prs_nil)))))))))) rfl rfl rfl rfl rfl rfl rfl rfl rfl rfl rfl (fun _ _ => rfl) rfl (ms_callN (xs := [.tmp 111, .tmp 116]) (gnext_spec e.g e.vl vn e.vf e.c he.hl he.hlo ((sa.names.length : Int)) (by omega) (sa)) cb31 [0] [(false, 0)] [0] rfl rfl rfl rfl rfl rfl rfl rfl (fun _ _ => rfl) (fun _ _ _ => rfl)) (fun _ _ => stg_end [11, 12, 13, 0, 1, 2, 3] rfl rfl (prs_cons (pri rfl (p_idx_sl (j := (gN e.c.l (sa.names.length : Int) sa).1.toNat) Tryz.underlying58 t9 rfl rfl (hs_own (k := 1) rfl) hjb6 hja6)) (prs_cons (pri rfl (p_load1 t9 rfl rfl (g_el' (hs_own (k := 1) rfl) (by intro _; rfl) hx6 (by rfl)))) (prs_cons (pri rfl (p_assign rfl)) (prs_cons (pri rfl (p_move rfl)) (prs_cons (pri rfl (p_nilCheck rfl)) (prs_cons (pri rfl (p_field0 fo76_4 rfl)) (prs_cons (pri rfl (p_load1 t58 rfl rfl (g_row1 (k := 0) rfl rfl))) prs_nil))))))) rfl rfl rfl ?_))
    refine r_region (r_p (p_move rfl) rfl (r_p (p_move rfl) rfl (r_p (p_move rfl) rfl ?_)))
    refine r_callN (xs := [.tmp 122, .const (.int .i64 4)]) (gx_own he 3 (by decide) vn ((gN e.c.l (sa.names.length : Int) sa).2) (by rw [(gN_keep e.c.l (sa.names.length : Int) sa).1]; exact hin)) cb49 [0] [(false, 0), (true, 1), (false, 2)] [0, 123] rfl rfl rfl rfl rfl (by rw [(gN_keep e.c.l (sa.names.length : Int) sa).1]; rfl) rfl rfl (fun _ _ => rfl) (fun _ _ _ => rfl) rfl (fun ⟨t1, s2⟩ ht1 => ?_)
    dsimp only at ht1 ⊢
    refine r_bslice1 eTx t1 Tryz.underlying46 t48 rfl (by decide) (by decide) rfl rfl rfl rfl fun v124 => ?_
    refine r_p (p_build (parts := [(0, .const (.int .i64 2)), (1, .tmp 121), (2, .tmp 124)]) t53 pl53 rfl rfl) rfl ?_
    refine r_bslice1 eTy (.mk 2 x6 v124 [t1] nilS [] nilS []) Tryz.underlying51 t53 rfl (by decide) (by decide) rfl rfl rfl rfl fun v126 => ?_
    refine r_append 60 Tryz.underlying51 t53 rfl (by decide) (fun _ => rfl) (fun _ => rfl) rfl rfl rfl (hs_own (k := 126) rfl) (by simp only [List.length_append, List.length_cons, List.length_nil]; omega) (by unfold maxLen; simp only [List.length_append, List.length_cons, List.length_nil]; omega) rfl fun v127 => ?_
    refine r_p (p_assign rfl) rfl (r_nil (r_region (r_p (p_move rfl) rfl ?_)))
    refine r_p (p_bin rfl rfl (b_add (by first | exact w_i64 (by omega) (by omega) | rfl))) rfl ?_
    refine r_p (p_assign rfl) rfl (r_nil ?_)
    have hg1 : G1r e.c (lev) k sa (erYs [.mk 2 x6 v124 [t1] nilS [] nilS []]) (s2) := h3.1 ▸ .set h3.2 rfl hx6 ht1
    have hkp := hg1.inv hia
    refine r_collect 40 [40, 124, 123] (C := ysA (out ++ [.mk 2 x6 v124 [t1] nilS [] nilS []])) rfl st1_all ?_
    refine r_here ⟨i + 1, v127, out ++ [.mk 2 x6 v124 [t1] nilS [] nilS []], s2, vn⟩ ⟨⟨by dsimp only; omega, hkp.inv, by dsimp only; rw [List.length_append]; simp only [List.length_cons, List.length_nil]; omega, by dsimp only; rw [erYs_app]; exact gl_next hi2 hleft hk hg1 n4⟩, by dsimp only; omega⟩ rfl (by dsimp only; rw [show s2.names = sa.names from ht1.keep.1.trans (gN_keep _ _ _).1]; rfl) rfl
   ·(try simp only [decide_eq_true_eq, decide_eq_false_iff_not, Bool.and_eq_true, Bool.or_eq_true, Bool.and_eq_false_iff, Bool.or_eq_false_iff, Bool.not_eq_true, Bool.not_eq_false, Bool.not_eq_true', Bool.not_eq_false', Bool.not_not, bne_iff_ne, beq_iff_eq] at h21)
    have q3 : ¬ (k = 3 ∧ 0 < sa.names.length) := by rintro ⟨a, b⟩; rcases h21 with h | h; exact h a; omega
    refine r_seq (r_region (r_p (p_move rfl) rfl ?_))
    refine r_p (p_bin rfl rfl b_eq) rfl ?_
    refine r_p (p_move rfl) rfl ?_
    refine r_gp [] rfl rfl trivial (fun hg22 => p_move rfl) rfl ?_
    refine r_gp [(132, _)] rfl rfl ⟨rfl, trivial⟩ (fun hg23 => p_bin rfl rfl b_eq) rfl ?_
    refine r_p (p_pick rfl rfl rfl (by first | exact pick_and | exact pick_or |  rfl)) rfl ?_
    refine r_p (p_assign rfl) rfl (r_nil ?_)
    refine r_cond rfl (fun h24 => ?_) (fun h24 => ?_)
    ·(try simp only [decide_eq_true_eq, decide_eq_false_iff_not, Bool.and_eq_true, Bool.or_eq_true, Bool.and_eq_false_iff, Bool.or_eq_false_iff, Bool.not_eq_true, Bool.not_eq_false, Bool.not_eq_true', Bool.not_eq_false', Bool.not_not, bne_iff_ne, beq_iff_eq] at h24)
     have h4 : k = 4 ∨ k = 5 := h24
     refine r_seq (r_region (r_p (p_move rfl) rfl ?_))
     refine r_callN (xs := [.tmp 135, .const (.int .i64 3)]) (gx_own he 2 (by decide) vn sa hin) cb49 [0] [(false, 0), (true, 1), (false, 2)] [0, 136] rfl rfl rfl rfl rfl rfl rfl rfl (fun _ _ => rfl) (fun _ _ _ => rfl) rfl (fun ⟨t1, s2⟩ ht1 => ?_)
     dsimp only at ht1 ⊢
     refine r_alloc t48 rfl rfl fun b13 => ?_
     refine r_store_all (k := 13) t48 rfl rfl rfl rfl rfl rfl ?_
     refine r_nil ?_
     refine r_draw [137, 138, 139, 140, 141, 142, 143, 144] _ rfl (stg_mem (V := [(0, 137, _), (1, 138, _), (2, 139, _)]) [0, 1, 2] 3 [3, 2] [] (fun x2 => []) rfl rfl (prs_cons (pri rfl (p_move rfl)) (prs_cons (pri rfl (p_loadA t48 rfl rfl rfl (g_all (k := 13) rfl))) (prs_cons (pri rfl (p_move rfl)) prs_nil))) rfl rfl rfl rfl rfl rfl rfl rfl rfl rfl rfl (fun _ _ => rfl) rfl (ms_callN (xs := [.tmp 139, .const (.int .i64 4)]) (gx_own he 3 (by decide) vn (s2) (by rw [show s2.names = sa.names from ht1.keep.1]; exact hin)) cb49 [0] [(false, 0), (true, 1), (false, 2)] [0, 140] rfl rfl rfl rfl rfl (by rw [show s2.names = sa.names from ht1.keep.1]; rfl) rfl rfl (fun _ _ => rfl) (fun _ _ _ => rfl)) (fun x2 ht2 => stg_mem [0, 1] 4 [4, 3, 2, 1] [5] (fun v141 => [(5, 142, _)]) rfl rfl (prs_cons (pri rfl (p_move rfl)) (prs_cons (pri rfl (p_loadA t48 rfl rfl rfl (g_all (k := 13) rfl))) prs_nil)) rfl rfl rfl rfl rfl rfl rfl rfl rfl rfl rfl (fun _ _ => rfl) rfl (ms_bslice eTx [t1, x2.1] (parts := [(0, .tmp 138), (1, .tmp 140)]) Tryz.underlying46 t48 rfl (by decide) (by intro _; rfl) rfl (by decide) (by decide) rfl rfl rfl) (fun v141 _ => stg_mem [5, 0] 6 [6, 5, 4, 3, 2, 1] [] (fun v143 => []) rfl rfl (prs_cons (pri rfl (p_build (parts := [(0, .const (.int .i64 3)), (2, .tmp 141)]) t53 pl53 rfl rfl)) (prs_cons (pri rfl (p_move rfl)) prs_nil)) rfl rfl rfl rfl rfl rfl rfl rfl rfl rfl rfl (fun _ _ => rfl) rfl (ms_bslice1 eTy (.mk 3 oNil v141 [t1, x2.1] nilS [] nilS []) Tryz.underlying51 t53 rfl (by decide) (by decide) rfl rfl rfl) (fun v143 _ => stg_mem [0] 7 [7, 6, 5, 4, 3, 2, 1, 0] [] (fun v144 => []) rfl rfl (prs_cons (pri rfl (p_move rfl)) prs_nil) rfl rfl rfl rfl rfl rfl rfl rfl rfl rfl rfl (fun _ _ => rfl) rfl (ms_append 60 Tryz.underlying51 t53 rfl (by decide) (fun _ => rfl) (fun _ => rfl) rfl rfl rfl (hs_own (k := 143) rfl) (by simp only [List.length_append, List.length_cons, List.length_nil]; omega) (by unfold maxLen; simp only [List.length_append, List.length_cons, List.length_nil]; omega)) (fun v144 _ => stg_last [] 8 [8, 7, 6, 5, 4, 3, 2, 1, 0] rfl rfl prs_nil rfl rfl rfl rfl rfl rfl rfl rfl (p_assign rfl) ?_)))))
     refine r_region (r_p (p_move rfl) rfl ?_)
     refine r_p (p_bin rfl rfl (b_add (by first | exact w_i64 (by omega) (by omega) | rfl))) rfl ?_
     refine r_p (p_assign rfl) rfl (r_nil ?_)
     have hg1 : G1r e.c (lev) k sa (erYs [.mk 3 oNil v141 [t1, x2.1] nilS [] nilS []]) (x2.2) := .put h4 ht1 ht2
     have hkp := hg1.inv hia
     refine r_collect 40 [40, 141, 136, 140] (C := ysA (out ++ [.mk 3 oNil v141 [t1, x2.1] nilS [] nilS []])) rfl st2_all ?_
     refine r_here ⟨i + 1, v144, out ++ [.mk 3 oNil v141 [t1, x2.1] nilS [] nilS []], x2.2, vn⟩ ⟨⟨by dsimp only; omega, hkp.inv, by dsimp only; rw [List.length_append]; simp only [List.length_cons, List.length_nil]; omega, by dsimp only; rw [erYs_app]; exact gl_next hi2 hleft hk hg1 n4⟩, by dsimp only; omega⟩ rfl (by dsimp only; rw [show x2.2.names = sa.names from ht2.keep.1.trans ht1.keep.1]; rfl) rfl
    ·(try simp only [decide_eq_true_eq, decide_eq_false_iff_not, Bool.and_eq_true, Bool.or_eq_true, Bool.and_eq_false_iff, Bool.or_eq_false_iff, Bool.not_eq_true, Bool.not_eq_false, Bool.not_eq_true', Bool.not_eq_false', Bool.not_not, bne_iff_ne, beq_iff_eq] at h24)
     have q4 : ¬ k = 4 ∧ ¬ k = 5 := h24
     refine r_seq (r_region (r_p (p_move rfl) rfl ?_))
     refine r_p (p_bin rfl rfl b_eq) rfl ?_
     refine r_p (p_move rfl) rfl ?_
     refine r_gp [] rfl rfl trivial (fun hg25 => p_move rfl) rfl ?_
     refine r_gp [(149, _)] rfl rfl ⟨rfl, trivial⟩ (fun hg26 => p_bin rfl rfl b_lt) rfl ?_
     refine r_p (p_pick rfl rfl rfl (by first | exact pick_and | exact pick_or |  rfl)) rfl ?_
     refine r_p (p_assign rfl) rfl (r_nil ?_)
     refine r_cond rfl (fun h27 => ?_) (fun h27 => ?_)
     ·(try simp only [decide_eq_true_eq, decide_eq_false_iff_not, Bool.and_eq_true, Bool.or_eq_true, Bool.and_eq_false_iff, Bool.or_eq_false_iff, Bool.not_eq_true, Bool.not_eq_false, Bool.not_eq_true', Bool.not_eq_false', Bool.not_not, bne_iff_ne, beq_iff_eq] at h27)
      have h5 : k = 6 := h27.1
      obtain ⟨lv, rfl⟩ : ∃ lv, lev = lv + 1 := ⟨lev - 1, by have := h27.2; omega⟩
      refine r_seq (r_region (r_p (p_move rfl) rfl ?_))
      refine r_callN (xs := [.tmp 152, .const (.int .i64 3)]) (gx_own he 2 (by decide) vn sa hin) cb49 [0] [(false, 0), (true, 1), (false, 2)] [0, 153] rfl rfl rfl rfl rfl rfl rfl rfl (fun _ _ => rfl) (fun _ _ _ => rfl) rfl (fun ⟨t1, s2⟩ ht1 => ?_)
      dsimp only at ht1 ⊢
      have hi2b : GInv s2 := hia.same ht1.keep
      refine r_bslice1 eTx t1 Tryz.underlying46 t48 rfl (by decide) (by decide) rfl rfl rfl rfl fun v154 => ?_
      refine r_p (p_build (parts := [(0, .const (.int .i64 4)), (2, .tmp 154)]) t53 pl53 rfl rfl) rfl ?_
      refine r_alloc t53 rfl rfl fun b14 => ?_
      refine r_store_all (k := 14) t53 rfl rfl rfl rfl rfl rfl ?_
      refine r_nil (r_seq (r_region (r_p (p_move rfl) rfl (r_p (p_move rfl) rfl ?_))))
      refine r_p (p_bin rfl rfl (b_add (c := 4 - (lv : Int)) (by rw [show 4 - ((lv + 1 : Nat) : Int) + 1 = 4 - (lv : Int) by omega]; exact w_i64 (by omega) (by omega)))) rfl ?_
      refine r_callN (xs := [.tmp 156, .tmp 158]) (ih lv rfl s2 vn hi2b) cb32 [0, 1] [(false, 0), (false, 2)] [0, 1, 61, 62] rfl rfl rfl rfl (by rw [show s2.names = sa.names from ht1.keep.1]; rfl) rfl rfl rfl (fun _ _ => rfl) (fun _ _ _ => rfl) rfl (fun ⟨vb1, l1, s3, vn2⟩ hl1 => ?_)
      dsimp only at hl1 ⊢
      have hi3 : GInv s3 := (hl1.1.inv hi2b).inv
      obtain ⟨j6, s4, hj6⟩ : ∃ a b, gN e.c.l 2 s3 = (a, b) := ⟨_, _, rfl⟩
      refine r_p (p_field0 fo53_3 rfl) rfl ?_
      refine r_store_row (k := 14) t51 rfl rfl rfl rfl rfl rfl rfl rfl ?_
      refine r_nil (r_seq (r_seq (r_region (r_p (p_move rfl) rfl ?_))))
      refine r_callN (xs := [.tmp 161, .const (.int .i64 2)]) (gnext_spec e.g e.vl vn2 e.vf e.c he.hl he.hlo 2 (by decide) s3) cb31 [0] [(false, 0)] [0] rfl rfl rfl rfl rfl rfl rfl rfl (fun _ _ => rfl) (fun _ _ _ => rfl) rfl (fun _ _ => ?_)
      rw [hj6]
      dsimp only
      refine r_p (p_bin rfl rfl b_eq) rfl ?_
      refine r_nil ?_
      refine r_cond rfl (fun h28 => ?_) (fun h28 => ?_)
      ·(try simp only [decide_eq_true_eq, decide_eq_false_iff_not, Bool.and_eq_true, Bool.or_eq_true, Bool.and_eq_false_iff, Bool.or_eq_false_iff, Bool.not_eq_true, Bool.not_eq_false, Bool.not_eq_true', Bool.not_eq_false', Bool.not_not, bne_iff_ne, beq_iff_eq] at h28)
       have hj6e : j6 = 1 := h28
       refine r_region (r_p (p_move rfl) rfl (r_p (p_move rfl) rfl ?_))
       refine r_p (p_bin rfl rfl (b_add (c := 4 - (lv : Int)) (by rw [show 4 - ((lv + 1 : Nat) : Int) + 1 = 4 - (lv : Int) by omega]; exact w_i64 (by omega) (by omega)))) rfl ?_
       refine r_callN (xs := [.tmp 164, .tmp 166]) (ih lv rfl s4 vn2 (hi3.same (gN_st2 hj6))) cb32 [0, 1] [(false, 0), (false, 2)] [0, 1, 63, 64] rfl rfl rfl rfl (by rw [show s4.names = s3.names from (gN_st2 hj6).1]; rfl) rfl rfl rfl (fun _ _ => rfl) (fun _ _ _ => rfl) rfl (fun ⟨vb2, l2, s5, vn3⟩ hl2 => ?_)
       dsimp only at hl2 ⊢
       refine r_p (p_field0 fo53_4 rfl) rfl ?_
       refine r_store_row (k := 14) t51 rfl rfl rfl rfl rfl rfl rfl rfl ?_
       refine r_nil (r_region (r_p (p_move rfl) rfl ?_))
       refine r_p (p_loadA t53 rfl rfl rfl (g_all (k := 14) rfl)) rfl ?_
       refine r_bslice1 eTy (.mk 4 oNil v154 [t1] vb1 l1 vb2 l2) Tryz.underlying51 t53 rfl (by decide) (by decide) rfl rfl rfl rfl fun v171 => ?_
       refine r_append 60 Tryz.underlying51 t53 rfl (by decide) (fun _ => rfl) (fun _ => rfl) rfl rfl rfl (hs_own (k := 171) rfl) (by simp only [List.length_append, List.length_cons, List.length_nil]; omega) (by unfold maxLen; simp only [List.length_append, List.length_cons, List.length_nil]; omega) rfl fun v172 => ?_
       refine r_p (p_assign rfl) rfl (r_nil (r_region (r_p (p_move rfl) rfl ?_)))
       refine r_p (p_bin rfl rfl (b_add (by first | exact w_i64 (by omega) (by omega) | rfl))) rfl ?_
       refine r_p (p_assign rfl) rfl (r_nil ?_)
       have hg1 : G1r e.c (lv + 1) k sa (erYs [.mk 4 oNil v154 [t1] vb1 l1 vb2 l2]) (s5) := h5 ▸ .iff1 ht1 hl1.1 (hj6e ▸ hj6) hl2.1
       have hkp := hg1.inv hia
       refine r_collect 40 [40, 154, 153, 61, 62, 63, 64] (C := ysA (out ++ [.mk 4 oNil v154 [t1] vb1 l1 vb2 l2])) rfl sti1_all ?_
       refine r_here ⟨i + 1, v172, out ++ [.mk 4 oNil v154 [t1] vb1 l1 vb2 l2], s5, vn3⟩ ⟨⟨by dsimp only; omega, hkp.inv, by dsimp only; rw [List.length_append]; simp only [List.length_cons, List.length_nil]; omega, by dsimp only; rw [erYs_app]; exact gl_next hi2 hleft hk hg1 n4⟩, by dsimp only; omega⟩ rfl rfl rfl
      ·(try simp only [decide_eq_true_eq, decide_eq_false_iff_not, Bool.and_eq_true, Bool.or_eq_true, Bool.and_eq_false_iff, Bool.or_eq_false_iff, Bool.not_eq_true, Bool.not_eq_false, Bool.not_eq_true', Bool.not_eq_false', Bool.not_not, bne_iff_ne, beq_iff_eq] at h28)
       have hj6e : j6 ≠ 1 := h28
       refine r_skip (r_region (r_p (p_move rfl) rfl ?_))
       refine r_p (p_loadA t53 rfl rfl rfl (g_all (k := 14) rfl)) rfl ?_
       refine r_bslice1 eTy (.mk 4 oNil v154 [t1] vb1 l1 nilS []) Tryz.underlying51 t53 rfl (by decide) (by decide) rfl rfl rfl rfl fun v171 => ?_
       refine r_append 60 Tryz.underlying51 t53 rfl (by decide) (fun _ => rfl) (fun _ => rfl) rfl rfl rfl (hs_own (k := 171) rfl) (by simp only [List.length_append, List.length_cons, List.length_nil]; omega) (by unfold maxLen; simp only [List.length_append, List.length_cons, List.length_nil]; omega) rfl fun v172 => ?_
       refine r_p (p_assign rfl) rfl (r_nil (r_region (r_p (p_move rfl) rfl ?_)))
       refine r_p (p_bin rfl rfl (b_add (by first | exact w_i64 (by omega) (by omega) | rfl))) rfl ?_
       refine r_p (p_assign rfl) rfl (r_nil ?_)
       have hg1 : G1r e.c (lv + 1) k sa (erYs [.mk 4 oNil v154 [t1] vb1 l1 nilS []]) (s4) := h5 ▸ .iff0 ht1 hl1.1 hj6 hj6e
       have hkp := hg1.inv hia
       refine r_collect 40 [40, 154, 153, 61, 62] (C := ysA (out ++ [.mk 4 oNil v154 [t1] vb1 l1 nilS []])) rfl sti0_all ?_
       refine r_here ⟨i + 1, v172, out ++ [.mk 4 oNil v154 [t1] vb1 l1 nilS []], s4, vn2⟩ ⟨⟨by dsimp only; omega, hkp.inv, by dsimp only; rw [List.length_append]; simp only [List.length_cons, List.length_nil]; omega, by dsimp only; rw [erYs_app]; exact gl_next hi2 hleft hk hg1 n4⟩, by dsimp only; omega⟩ rfl (by dsimp only; rw [show s4.names = s3.names from (gN_st2 hj6).1]; rfl) rfl
     ·(try simp only [decide_eq_true_eq, decide_eq_false_iff_not, Bool.and_eq_true, Bool.or_eq_true, Bool.and_eq_false_iff, Bool.or_eq_false_iff, Bool.not_eq_true, Bool.not_eq_false, Bool.not_eq_true', Bool.not_eq_false', Bool.not_not, bne_iff_ne, beq_iff_eq] at h27)
      have q5 : ¬ (k = 6 ∧ 1 ≤ lev) := by rintro ⟨a, b⟩; rcases h27 with h | h; exact h a; omega
      refine r_seq (r_region (r_p (p_move rfl) rfl ?_))
      refine r_p (p_bin rfl rfl b_eq) rfl ?_
      refine r_p (p_move rfl) rfl ?_
      refine r_gp [] rfl rfl trivial (fun hg29 => p_move rfl) rfl ?_
      refine r_gp [(177, _)] rfl rfl ⟨rfl, trivial⟩ (fun hg30 => p_bin rfl rfl b_lt) rfl ?_
      refine r_p (p_pick rfl rfl rfl (by first | exact pick_and | exact pick_or |  rfl)) rfl ?_
      refine r_p (p_move rfl) rfl ?_
      refine r_gp [] rfl rfl trivial (fun hg31 => p_move rfl) rfl ?_
      refine r_gp [(181, _)] rfl rfl ⟨rfl, trivial⟩ (fun hg32 => p_nilCheck rfl) rfl ?_
      refine r_gp [(181, _), (182, _)] rfl rfl ⟨rfl, rfl, trivial⟩ (fun hg33 => p_field0 fo76_5 rfl) rfl ?_
      refine r_gp [(181, _), (182, _), (183, _)] rfl rfl ⟨rfl, rfl, rfl, trivial⟩ (fun hg34 => p_load1 t3 rfl rfl (g_row1 (k := 0) rfl rfl)) rfl ?_
      refine r_gp [(181, _), (182, _), (183, _), (184, _)] rfl rfl ⟨rfl, rfl, rfl, rfl, trivial⟩ (fun hg35 => p_move rfl) rfl ?_
      refine r_gp [(181, _), (182, _), (183, _), (184, _), (185, _)] rfl rfl ⟨rfl, rfl, rfl, rfl, rfl, trivial⟩ (fun hg36 => p_len_sl Tryz.underlying58 rfl (hs_own (k := 43) rfl)) rfl ?_
      refine r_gp [(181, _), (182, _), (183, _), (184, _), (185, _), (186, _)] rfl rfl ⟨rfl, rfl, rfl, rfl, rfl, rfl, trivial⟩ (fun hg37 => p_bin rfl rfl b_lt) rfl ?_
      refine r_p (p_pick rfl rfl rfl (by first | exact pick_and | exact pick_or |  rfl)) rfl ?_
      refine r_p (p_assign rfl) rfl (r_nil ?_)
      refine r_cond rfl (fun h38 => ?_) (fun h38 => ?_)
      ·(try simp only [decide_eq_true_eq, decide_eq_false_iff_not, Bool.and_eq_true, Bool.or_eq_true, Bool.and_eq_false_iff, Bool.or_eq_false_iff, Bool.not_eq_true, Bool.not_eq_false, Bool.not_eq_true', Bool.not_eq_false', Bool.not_not, bne_iff_ne, beq_iff_eq] at h38)
       have h7 : k = 7 ∧ sa.vars < 8 := ⟨h38.1.1, h38.2⟩
       obtain ⟨lv, rfl⟩ : ∃ lv, lev = lv + 2 := ⟨lev - 2, by have := h38.1.2; omega⟩
       obtain ⟨nm, hnm, hnm1, hnm2⟩ := fresh_at hia.v0 h7.2
       obtain ⟨j7, s2, hj7⟩ : ∃ a b, gN e.c.l 5 { sa with vars := sa.vars + 1 } = (a, b) := ⟨_, _, rfl⟩
       have hjb7 := gN_bd (by decide) hj7
       have hi2b : GInv s2 := GInv.same (hia.var h7.2) (gN_st2 hj7)
       refine r_seq (r_region (r_p (p_move rfl) rfl (r_p (p_move rfl) rfl (r_p (p_nilCheck rfl) rfl ?_))))
       refine r_p (p_field0 fo76_5 rfl) rfl ?_
       refine r_p (p_load1 t3 rfl rfl (g_row1 (k := 0) rfl rfl)) rfl ?_
       refine r_p (p_idx_sl (j := sa.vars.toNat) Tryz.underlying58 t9 rfl rfl (hs_own (k := 43) rfl) hnm2 hnm1) rfl ?_
       refine r_p (p_load1 t9 rfl rfl (g_el' (hs_own (k := 43) rfl) (by intro _; rfl) hnm (by rfl))) rfl ?_
       refine r_p (p_assign rfl) rfl (r_nil (r_seq (r_region (r_p (p_move rfl) rfl (r_p (p_nilCheck rfl) rfl ?_)))))
       refine r_p (p_field0 fo76_5 rfl) rfl ?_
       refine r_p (p_load1 t3 rfl rfl (g_row1 (k := 0) rfl rfl)) rfl ?_
       refine r_p (p_bin rfl rfl (b_add (by first | exact w_i64 (by omega) (by omega) | rfl))) rfl ?_
       refine r_p (p_nilCheck rfl) rfl ?_
       refine r_p (p_field0 fo76_5 rfl) rfl ?_
       refine r_store_row (k := 0) t3 rfl rfl rfl rfl rfl rfl rfl rfl ?_
       refine r_nil (r_seq (r_region (r_p (p_move rfl) rfl ?_)))
       refine r_p (p_build (parts := [(0, .const (.int .i64 2)), (2, .tmp 203)]) t48 pl48 rfl rfl) rfl ?_
       refine r_alloc t48 rfl rfl fun b16 => ?_
       refine r_store_all (k := 16) t48 rfl rfl rfl rfl rfl rfl ?_
       refine r_nil (r_seq (r_region (r_p (p_move rfl) rfl (r_p (p_move rfl) rfl (r_p (p_move rfl) rfl ?_)))))
       refine r_callN (xs := [.tmp 207, .const (.int .i64 5)]) (gnext_spec e.g e.vl vn e.vf e.c he.hl he.hlo (5) (by decide) ({ sa with vars := sa.vars + 1 })) cb31 [0] [(false, 0)] [0] rfl rfl rfl rfl rfl rfl rfl rfl (fun _ _ => rfl) (fun _ _ _ => rfl) rfl (fun _ _ => ?_)
       rw [hj7]
       dsimp only
       refine r_p (p_conv Tryz.underlying3 Tryz.underlying36 rfl (by first | exact w_u32 (by omega) (by omega) | rfl)) rfl ?_
       refine r_p (p_build (parts := [(0, .const (.int .i64 1)), (1, .tmp 209)]) t48 pl48 rfl rfl) rfl ?_
       refine r_bslice1 eTx (tNum j7) Tryz.underlying46 t48 rfl (by decide) (by decide) rfl rfl rfl rfl fun v211 => ?_
       refine r_p (p_build (parts := [(0, .const (.int .i64 1)), (1, .tmp 206), (2, .tmp 211)]) t53 pl53 rfl rfl) rfl ?_
       refine r_bslice1 eTy (wVar nm v211 j7) Tryz.underlying51 t53 rfl (by decide) (by decide) rfl rfl rfl rfl fun v213 => ?_
       refine r_append 60 Tryz.underlying51 t53 rfl (by decide) (fun _ => rfl) (fun _ => rfl) rfl rfl rfl (hs_own (k := 213) rfl) (by simp only [List.length_append, List.length_cons, List.length_nil]; omega) (by unfold maxLen; simp only [List.length_append, List.length_cons, List.length_nil]; omega) rfl fun v214 => ?_
       refine r_p (p_assign rfl) rfl (r_nil (r_seq (r_region ?_)))
       refine r_p (p_loadA t48 rfl rfl rfl (g_all (k := 16) rfl)) rfl ?_
       refine r_bslice1 eTx (tName nm) Tryz.underlying46 t48 rfl (by decide) (by decide) rfl rfl rfl rfl fun v216 => ?_
       refine r_p (p_build (parts := [(0, .const (.int .i64 5)), (2, .tmp 216)]) t53 pl53 rfl rfl) rfl ?_
       refine r_alloc t53 rfl rfl fun b17 => ?_
       refine r_store_all (k := 17) t53 rfl rfl rfl rfl rfl rfl ?_
       refine r_nil (r_seq (r_region (r_p (p_move rfl) rfl (r_p (p_move rfl) rfl ?_))))
       refine r_p (p_bin rfl rfl (b_add (c := 4 - ((lv + 1 : Nat) : Int)) (by rw [show 4 - ((lv + 2 : Nat) : Int) + 1 = 4 - ((lv + 1 : Nat) : Int) by omega]; exact w_i64 (by omega) (by omega)))) rfl ?_
       refine r_callN (xs := [.tmp 218, .tmp 220]) (ih (lv + 1) rfl s2 vn hi2b) cb32 [0, 1] [(false, 0), (false, 2)] [0, 1, 61, 62] rfl rfl rfl rfl (by rw [show s2.names = sa.names from (gN_st2 hj7).1]; rfl) rfl rfl rfl (fun _ _ => rfl) (fun _ _ _ => rfl) rfl (fun ⟨vb1, l1, s3, vn2⟩ hl1 => ?_)
       dsimp only at hl1 ⊢
       have hi3 : GInv s3 := (hl1.1.inv hi2b).inv
       refine r_p (p_field0 fo53_3 rfl) rfl ?_
       refine r_store_row (k := 17) t51 rfl rfl rfl rfl rfl rfl rfl rfl ?_
       refine r_nil (r_seq (r_region ?_))
       refine r_p (p_field0 fo53_3 rfl) rfl ?_
       refine r_p (p_load1 t51 rfl rfl (g_row1 (k := 17) rfl rfl)) rfl ?_
       refine r_p (p_move rfl) rfl ?_
       refine r_p (p_loadA t48 rfl rfl rfl (g_all (k := 16) rfl)) rfl ?_
       refine r_p (p_build (parts := [(0, .const (.int .i64 1)), (1, .const (.int .u32 1))]) t48 pl48 rfl rfl) rfl ?_
       refine r_bslice eTx [tName nm, tNum 1] (parts := [(0, .tmp 226), (1, .tmp 227)]) Tryz.underlying46 t48 rfl (by decide) (by intro _; rfl) rfl (by decide) (by decide) rfl rfl rfl rfl fun v228 => ?_
       refine r_p (p_build (parts := [(0, .const (.int .i64 7)), (2, .const (.string (ByteArray.mk #[45]))), (3, .tmp 228)]) t48 pl48 rfl rfl) rfl ?_
       refine r_bslice1 eTx (tBin oSub v228 (tName nm) (tNum 1)) Tryz.underlying46 t48 rfl (by decide) (by decide) rfl rfl rfl rfl fun v230 => ?_
       refine r_p (p_build (parts := [(0, .const (.int .i64 2)), (1, .tmp 225), (2, .tmp 230)]) t53 pl53 rfl rfl) rfl ?_
       refine r_bslice1 eTy (wDown nm v230 v228) Tryz.underlying51 t53 rfl (by decide) (by decide) rfl rfl rfl rfl fun v232 => ?_
       refine r_append 61 Tryz.underlying51 t53 rfl (by decide) (fun _ => rfl) (fun _ => rfl) rfl rfl rfl (hs_own (k := 232) rfl) (by have := hl1.2; simp only [List.length_singleton]; omega) (by unfold maxLen; have := hl1.2; simp only [List.length_singleton]; omega) rfl fun v233 => ?_
       refine r_p (p_field0 fo53_3 rfl) rfl ?_
       refine r_store_row (k := 17) t51 rfl rfl rfl rfl rfl rfl rfl rfl ?_
       refine r_nil (r_seq (r_region (r_p (p_move rfl) rfl (r_p (p_move rfl) rfl (r_p (p_nilCheck rfl) rfl ?_)))))
       refine r_p (p_field0 fo76_4 rfl) rfl ?_
       refine r_p (p_load1 t58 rfl rfl (g_row1 (k := 0) rfl rfl)) rfl ?_
       refine r_p (p_move rfl) rfl ?_
       refine r_bslice1 eS nm Tryz.underlying58 t9 rfl (by decide) (by decide) rfl rfl rfl rfl fun v241 => ?_
       refine r_append 1 Tryz.underlying58 t9 rfl (by decide) (fun _ => rfl) (fun _ => rfl) rfl rfl rfl (hs_own (k := 241) rfl) (by have := hi3.n; simp only [List.length_singleton]; omega) (by unfold maxLen; have := hi3.n; simp only [List.length_singleton]; omega) rfl fun v242 => ?_
       refine r_p (p_nilCheck rfl) rfl ?_
       refine r_p (p_field0 fo76_4 rfl) rfl ?_
       refine r_store_row (k := 0) t58 rfl rfl rfl rfl rfl rfl rfl rfl ?_
       refine r_nil (r_region (r_p (p_move rfl) rfl ?_))
       refine r_p (p_loadA t53 rfl rfl rfl (g_all (k := 17) rfl)) rfl ?_
       refine r_bslice1 eTy (wLoop nm v216 v233 (l1 ++ [wDown nm v230 v228])) Tryz.underlying51 t53 rfl (by decide) (by decide) rfl rfl rfl rfl fun v247 => ?_
       refine r_append 60 Tryz.underlying51 t53 rfl (by decide) (fun _ => rfl) (fun _ => rfl) rfl rfl rfl (hs_own (k := 247) rfl) (by simp only [List.length_append, List.length_cons, List.length_nil]; omega) (by unfold maxLen; simp only [List.length_append, List.length_cons, List.length_nil]; omega) rfl fun v248 => ?_
       refine r_p (p_assign rfl) rfl (r_nil (r_region (r_p (p_move rfl) rfl ?_)))
       refine r_p (p_bin rfl rfl (b_add (by first | exact w_i64 (by omega) (by omega) | rfl))) rfl ?_
       refine r_p (p_assign rfl) rfl (r_nil ?_)
       have hg1 : G1r e.c (lv + 2) k sa (erYs [wVar nm v211 j7, wLoop nm v216 v233 (l1 ++ [wDown nm v230 v228])]) ({ s3 with names := s3.names ++ [nm] }) := (by rw [er_whi]; exact h7.1 ▸ .whi hnm h7.2 hj7 hl1.1)
       have hkp := hg1.inv hia
       refine r_collect 40 [40, 211, 216, 62, 228, 230, 61] (C := ysA (out ++ [wVar nm v211 j7, wLoop nm v216 v233 (l1 ++ [wDown nm v230 v228])])) rfl stw_all ?_
       refine r_here ⟨i + 1, v248, out ++ [wVar nm v211 j7, wLoop nm v216 v233 (l1 ++ [wDown nm v230 v228])], { s3 with names := s3.names ++ [nm] }, v242⟩ ⟨⟨by dsimp only; omega, hkp.inv, by dsimp only; rw [List.length_append]; simp only [List.length_cons, List.length_nil]; omega, by dsimp only; rw [erYs_app]; exact gl_next hi2 hleft hk hg1 n4⟩, by dsimp only; omega⟩ rfl (by dsimp only; rw [show out ++ [wVar nm v211 j7, wLoop nm v216 v233 (l1 ++ [wDown nm v230 v228])] = out ++ [wVar nm v211 j7] ++ [wLoop nm v216 v233 (l1 ++ [wDown nm v230 v228])] from (List.append_assoc out [_] [_]).symm]; rfl) rfl
      ·(try simp only [decide_eq_true_eq, decide_eq_false_iff_not, Bool.and_eq_true, Bool.or_eq_true, Bool.and_eq_false_iff, Bool.or_eq_false_iff, Bool.not_eq_true, Bool.not_eq_false, Bool.not_eq_true', Bool.not_eq_false', Bool.not_not, bne_iff_ne, beq_iff_eq] at h38)
       have q7 : ¬ (k = 7 ∧ 2 ≤ lev ∧ sa.vars < 8) := by rintro ⟨a, b, c⟩; rcases h38 with (h | h) | h; exact h a; omega; exact h c
       refine r_seq (r_region (r_p (p_move rfl) rfl ?_))
       refine r_p (p_bin rfl rfl b_eq) rfl ?_
       refine r_p (p_move rfl) rfl ?_
       refine r_split (t := 252) rfl (fun h39 => ?_) (fun h39 => ?_)
       ·(try simp only [decide_eq_true_eq, decide_eq_false_iff_not, Bool.and_eq_true, Bool.or_eq_true, Bool.and_eq_false_iff, Bool.or_eq_false_iff, Bool.not_eq_true, Bool.not_eq_false, Bool.not_eq_true', Bool.not_eq_false', Bool.not_not, bne_iff_ne, beq_iff_eq] at h39)
        have h8 : k = 8 := h39
        obtain ⟨j8, sb, hj8⟩ : ∃ a b, gN e.c.l 3 sa = (a, b) := ⟨_, _, rfl⟩
        have hnb : sb.names = sa.names := (gN_st2 hj8).1
        refine r_gyes rfl rfl ?_
        refine r_p (p_move rfl) rfl ?_
        refine r_gyes rfl rfl ?_
        refine r_callN (xs := [.tmp 253, .const (.int .i64 3)]) (gnext_spec e.g e.vl vn e.vf e.c he.hl he.hlo (3) (by decide) (sa)) cb31 [0] [(false, 0)] [0] rfl rfl rfl rfl rfl rfl rfl rfl (fun _ _ => rfl) (fun _ _ _ => rfl) rfl (fun _ _ => ?_)
        rw [hj8]
        dsimp only
        refine r_gyes rfl rfl ?_
        refine r_p (p_bin rfl rfl b_eq) rfl ?_
        refine r_p (p_pick rfl rfl rfl (by first | exact pick_and | exact pick_or |  rfl)) rfl ?_
        refine r_p (p_assign rfl) rfl (r_nil ?_)
        refine r_cond rfl (fun h40 => ?_) (fun h40 => ?_)
        ·(try simp only [decide_eq_true_eq, decide_eq_false_iff_not, Bool.and_eq_true, Bool.or_eq_true, Bool.and_eq_false_iff, Bool.or_eq_false_iff, Bool.not_eq_true, Bool.not_eq_false, Bool.not_eq_true', Bool.not_eq_false', Bool.not_not, bne_iff_ne, beq_iff_eq] at h40)
         have h80 : j8 = 0 := h40.2
         refine r_region (r_p (p_move rfl) rfl (r_p (p_move rfl) rfl ?_))
         refine r_callN (xs := [.tmp 258, .const (.int .i64 4)]) (gx_own he 3 (by decide) vn (sb) (by rw [hnb]; exact hin)) cb49 [0] [(false, 0), (true, 1), (false, 2)] [0, 259] rfl rfl rfl rfl rfl (by rw [hnb]; rfl) rfl rfl (fun _ _ => rfl) (fun _ _ _ => rfl) rfl (fun ⟨t1, s2⟩ ht1 => ?_)
         dsimp only at ht1 ⊢
         refine r_bslice1 eTx t1 Tryz.underlying46 t48 rfl (by decide) (by decide) rfl rfl rfl rfl fun v260 => ?_
         refine r_p (p_build (parts := [(0, .const (.int .i64 6)), (2, .tmp 260)]) t53 pl53 rfl rfl) rfl ?_
         refine r_bslice1 eTy (.mk 6 oNil v260 [t1] nilS [] nilS []) Tryz.underlying51 t53 rfl (by decide) (by decide) rfl rfl rfl rfl fun v262 => ?_
         refine r_append 60 Tryz.underlying51 t53 rfl (by decide) (fun _ => rfl) (fun _ => rfl) rfl rfl rfl (hs_own (k := 262) rfl) (by simp only [List.length_append, List.length_cons, List.length_nil]; omega) (by unfold maxLen; simp only [List.length_append, List.length_cons, List.length_nil]; omega) rfl fun v263 => ?_
         refine r_p (p_assign rfl) rfl (r_nil (r_region (r_p (p_move rfl) rfl ?_)))
         refine r_p (p_bin rfl rfl (b_add (by first | exact w_i64 (by omega) (by omega) | rfl))) rfl ?_
         refine r_p (p_assign rfl) rfl (r_nil ?_)
         have hg1 : G1r e.c (lev) k sa (erYs [.mk 6 oNil v260 [t1] nilS [] nilS []]) (s2) := h8 ▸ .ret (h80 ▸ hj8) ht1
         have hkp := hg1.inv hia
         refine r_collect 40 [40, 260, 259] (C := ysA (out ++ [.mk 6 oNil v260 [t1] nilS [] nilS []])) rfl st1_all ?_
         refine r_here ⟨i + 1, v263, out ++ [.mk 6 oNil v260 [t1] nilS [] nilS []], s2, vn⟩ ⟨⟨by dsimp only; omega, hkp.inv, by dsimp only; rw [List.length_append]; simp only [List.length_cons, List.length_nil]; omega, by dsimp only; rw [erYs_app]; exact gl_next hi2 hleft hk hg1 n4⟩, by dsimp only; omega⟩ rfl (by dsimp only; rw [show s2.names = sa.names from ht1.keep.1.trans (gN_st2 hj8).1]; rfl) rfl
        ·(try simp only [decide_eq_true_eq, decide_eq_false_iff_not, Bool.and_eq_true, Bool.or_eq_true, Bool.and_eq_false_iff, Bool.or_eq_false_iff, Bool.not_eq_true, Bool.not_eq_false, Bool.not_eq_true', Bool.not_eq_false', Bool.not_not, bne_iff_ne, beq_iff_eq] at h40)
         have h80 : j8 ≠ 0 := by simpa using h40
         refine r_seq ?_
         refine r_draw [265, 266, 267, 268, 269, 270, 271, 272, 273, 274, 275, 276, 277, 278, 279, 264] _ rfl (stg_end (V := [(0, 265, _), (1, 266, _), (2, 267, _), (3, 268, _), (4, 269, _), (5, 270, _), (6, 271, _), (7, 272, _), (8, 273, _), (9, 274, _), (10, 275, _), (11, 276, _), (12, 277, _), (13, 278, _), (14, 279, _), (15, 264, _)]) [0, 1, 2, 3, 4, 5, 6, 7, 8, 9, 10, 11, 12, 13, 14, 15] rfl rfl (prs_cons (pri rfl (p_move rfl)) (prs_cons (pri rfl (p_bin rfl rfl b_eq)) (prs_cons (pri rfl (p_move rfl)) (prs_cons (prig_s [] rfl rfl rfl trivial (fun hg41 => p_move rfl)) (prs_cons (prig_s [(268, _)] rfl rfl rfl ⟨rfl, trivial⟩ (fun hg42 => p_nilCheck rfl)) (prs_cons (prig_s [(269, _)] rfl rfl rfl ⟨rfl, trivial⟩ (fun hg43 => p_field0 fo76_6 rfl)) (prs_cons (prig_s [(270, _)] rfl rfl rfl ⟨rfl, trivial⟩ (fun hg44 => p_load1 t3 rfl rfl (g_row1 (k := 0) rfl rfl))) (prs_cons (prig_s [(271, _)] rfl rfl rfl ⟨rfl, trivial⟩ (fun hg45 => p_bin rfl rfl (b_add (by first | exact w_i64 (by omega) (by omega) | rfl)))) (prs_cons (prig_s [] rfl rfl rfl trivial (fun hg46 => p_move rfl)) (prs_cons (prig_s [(273, _)] rfl rfl rfl ⟨rfl, trivial⟩ (fun hg47 => p_nilCheck rfl)) (prs_cons (prig_s [(274, _)] rfl rfl rfl ⟨rfl, trivial⟩ (fun hg48 => p_field0 fo76_7 rfl)) (prs_cons (prig_s [(275, _)] rfl rfl rfl ⟨rfl, trivial⟩ (fun hg49 => p_load1 t27 rfl rfl (g_row1 (k := 0) rfl rfl))) (prs_cons (prig_s [(276, _)] rfl rfl rfl ⟨rfl, trivial⟩ (fun hg50 => p_len_sl Tryz.underlying27 rfl (hs_sl (k := 3) rfl))) (prs_cons (prig_s [(272, _), (277, _)] rfl rfl rfl ⟨rfl, rfl, trivial⟩ (fun hg51 => p_bin rfl rfl b_lt)) (prs_cons (pri rfl (p_pick rfl rfl rfl (by first | exact pick_and | exact pick_or |  rfl))) (prs_cons (pri rfl (p_assign rfl)) prs_nil)))))))))))))))) rfl rfl rfl ?_)
         refine r_cond rfl (fun h52 => ?_) (fun h52 => ?_)
         ·simp only [Bool.and_eq_true, decide_eq_true_eq] at h52; omega
         ·(try simp only [decide_eq_true_eq, decide_eq_false_iff_not, Bool.and_eq_true, Bool.or_eq_true, Bool.and_eq_false_iff, Bool.or_eq_false_iff, Bool.not_eq_true, Bool.not_eq_false, Bool.not_eq_true', Bool.not_eq_false', Bool.not_not, bne_iff_ne, beq_iff_eq] at h52)
          have q9 : ¬ (k = 9 ∧ e.c.me + 1 < e.F.length) := by rintro ⟨h1, h2⟩; omega
          refine r_region (r_p (p_move rfl) rfl (r_p (p_move rfl) rfl ?_))
          refine r_callN (xs := [.tmp 45, .const (.int .i64 4)]) (gx_own he 3 (by decide) vn (sb) (by rw [hnb]; exact hin)) cb49 [0] [(false, 0), (true, 1), (false, 2)] [0, 46] rfl rfl rfl rfl rfl (by rw [hnb]; rfl) rfl rfl (fun _ _ => rfl) (fun _ _ _ => rfl) rfl (fun ⟨t1, s2⟩ ht1 => ?_)
          dsimp only at ht1 ⊢
          refine r_bslice1 eTx t1 Tryz.underlying46 t48 rfl (by decide) (by decide) rfl rfl rfl rfl fun v47 => ?_
          refine r_p (p_build (parts := [(0, .const (.int .i64 7)), (2, .tmp 47)]) t53 pl53 rfl rfl) rfl ?_
          refine r_bslice1 eTy (yOut v47 t1) Tryz.underlying51 t53 rfl (by decide) (by decide) rfl rfl rfl rfl fun v49 => ?_
          refine r_append 60 Tryz.underlying51 t53 rfl (by decide) (fun _ => rfl) (fun _ => rfl) rfl rfl rfl (hs_own (k := 49) rfl) (by simp only [List.length_append, List.length_cons, List.length_nil]; omega) (by unfold maxLen; simp only [List.length_append, List.length_cons, List.length_nil]; omega) rfl fun v50 => ?_
          refine r_p (p_assign rfl) rfl (r_nil (r_region (r_p (p_move rfl) rfl ?_)))
          refine r_p (p_bin rfl rfl (b_add (by first | exact w_i64 (by omega) (by omega) | rfl))) rfl ?_
          refine r_p (p_assign rfl) rfl (r_nil ?_)
          have hg1 : G1r e.c (lev) k sa (erYs [yOut v47 t1]) (s2) := .out q2 q3 q4.1 q4.2 (fun h => q5 h) (fun h => q7 h) (.inr ⟨h8, j8, h80, hj8⟩) (fun h => q9 ⟨h.1, by rw [← hfl]; exact h.2⟩) ht1
          have hkp := hg1.inv hia
          refine r_collect 40 [40, 47, 46] (C := ysA (out ++ [yOut v47 t1])) rfl st1_all ?_
          refine r_here ⟨i + 1, v50, out ++ [yOut v47 t1], s2, vn⟩ ⟨⟨by dsimp only; omega, hkp.inv, by dsimp only; rw [List.length_append]; simp only [List.length_cons, List.length_nil]; omega, by dsimp only; rw [erYs_app]; exact gl_next hi2 hleft hk hg1 n4⟩, by dsimp only; omega⟩ rfl (by dsimp only; rw [show s2.names = sa.names from ht1.keep.1.trans (gN_st2 hj8).1]; rfl) rfl
       ·(try simp only [decide_eq_true_eq, decide_eq_false_iff_not, Bool.and_eq_true, Bool.or_eq_true, Bool.and_eq_false_iff, Bool.or_eq_false_iff, Bool.not_eq_true, Bool.not_eq_false, Bool.not_eq_true', Bool.not_eq_false', Bool.not_not, bne_iff_ne, beq_iff_eq] at h39)
        have h8 : ¬ k = 8 := h39
        refine r_gno rfl rfl rfl rfl ?_
        refine r_gno rfl rfl rfl rfl ?_
        refine r_gno rfl rfl rfl rfl ?_
        refine r_p (p_pick rfl rfl rfl (by first | exact pick_and | exact pick_or |  rfl)) rfl ?_
        refine r_p (p_assign rfl) rfl (r_nil ?_)
        refine r_cond rfl (fun h53 => ?_) (fun h53 => ?_)
        ·exact absurd h53 (by simp)
        ·(try simp only [decide_eq_true_eq, decide_eq_false_iff_not, Bool.and_eq_true, Bool.or_eq_true, Bool.and_eq_false_iff, Bool.or_eq_false_iff, Bool.not_eq_true, Bool.not_eq_false, Bool.not_eq_true', Bool.not_eq_false', Bool.not_not, bne_iff_ne, beq_iff_eq] at h53)
         refine r_seq ?_
         refine r_draw [265, 266, 267, 268, 269, 270, 271, 272, 273, 274, 275, 276, 277, 278, 279, 264] _ rfl (stg_end (V := [(0, 265, _), (1, 266, _), (2, 267, _), (3, 268, _), (4, 269, _), (5, 270, _), (6, 271, _), (7, 272, _), (8, 273, _), (9, 274, _), (10, 275, _), (11, 276, _), (12, 277, _), (13, 278, _), (14, 279, _), (15, 264, _)]) [0, 1, 2, 3, 4, 5, 6, 7, 8, 9, 10, 11, 12, 13, 14, 15] rfl rfl (prs_cons (pri rfl (p_move rfl)) (prs_cons (pri rfl (p_bin rfl rfl b_eq)) (prs_cons (pri rfl (p_move rfl)) (prs_cons (prig_s [] rfl rfl rfl trivial (fun hg54 => p_move rfl)) (prs_cons (prig_s [(268, _)] rfl rfl rfl ⟨rfl, trivial⟩ (fun hg55 => p_nilCheck rfl)) (prs_cons (prig_s [(269, _)] rfl rfl rfl ⟨rfl, trivial⟩ (fun hg56 => p_field0 fo76_6 rfl)) (prs_cons (prig_s [(270, _)] rfl rfl rfl ⟨rfl, trivial⟩ (fun hg57 => p_load1 t3 rfl rfl (g_row1 (k := 0) rfl rfl))) (prs_cons (prig_s [(271, _)] rfl rfl rfl ⟨rfl, trivial⟩ (fun hg58 => p_bin rfl rfl (b_add (by first | exact w_i64 (by omega) (by omega) | rfl)))) (prs_cons (prig_s [] rfl rfl rfl trivial (fun hg59 => p_move rfl)) (prs_cons (prig_s [(273, _)] rfl rfl rfl ⟨rfl, trivial⟩ (fun hg60 => p_nilCheck rfl)) (prs_cons (prig_s [(274, _)] rfl rfl rfl ⟨rfl, trivial⟩ (fun hg61 => p_field0 fo76_7 rfl)) (prs_cons (prig_s [(275, _)] rfl rfl rfl ⟨rfl, trivial⟩ (fun hg62 => p_load1 t27 rfl rfl (g_row1 (k := 0) rfl rfl))) (prs_cons (prig_s [(276, _)] rfl rfl rfl ⟨rfl, trivial⟩ (fun hg63 => p_len_sl Tryz.underlying27 rfl (hs_sl (k := 3) rfl))) (prs_cons (prig_s [(272, _), (277, _)] rfl rfl rfl ⟨rfl, rfl, trivial⟩ (fun hg64 => p_bin rfl rfl b_lt)) (prs_cons (pri rfl (p_pick rfl rfl rfl (by first | exact pick_and | exact pick_or |  rfl))) (prs_cons (pri rfl (p_assign rfl)) prs_nil)))))))))))))))) rfl rfl rfl ?_)
         refine r_cond rfl (fun h65 => ?_) (fun h65 => ?_)
         ·(try simp only [decide_eq_true_eq, decide_eq_false_iff_not, Bool.and_eq_true, Bool.or_eq_true, Bool.and_eq_false_iff, Bool.or_eq_false_iff, Bool.not_eq_true, Bool.not_eq_false, Bool.not_eq_true', Bool.not_eq_false', Bool.not_not, bne_iff_ne, beq_iff_eq] at h65)
          have h9 : k = 9 ∧ e.c.me + 1 < e.F.length := ⟨h65.1, by have := h65.2; omega⟩
          have hjb := gN_bnd e.c.l (n := (e.F.length : Int) - (e.c.me : Int) - 1) (by omega) sa
          obtain ⟨jf, hjf⟩ : ∃ jf : Nat, (e.c.me : Int) + 1 + (gN e.c.l ((e.F.length : Int) - (e.c.me : Int) - 1) sa).1 = (jf : Int) := ⟨((e.c.me : Int) + 1 + (gN e.c.l ((e.F.length : Int) - (e.c.me : Int) - 1) sa).1).toNat, by omega⟩
          have hjl : jf < e.F.length := by omega
          obtain ⟨f, hfj⟩ : ∃ f, e.F[jf]? = some f := ⟨_, List.getElem?_eq_getElem hjl⟩
          refine r_seq_cut (X := Tf × Gs × Nat) (fun y => y.1 ∈ e.F ∧ ∃ j, gN e.c.l ((e.F.length : Int) - (e.c.me : Int) - 1) sa = (j, y.2.1) ∧ e.c.fs[((e.c.me : Int) + 1 + j).toNat]? = some (y.1.name, y.1.ps)) (fun y => [(0, .pointer (some ⟨e.g, 0, none⟩)), (1, .int .i64 (4 - (lev : Int))), (5, sv vo), (6, .int .i64 (many : Int)), (7, .int .i64 (i : Int)), (18, .pointer (some ⟨y.2.2, 0, none⟩))]) (fun y => [(0, row e.g 76 (gRow e.vl (y.2.1) vn e.c.me e.vf)), (1, own 9 1 eS (sv vn) sa.names), (60, own 53 5 eTy (sv vo) out), (40, ysA out), (18, row y.2.2 63 (eTf y.1))]) (fun y => [(0, sl 1 eI (sv e.vl) e.c.l), (2, tfsA e.vf e.F), (3, sl 3 eTf (sv e.vf) e.F)]) ?_ (fun y hy => ?_)
          ·refine r_draw [280, 281, 282, 283, 284, 285, 286, 287, 288, 289, 290, 291, 292, 293, 294, 295, 296, 297, 298, 299, 300, 301, 302, 303, 304, 18] _ rfl (stg_alts (V := [(0, 280, _), (1, 281, _), (2, 282, _), (3, 283, _), (4, 284, _), (5, 285, _), (6, 286, _), (7, 287, _), (8, 288, _), (9, 289, _), (10, 290, _), (11, 291, _), (12, 292, _), (13, 293, _), (14, 294, _), (15, 295, _), (16, 296, _), (17, 297, _), (18, 298, _), (19, 299, _), (20, 300, _)]) [0, 1, 2, 3, 4, 5, 6, 7, 8, 9, 10, 11, 12, 13, 14, 15, 16, 17, 18, 19, 20] rfl rfl (prs_cons (pri rfl (p_move rfl)) (prs_cons (pri rfl (p_nilCheck rfl)) (prs_cons (pri rfl (p_field0 fo76_7 rfl)) (prs_cons (pri rfl (p_load1 t27 rfl rfl (g_row1 (k := 0) rfl rfl))) (prs_cons (pri rfl (p_move rfl)) (prs_cons (pri rfl (p_nilCheck rfl)) (prs_cons (pri rfl (p_field0 fo76_6 rfl)) (prs_cons (pri rfl (p_load1 t3 rfl rfl (g_row1 (k := 0) rfl rfl))) (prs_cons (pri rfl (p_bin rfl rfl (b_add (by first | exact w_i64 (by omega) (by omega) | rfl)))) (prs_cons (pri rfl (p_move rfl)) (prs_cons (pri rfl (p_move rfl)) (prs_cons (pri rfl (p_nilCheck rfl)) (prs_cons (pri rfl (p_field0 fo76_7 rfl)) (prs_cons (pri rfl (p_load1 t27 rfl rfl (g_row1 (k := 0) rfl rfl))) (prs_cons (pri rfl (p_len_sl Tryz.underlying27 rfl (hs_sl (k := 3) rfl))) (prs_cons (pri rfl (p_move rfl)) (prs_cons (pri rfl (p_nilCheck rfl)) (prs_cons (pri rfl (p_field0 fo76_6 rfl)) (prs_cons (pri rfl (p_load1 t3 rfl rfl (g_row1 (k := 0) rfl rfl))) (prs_cons (pri rfl (p_bin rfl rfl (b_sub (by first | exact w_i64 (by omega) (by omega) | rfl)))) (prs_cons (pri rfl (p_bin rfl rfl (b_sub (by first | exact w_i64 (by omega) (by omega) | rfl)))) prs_nil))))))))))))))))))))) rfl [21, 25] rfl rfl (nx_cons (nx_mem 21 [21, 20, 19, 18, 17, 16, 15, 14, 13, 12, 11, 10, 9] [22, 23, 24] (fun _ => [(22, 302, _), (23, 303, _), (24, 304, _)]) rfl rfl rfl rfl rfl rfl rfl rfl rfl (fun _ _ => rfl) rfl (ms_callN (xs := [.tmp 289, .tmp 300]) (gnext_spec e.g e.vl vn e.vf e.c he.hl he.hlo (((e.F.length : Int) - (e.c.me : Int) - 1)) (by omega) (sa)) cb31 [0] [(false, 0)] [0] rfl rfl rfl rfl rfl rfl rfl rfl (fun _ _ => rfl) (fun _ _ _ => rfl)) (fun _ _ => stg_mem [22, 23, 24, 0, 1, 2, 3, 4, 5, 6, 7, 8] 25 [25, 21, 20, 19, 18, 17, 16, 15, 14, 13, 12, 11, 10, 9] [] (fun b18 => []) rfl rfl (prs_cons (pri rfl (p_bin rfl rfl (b_add (by first | exact w_i64 (by omega) (by omega) | rfl)))) (prs_cons (pri rfl (p_idx_sl (j := jf) Tryz.underlying27 t63 rfl rfl (hs_sl (k := 3) rfl) hjf hjl)) (prs_cons (pri rfl (p_loadA t63 rfl rfl rfl (g_el' (hs_sl (k := 3) rfl) (by intro _; rfl) hfj (by rfl)))) (prs_cons (pri rfl (p_move rfl)) (prs_cons (pri rfl (p_nilCheck rfl)) (prs_cons (pri rfl (p_field0 fo76_7 rfl)) (prs_cons (pri rfl (p_load1 t27 rfl rfl (g_row1 (k := 0) rfl rfl))) (prs_cons (pri rfl (p_move rfl)) (prs_cons (pri rfl (p_nilCheck rfl)) (prs_cons (pri rfl (p_field0 fo76_6 rfl)) (prs_cons (pri rfl (p_load1 t3 rfl rfl (g_row1 (k := 0) rfl rfl))) (prs_cons (pri rfl (p_bin rfl rfl (b_add (by first | exact w_i64 (by omega) (by omega) | rfl)))) prs_nil)))))))))))) rfl rfl rfl rfl rfl rfl rfl rfl rfl rfl rfl (fun _ _ => rfl) rfl (ms_alloc t63 rfl) (fun b18 _ => stg_mem0 [22, 23, 24, 0, 1, 2, 3, 4, 5, 6, 7, 8] 26 [26, 25, 24, 23, 22, 21, 20, 19, 18, 17, 16, 15, 14, 13, 12, 11, 10, 9, 8, 7, 6, 5, 4, 3, 2, 1, 0] [] (fun _ => []) rfl rfl (prs_cons (pri rfl (p_bin rfl rfl (b_add (by first | exact w_i64 (by omega) (by omega) | rfl)))) (prs_cons (pri rfl (p_idx_sl (j := jf) Tryz.underlying27 t63 rfl rfl (hs_sl (k := 3) rfl) hjf hjl)) (prs_cons (pri rfl (p_loadA t63 rfl rfl rfl (g_el' (hs_sl (k := 3) rfl) (by intro _; rfl) hfj (by rfl)))) (prs_cons (pri rfl (p_move rfl)) (prs_cons (pri rfl (p_nilCheck rfl)) (prs_cons (pri rfl (p_field0 fo76_7 rfl)) (prs_cons (pri rfl (p_load1 t27 rfl rfl (g_row1 (k := 0) rfl rfl))) (prs_cons (pri rfl (p_move rfl)) (prs_cons (pri rfl (p_nilCheck rfl)) (prs_cons (pri rfl (p_field0 fo76_6 rfl)) (prs_cons (pri rfl (p_load1 t3 rfl rfl (g_row1 (k := 0) rfl rfl))) (prs_cons (pri rfl (p_bin rfl rfl (b_add (by first | exact w_i64 (by omega) (by omega) | rfl)))) prs_nil)))))))))))) rfl rfl rfl rfl rfl rfl rfl rfl rfl (fun _ _ => rfl) rfl (ms_store_all (k := 18) t63 rfl rfl rfl rfl rfl rfl) (fun _ _ => stg_end [] rfl rfl prs_nil rfl rfl rfl ?_)))) (nx_cons (nx_mem 25 [25] [] (fun b18 => []) rfl rfl rfl rfl rfl rfl rfl rfl rfl (fun _ _ => rfl) rfl (ms_alloc t63 rfl) (fun b18 _ => stg_mem [0, 1, 2, 3, 4, 5, 6, 7, 8, 9, 10, 11, 12, 13, 14, 15, 16, 17, 18, 19, 20] 21 [25, 21, 20, 19, 18, 17, 16, 15, 14, 13, 12, 11, 10, 9] [22, 23, 24] (fun _ => [(22, 302, _), (23, 303, _), (24, 304, _)]) rfl rfl (prs_cons (pri rfl (p_move rfl)) (prs_cons (pri rfl (p_nilCheck rfl)) (prs_cons (pri rfl (p_field0 fo76_7 rfl)) (prs_cons (pri rfl (p_load1 t27 rfl rfl (g_row1 (k := 0) rfl rfl))) (prs_cons (pri rfl (p_move rfl)) (prs_cons (pri rfl (p_nilCheck rfl)) (prs_cons (pri rfl (p_field0 fo76_6 rfl)) (prs_cons (pri rfl (p_load1 t3 rfl rfl (g_row1 (k := 0) rfl rfl))) (prs_cons (pri rfl (p_bin rfl rfl (b_add (by first | exact w_i64 (by omega) (by omega) | rfl)))) (prs_cons (pri rfl (p_move rfl)) (prs_cons (pri rfl (p_move rfl)) (prs_cons (pri rfl (p_nilCheck rfl)) (prs_cons (pri rfl (p_field0 fo76_7 rfl)) (prs_cons (pri rfl (p_load1 t27 rfl rfl (g_row1 (k := 0) rfl rfl))) (prs_cons (pri rfl (p_len_sl Tryz.underlying27 rfl (hs_sl (k := 3) rfl))) (prs_cons (pri rfl (p_move rfl)) (prs_cons (pri rfl (p_nilCheck rfl)) (prs_cons (pri rfl (p_field0 fo76_6 rfl)) (prs_cons (pri rfl (p_load1 t3 rfl rfl (g_row1 (k := 0) rfl rfl))) (prs_cons (pri rfl (p_bin rfl rfl (b_sub (by first | exact w_i64 (by omega) (by omega) | rfl)))) (prs_cons (pri rfl (p_bin rfl rfl (b_sub (by first | exact w_i64 (by omega) (by omega) | rfl)))) prs_nil))))))))))))))))))))) rfl rfl rfl rfl rfl rfl rfl rfl rfl rfl rfl (fun _ _ => rfl) rfl (ms_callN (xs := [.tmp 289, .tmp 300]) (gnext_spec e.g e.vl vn e.vf e.c he.hl he.hlo (((e.F.length : Int) - (e.c.me : Int) - 1)) (by omega) (sa)) cb31 [0] [(false, 0)] [0] rfl rfl rfl rfl rfl rfl rfl rfl (fun _ _ => rfl) (fun _ _ _ => rfl)) (fun _ _ => stg_mem0 [22, 23, 24, 0, 1, 2, 3, 4, 5, 6, 7, 8] 26 [26, 25, 24, 23, 22, 21, 20, 19, 18, 17, 16, 15, 14, 13, 12, 11, 10, 9, 8, 7, 6, 5, 4, 3, 2, 1, 0] [] (fun _ => []) rfl rfl (prs_cons (pri rfl (p_bin rfl rfl (b_add (by first | exact w_i64 (by omega) (by omega) | rfl)))) (prs_cons (pri rfl (p_idx_sl (j := jf) Tryz.underlying27 t63 rfl rfl (hs_sl (k := 3) rfl) hjf hjl)) (prs_cons (pri rfl (p_loadA t63 rfl rfl rfl (g_el' (hs_sl (k := 3) rfl) (by intro _; rfl) hfj (by rfl)))) (prs_cons (pri rfl (p_move rfl)) (prs_cons (pri rfl (p_nilCheck rfl)) (prs_cons (pri rfl (p_field0 fo76_7 rfl)) (prs_cons (pri rfl (p_load1 t27 rfl rfl (g_row1 (k := 0) rfl rfl))) (prs_cons (pri rfl (p_move rfl)) (prs_cons (pri rfl (p_nilCheck rfl)) (prs_cons (pri rfl (p_field0 fo76_6 rfl)) (prs_cons (pri rfl (p_load1 t3 rfl rfl (g_row1 (k := 0) rfl rfl))) (prs_cons (pri rfl (p_bin rfl rfl (b_add (by first | exact w_i64 (by omega) (by omega) | rfl)))) prs_nil)))))))))))) rfl rfl rfl rfl rfl rfl rfl rfl rfl (fun _ _ => rfl) rfl (ms_store_all (k := 18) t63 rfl rfl rfl rfl rfl rfl) (fun _ _ => stg_end [] rfl rfl prs_nil rfl rfl rfl ?_)))) nx_nil)))
           ·refine r_here (f, (gN e.c.l ((e.F.length : Int) - (e.c.me : Int) - 1) sa).2, b18) ⟨List.mem_of_getElem? hfj, (gN e.c.l ((e.F.length : Int) - (e.c.me : Int) - 1) sa).1, rfl, by rw [he.fs, List.getElem?_map, show ((e.c.me : Int) + 1 + (gN e.c.l ((e.F.length : Int) - (e.c.me : Int) - 1) sa).1).toNat = jf by omega, hfj]; rfl⟩ rfl rfl rfl
           ·refine r_here (f, (gN e.c.l ((e.F.length : Int) - (e.c.me : Int) - 1) sa).2, b18) ⟨List.mem_of_getElem? hfj, (gN e.c.l ((e.F.length : Int) - (e.c.me : Int) - 1) sa).1, rfl, by rw [he.fs, List.getElem?_map, show ((e.c.me : Int) + 1 + (gN e.c.l ((e.F.length : Int) - (e.c.me : Int) - 1) sa).1).toNat = jf by omega, hfj]; rfl⟩ rfl rfl rfl
          ·obtain ⟨f2, s2b, b18⟩ := y
           obtain ⟨hfm, jn, hjn, hfx⟩ := hy
           dsimp only at hfm hjn hfx ⊢
           obtain ⟨j10, s3b, hj10⟩ : ∃ a b, gN e.c.l 8 s2b = (a, b) := ⟨_, _, rfl⟩
           have hn3 : s3b.names = sa.names := (gN_st2 hj10).1.trans (gN_st2 hjn).1
           refine r_seq_cut (X := Tf × Gs) (fun y => y.1 ∈ e.F ∧ y.2.names = sa.names ∧ ((j10 ≠ 7 ∧ e.c.fs[((e.c.me : Int) + 1 + jn).toNat]? = some (y.1.name, y.1.ps) ∧ y.2 = s3b) ∨ (j10 = 7 ∧ ∃ j3, gN e.c.l ((e.c.fs.length : Int) - 1) s3b = (j3, y.2) ∧ e.c.fs[(1 + j3).toNat]? = some (y.1.name, y.1.ps)))) (fun y => [(0, .pointer (some ⟨e.g, 0, none⟩)), (1, .int .i64 (4 - (lev : Int))), (5, sv vo), (6, .int .i64 (many : Int)), (7, .int .i64 (i : Int)), (18, .pointer (some ⟨b18, 0, none⟩))]) (fun y => [(0, row e.g 76 (gRow e.vl (y.2) vn e.c.me e.vf)), (1, own 9 1 eS (sv vn) sa.names), (60, own 53 5 eTy (sv vo) out), (40, ysA out), (18, row b18 63 (eTf y.1))]) (fun y => [(0, sl 1 eI (sv e.vl) e.c.l), (2, tfsA e.vf e.F), (3, sl 3 eTf (sv e.vf) e.F)]) ?_ (fun y hy => ?_)
           ·refine r_seq (r_region (r_p (p_move rfl) rfl ?_))
            refine r_callN (xs := [.tmp 305, .const (.int .i64 8)]) (gnext_spec e.g e.vl vn e.vf e.c he.hl he.hlo (8) (by decide) (s2b)) cb31 [0] [(false, 0)] [0] rfl rfl rfl rfl rfl rfl rfl rfl (fun _ _ => rfl) (fun _ _ _ => rfl) rfl (fun _ _ => ?_)
            rw [hj10]
            dsimp only
            refine r_p (p_bin rfl rfl b_eq) rfl ?_
            refine r_nil ?_
            refine r_cond rfl (fun h66 => ?_) (fun h66 => ?_)
            ·(try simp only [decide_eq_true_eq, decide_eq_false_iff_not, Bool.and_eq_true, Bool.or_eq_true, Bool.and_eq_false_iff, Bool.or_eq_false_iff, Bool.not_eq_true, Bool.not_eq_false, Bool.not_eq_true', Bool.not_eq_false', Bool.not_not, bne_iff_ne, beq_iff_eq] at h66)
             have h10 : j10 = 7 := h66
             have hjb3 := gN_bnd e.c.l (n := (e.F.length : Int) - 1) (by omega) s3b
             obtain ⟨jg, hjg⟩ : ∃ jg : Nat, (1 : Int) + (gN e.c.l ((e.F.length : Int) - 1) s3b).1 = (jg : Int) := ⟨((1 : Int) + (gN e.c.l ((e.F.length : Int) - 1) s3b).1).toNat, by omega⟩
             have hjgl : jg < e.F.length := by omega
             obtain ⟨f5, hgj⟩ : ∃ f, e.F[jg]? = some f := ⟨_, List.getElem?_eq_getElem hjgl⟩
             refine r_draw [308, 309, 310, 311, 312, 313, 314, 315, 316, 317, 318, 319, 320, 321, 322] _ rfl (stg_mem (V := [(0, 308, _), (1, 309, _), (2, 310, _), (3, 311, _), (4, 312, _), (5, 313, _), (6, 314, _), (7, 315, _), (8, 316, _), (9, 317, _), (10, 318, _)]) [0, 1, 2, 3, 4, 5, 6, 7, 8, 9, 10] 11 [11, 10, 9, 8, 7, 6, 5, 4] [12, 13, 14] (fun _ => [(12, 320, _), (13, 321, _), (14, 322, _)]) rfl rfl (prs_cons (pri rfl (p_move rfl)) (prs_cons (pri rfl (p_nilCheck rfl)) (prs_cons (pri rfl (p_field0 fo76_7 rfl)) (prs_cons (pri rfl (p_load1 t27 rfl rfl (g_row1 (k := 0) rfl rfl))) (prs_cons (pri rfl (p_move rfl)) (prs_cons (pri rfl (p_move rfl)) (prs_cons (pri rfl (p_nilCheck rfl)) (prs_cons (pri rfl (p_field0 fo76_7 rfl)) (prs_cons (pri rfl (p_load1 t27 rfl rfl (g_row1 (k := 0) rfl rfl))) (prs_cons (pri rfl (p_len_sl Tryz.underlying27 rfl (hs_sl (k := 3) rfl))) (prs_cons (pri rfl (p_bin rfl rfl (b_sub (by first | exact w_i64 (by omega) (by omega) | rfl)))) prs_nil))))))))))) rfl rfl rfl rfl rfl rfl rfl rfl rfl rfl rfl (fun _ _ => rfl) rfl (ms_callN (xs := [.tmp 312, .tmp 318]) (gnext_spec e.g e.vl vn e.vf e.c he.hl he.hlo (((e.F.length : Int) - 1)) (by omega) (s3b)) cb31 [0] [(false, 0)] [0] rfl rfl rfl rfl rfl rfl rfl rfl (fun _ _ => rfl) (fun _ _ _ => rfl)) (fun _ _ => stg_mem0 [12, 13, 14, 0, 1, 2, 3] 15 [15, 14, 13, 12, 11, 10, 9, 8, 7, 6, 5, 4, 3, 2, 1, 0] [] (fun _ => []) rfl rfl (prs_cons (pri rfl (p_bin rfl rfl (b_add (by first | exact w_i64 (by omega) (by omega) | rfl)))) (prs_cons (pri rfl (p_idx_sl (j := jg) Tryz.underlying27 t63 rfl rfl (hs_sl (k := 3) rfl) hjg hjgl)) (prs_cons (pri rfl (p_loadA t63 rfl rfl rfl (g_el' (hs_sl (k := 3) rfl) (by intro _; rfl) hgj (by rfl)))) (prs_cons (pri rfl (p_move rfl)) (prs_cons (pri rfl (p_nilCheck rfl)) (prs_cons (pri rfl (p_field0 fo76_7 rfl)) (prs_cons (pri rfl (p_load1 t27 rfl rfl (g_row1 (k := 0) rfl rfl))) prs_nil))))))) rfl rfl rfl rfl rfl rfl rfl rfl rfl (fun _ _ => rfl) rfl (ms_store_all (k := 18) t63 rfl rfl rfl rfl rfl rfl) (fun _ _ => stg_end [] rfl rfl prs_nil rfl rfl rfl ?_)))
             refine r_here (f5, (gN e.c.l ((e.F.length : Int) - 1) s3b).2) ⟨List.mem_of_getElem? hgj, (gN_keep _ _ _).1.trans hn3, .inr ⟨h10, (gN e.c.l ((e.F.length : Int) - 1) s3b).1, by rw [hfl], by rw [he.fs, List.getElem?_map, show ((1 : Int) + (gN e.c.l ((e.F.length : Int) - 1) s3b).1).toNat = jg by omega, hgj]; rfl⟩⟩ rfl rfl rfl
            ·(try simp only [decide_eq_true_eq, decide_eq_false_iff_not, Bool.and_eq_true, Bool.or_eq_true, Bool.and_eq_false_iff, Bool.or_eq_false_iff, Bool.not_eq_true, Bool.not_eq_false, Bool.not_eq_true', Bool.not_eq_false', Bool.not_not, bne_iff_ne, beq_iff_eq] at h66)
             have h10 : j10 ≠ 7 := h66
             refine r_skip ?_
             refine r_here (f2, s3b) ⟨hfm, hn3, .inl ⟨h10, hfx, rfl⟩⟩ rfl rfl rfl
           ·obtain ⟨f4, s4b⟩ := y
            obtain ⟨hf4, hn4, hff⟩ := hy
            dsimp only at hf4 hn4 hff ⊢
            refine r_region (r_p (p_move rfl) rfl (r_p (p_move rfl) rfl ?_))
            refine r_p (p_loadA t63 rfl rfl rfl (g_all (k := 18) rfl)) rfl ?_
            refine r_callN (xs := [.tmp 324, .tmp 325, .const (.int .i64 3)]) (gc_own he 1 (by decide) vn s4b f4 hf4 (by rw [hn4]; exact hin)) cb50 [0] [(false, 0), (true, 1), (false, 2)] [0, 326] rfl rfl rfl rfl rfl (by rw [hn4]; rfl) rfl rfl (fun _ _ => rfl) (fun _ _ _ => rfl) rfl (fun ⟨t1, s5⟩ ht1 => ?_)
            dsimp only at ht1 ⊢
            refine r_bslice1 eTx t1 Tryz.underlying46 t48 rfl (by decide) (by decide) rfl rfl rfl rfl fun v327 => ?_
            refine r_p (p_build (parts := [(0, .const (.int .i64 8)), (2, .tmp 327)]) t53 pl53 rfl rfl) rfl ?_
            refine r_bslice1 eTy (.mk 8 oNil v327 [t1] nilS [] nilS []) Tryz.underlying51 t53 rfl (by decide) (by decide) rfl rfl rfl rfl fun v329 => ?_
            refine r_append 60 Tryz.underlying51 t53 rfl (by decide) (fun _ => rfl) (fun _ => rfl) rfl rfl rfl (hs_own (k := 329) rfl) (by simp only [List.length_append, List.length_cons, List.length_nil]; omega) (by unfold maxLen; simp only [List.length_append, List.length_cons, List.length_nil]; omega) rfl fun v330 => ?_
            refine r_p (p_assign rfl) rfl (r_nil (r_region (r_p (p_move rfl) rfl ?_)))
            refine r_p (p_bin rfl rfl (b_add (by first | exact w_i64 (by omega) (by omega) | rfl))) rfl ?_
            refine r_p (p_assign rfl) rfl (r_nil ?_)
            have hg1 : G1r e.c (lev) k sa (erYs [.mk 8 oNil v327 [t1] nilS [] nilS []]) (s5) := h9.1 ▸ .dos (by rw [hfl]; exact h9.2) (by rw [hfl]; exact hjn) hj10 hff ht1
            have hkp := hg1.inv hia
            refine r_collect 40 [40, 327, 326] (C := ysA (out ++ [.mk 8 oNil v327 [t1] nilS [] nilS []])) rfl st1_all ?_
            refine r_here ⟨i + 1, v330, out ++ [.mk 8 oNil v327 [t1] nilS [] nilS []], s5, vn⟩ ⟨⟨by dsimp only; omega, hkp.inv, by dsimp only; rw [List.length_append]; simp only [List.length_cons, List.length_nil]; omega, by dsimp only; rw [erYs_app]; exact gl_next hi2 hleft hk hg1 n4⟩, by dsimp only; omega⟩ rfl (by dsimp only; rw [show s5.names = sa.names from ht1.keep.1.trans hn4]; rfl) rfl
         ·(try simp only [decide_eq_true_eq, decide_eq_false_iff_not, Bool.and_eq_true, Bool.or_eq_true, Bool.and_eq_false_iff, Bool.or_eq_false_iff, Bool.not_eq_true, Bool.not_eq_false, Bool.not_eq_true', Bool.not_eq_false', Bool.not_not, bne_iff_ne, beq_iff_eq] at h65)
          have q9 : ¬ (k = 9 ∧ e.c.me + 1 < e.F.length) := by rintro ⟨h1, h2⟩; rcases h65 with h | h; exact h h1; omega
          refine r_region (r_p (p_move rfl) rfl (r_p (p_move rfl) rfl ?_))
          refine r_callN (xs := [.tmp 45, .const (.int .i64 4)]) (gx_own he 3 (by decide) vn sa hin) cb49 [0] [(false, 0), (true, 1), (false, 2)] [0, 46] rfl rfl rfl rfl rfl rfl rfl rfl (fun _ _ => rfl) (fun _ _ _ => rfl) rfl (fun ⟨t1, s2⟩ ht1 => ?_)
          dsimp only at ht1 ⊢
          refine r_bslice1 eTx t1 Tryz.underlying46 t48 rfl (by decide) (by decide) rfl rfl rfl rfl fun v47 => ?_
          refine r_p (p_build (parts := [(0, .const (.int .i64 7)), (2, .tmp 47)]) t53 pl53 rfl rfl) rfl ?_
          refine r_bslice1 eTy (yOut v47 t1) Tryz.underlying51 t53 rfl (by decide) (by decide) rfl rfl rfl rfl fun v49 => ?_
          refine r_append 60 Tryz.underlying51 t53 rfl (by decide) (fun _ => rfl) (fun _ => rfl) rfl rfl rfl (hs_own (k := 49) rfl) (by simp only [List.length_append, List.length_cons, List.length_nil]; omega) (by unfold maxLen; simp only [List.length_append, List.length_cons, List.length_nil]; omega) rfl fun v50 => ?_
          refine r_p (p_assign rfl) rfl (r_nil (r_region (r_p (p_move rfl) rfl ?_)))
          refine r_p (p_bin rfl rfl (b_add (by first | exact w_i64 (by omega) (by omega) | rfl))) rfl ?_
          refine r_p (p_assign rfl) rfl (r_nil ?_)
          have hg1 : G1r e.c (lev) k sa (erYs [yOut v47 t1]) (s2) := .out q2 q3 q4.1 q4.2 (fun h => q5 h) (fun h => q7 h) (.inl ⟨h8, rfl⟩) (fun h => q9 ⟨h.1, by rw [← hfl]; exact h.2⟩) ht1
          have hkp := hg1.inv hia
          refine r_collect 40 [40, 47, 46] (C := ysA (out ++ [yOut v47 t1])) rfl st1_all ?_
          refine r_here ⟨i + 1, v50, out ++ [yOut v47 t1], s2, vn⟩ ⟨⟨by dsimp only; omega, hkp.inv, by dsimp only; rw [List.length_append]; simp only [List.length_cons, List.length_nil]; omega, by dsimp only; rw [erYs_app]; exact gl_next hi2 hleft hk hg1 n4⟩, by dsimp only; omega⟩ rfl (by dsimp only; rw [show s2.names = sa.names from ht1.keep.1]; rfl) rfl
 ·(try simp only [decide_eq_true_eq, decide_eq_false_iff_not, Bool.and_eq_true, Bool.or_eq_true, Bool.and_eq_false_iff, Bool.or_eq_false_iff, Bool.not_eq_true, Bool.not_eq_false, Bool.not_eq_true', Bool.not_eq_false', Bool.not_not, bne_iff_ne, beq_iff_eq] at h6)
  have hend : GLr e.c lev (many - i) s [] s := by
   by_cases hh : i < many
   ·refine .stop ?_
    rcases h6 with h | h
    ·omega
    ·omega
   ·rw [show many - i = 0 by omega]; exact .zero
  have hfin := n4 _ _ hend
  rw [List.append_nil] at hfin
  refine r_exit (r_seq (r_region (r_p (p_move rfl) rfl (r_p (p_assign rfl) rfl (r_nil (r_cret ?_))))))
  refine r_ret (vo, out, s, vn) ⟨.mk hj0 (by rw [hmany]; exact hfin), by dsimp only; omega⟩ rfl (rs1 (rv_tmp rfl)) rfl [0, 1, 60, 40] [] rfl rfl rfl
theorem hgy_all {e : Ge} (he : Gfine e) : ∀ lev, lev ≤ 3 → HGY e lev
 | 0, h => fun s vn hi => gstmts_step e he 0 h (fun k hk => by omega) s vn hi
 | lev + 1, h => fun s vn hi => gstmts_step e he (lev + 1) h (fun k hk => (show lev = k by omega) ▸ hgy_all he lev (by omega)) s vn hi
theorem erX_mk {t : Tx} {k n : Int} {nm : ByteArray} {ps : List Px} (h : erX t = .mk k n nm ps) : ∃ v kids, t = .mk k n nm v kids ∧ erXs kids = ps := by
 cases t with
 | mk k2 n2 nm2 v kids =>
  rw [erX] at h
  injection h with h1 h2 h3 h4
  subst h1; subst h2; subst h3
  exact ⟨v, kids, rfl, h4⟩
theorem erXs_nil {ts : List Tx} (h : erXs ts = []) : ts = [] := by
 cases ts with
 | nil => rfl
 | cons t r => rw [erXs] at h; cases h
theorem erXs_cons {ts : List Tx} {p : Px} {ps : List Px} (h : erXs ts = p :: ps) : ∃ t r, ts = t :: r ∧ erX t = p ∧ erXs r = ps := by
 cases ts with
 | nil => rw [erXs] at h; cases h
 | cons t r => rw [erXs] at h; injection h with h1 h2; exact ⟨t, r, rfl, h1, h2⟩
theorem erXs_one {ts : List Tx} {p : Px} (h : erXs ts = [p]) : ∃ t, ts = [t] ∧ erX t = p := by
 obtain ⟨t, r, rfl, h1, h2⟩ := erXs_cons h
 rw [erXs_nil h2]
 exact ⟨t, rfl, h1⟩
theorem erXs_two {ts : List Tx} {p q : Px} (h : erXs ts = [p, q]) : ∃ t u, ts = [t, u] ∧ erX t = p ∧ erX u = q := by
 obtain ⟨t, r, rfl, h1, h2⟩ := erXs_cons h
 obtain ⟨u, rfl, h3⟩ := erXs_one h2
 exact ⟨t, u, rfl, h1, h3⟩
theorem erY_mk {t : Ty} {k : Int} {nm : ByteArray} {es : List Px} {bs ls : List Py} (h : erY t = .mk k nm es bs ls) : ∃ v xs vb b vl l, t = .mk k nm v xs vb b vl l ∧ erXs xs = es ∧ erYs b = bs ∧ erYs l = ls := by
 cases t with
 | mk k2 nm2 v xs vb b vl l =>
  rw [erY] at h
  injection h with h1 h2 h3 h4 h5
  subst h1; subst h2
  exact ⟨v, xs, vb, b, vl, l, rfl, h3, h4, h5⟩
theorem erYs_nil {ts : List Ty} (h : erYs ts = []) : ts = [] := by
 cases ts with
 | nil => rfl
 | cons t r => rw [erYs] at h; cases h
theorem erYs_cons {ts : List Ty} {p : Py} {ps : List Py} (h : erYs ts = p :: ps) : ∃ t r, ts = t :: r ∧ erY t = p ∧ erYs r = ps := by
 cases ts with
 | nil => rw [erYs] at h; cases h
 | cons t r => rw [erYs] at h; injection h with h1 h2; exact ⟨t, r, rfl, h1, h2⟩
theorem erYs_one {ts : List Ty} {p : Py} (h : erYs ts = [p]) : ∃ t, ts = [t] ∧ erY t = p := by
 obtain ⟨t, r, rfl, h1, h2⟩ := erYs_cons h
 rw [erYs_nil h2]
 exact ⟨t, rfl, h1⟩
theorem erYs_split : ∀ {a : List Py} {b : List Py} {ts : List Ty}, erYs ts = a ++ b → ∃ u v, ts = u ++ v ∧ erYs u = a ∧ erYs v = b
 | [], b, ts, h => ⟨[], ts, rfl, by rw [erYs], h⟩
 | x :: a, b, ts, h => by
  obtain ⟨t, r, rfl, h1, h2⟩ := erYs_cons h
  obtain ⟨u, v, rfl, h3, h4⟩ := erYs_split h2
  exact ⟨t :: u, v, rfl, by rw [erYs, h1, h3], h4⟩
theorem GYs_app : ∀ {a b : List Ty}, GYs a → GYs b → GYs (a ++ b)
 | [], _, _, hb => hb
 | _ :: _, _, ha, hb => ⟨ha.1, GYs_app ha.2 hb⟩
theorem leaf_gx {k n : Int} {nm : ByteArray} {v : SV} (d : Nat) (hn : oW n) (hm : nmB nm) : GX (.mk k n nm v []) ∧ nX (.mk k n nm v []) ≤ 5 ^ (d + 1) :=
 ⟨⟨hn, hm, Nat.zero_le _, trivial⟩, by rw [nX, nXs]; exact Nat.one_le_pow _ _ (by decide)⟩
theorem pow5 (d : Nat) : 5 ^ (d + 1 + 1) = 5 * 5 ^ (d + 1) ∧ 5 ≤ 5 ^ (d + 1) := by
 have h1 : 1 ≤ 5 ^ d := Nat.one_le_pow _ _ (by decide)
 have h2 : 5 ^ (d + 1) = 5 ^ d * 5 := Nat.pow_succ ..
 have h3 : 5 ^ (d + 1 + 1) = 5 ^ (d + 1) * 5 := Nat.pow_succ ..
 omega
theorem one_gx {k n : Int} {nm : ByteArray} {v : SV} {d : Nat} {t : Tx} (hn : oW n) (hm : nmB nm) (h : GX t ∧ nX t ≤ 5 ^ (d + 1)) : GX (.mk k n nm v [t]) ∧ nX (.mk k n nm v [t]) ≤ 5 ^ (d + 1 + 1) :=
 ⟨⟨hn, hm, by show 1 ≤ 1000000; decide, h.1, trivial⟩, by rw [nX, nXs, nXs]; have := pow5 d; have := h.2; omega⟩
theorem two_gx {k n : Int} {nm : ByteArray} {v : SV} {d : Nat} {t u : Tx} (hn : oW n) (hm : nmB nm) (h : GX t ∧ nX t ≤ 5 ^ (d + 1)) (h2 : GX u ∧ nX u ≤ 5 ^ (d + 1)) : GX (.mk k n nm v [t, u]) ∧ nX (.mk k n nm v [t, u]) ≤ 5 ^ (d + 1 + 1) :=
 ⟨⟨hn, hm, by show 2 ≤ 1000000; decide, h.1, h2.1, trivial⟩, by rw [nX, nXs, nXs, nXs]; have := pow5 d; have := h.2; have := h2.2; omega⟩
theorem cL_oW {x : Int} {j : Nat} (h : cL[j]? = some x) : oW x := by
 have h1 := List.mem_of_getElem? h
 simp only [cL, List.mem_cons, List.not_mem_nil, or_false] at h1
 rcases h1 with rfl | rfl | rfl | rfl | rfl | rfl | rfl | rfl | rfl | rfl | rfl | rfl | rfl | rfl | rfl <;> decide
theorem unL_nm {x : ByteArray} {j : Nat} (h : unL[j]? = some x) : nmB x := by
 have h1 := List.mem_of_getElem? h
 simp only [unL, List.mem_cons, List.not_mem_nil, or_false] at h1
 rcases h1 with rfl | rfl | rfl <;> exact nmB_of rfl
theorem biL_nm {x : ByteArray} {j : Nat} (h : biL[j]? = some x) : nmB x := by
 have h1 := List.mem_of_getElem? h
 simp only [biL, List.mem_cons, List.not_mem_nil, or_false] at h1
 rcases h1 with rfl | rfl | rfl | rfl | rfl | rfl | rfl | rfl | rfl | rfl | rfl | rfl | rfl | rfl | rfl | rfl <;> exact nmB_of rfl
theorem fresh_nm {x : ByteArray} {j : Nat} (h : freshL[j]? = some x) : nmB x := by
 have h1 := List.mem_of_getElem? h
 simp only [freshL, List.mem_cons, List.not_mem_nil, or_false] at h1
 rcases h1 with rfl | rfl | rfl | rfl | rfl | rfl | rfl | rfl <;> exact nmB_of rfl
def Nm (s : Gs) : Prop := ∀ x ∈ s.names, nmB x
theorem Nm.same {s s' : Gs} (h : Nm s) (k : s'.names = s.names) : Nm s' := by unfold Nm; rw [k]; exact h
def Cok (c : Gc) : Prop := ∀ f ∈ c.fs, nmB f.1 ∧ f.2.length ≤ 4
mutual
theorem GXr.gx {c : Gc} (hc : Cok c) : ∀ {d : Nat} {s s' : Gs} {p : Px}, GXr c d s p s' → Nm s → ∀ t, erX t = p → GX t ∧ nX t ≤ 5 ^ (d + 1)
 | d, s, _, _, .nam hk h hn hj hx, hs, t, ht => by
  obtain ⟨v, kids, rfl, hkk⟩ := erX_mk ht
  cases erXs_nil hkk
  exact leaf_gx d oW0 (hs _ ((gK_st hk).1 ▸ List.mem_of_getElem? hx))
 | d, s, _, _, .inp hk, hs, t, ht => by
  obtain ⟨v, kids, rfl, hkk⟩ := erX_mk ht
  cases erXs_nil hkk
  exact leaf_gx d oW0 (nmB_of rfl)
 | _, s, _, _, .mem hk h hp, hs, t, ht => by
  obtain ⟨v, kids, rfl, hkk⟩ := erX_mk ht
  obtain ⟨t1, rfl, h1⟩ := erXs_one hkk
  exact one_gx oW0 (nmB_of rfl) (hp.gx hc (hs.same (gK_st hk).1) t1 h1)
 | _, s, _, _, .una hk hj hx hp, hs, t, ht => by
  obtain ⟨v, kids, rfl, hkk⟩ := erX_mk ht
  obtain ⟨t1, rfl, h1⟩ := erXs_one hkk
  exact one_gx oW0 (unL_nm hx) (hp.gx hc ((hs.same (gK_st hk).1).same (gN_st2 hj).1) t1 h1)
 | d + 1, s, _, _, .call hk h hj hx hp, hs, t, ht => by
  obtain ⟨v, kids, rfl, hkk⟩ := erX_mk ht
  have hf := hc _ (List.mem_of_getElem? hx)
  obtain ⟨h1, h2, h3⟩ := hp.gx hc ((hs.same (gK_st hk).1).same (gN_st2 hj).1) kids hkk
  refine ⟨⟨oW0, hf.1, by omega, h1⟩, ?_⟩
  rw [nX]
  have := pow5 d
  have h4 : _ * 5 ^ (d + 1) ≤ 4 * 5 ^ (d + 1) := Nat.mul_le_mul_right _ hf.2
  omega
 | _, s, _, _, .bin hk h hj hx hp hq, hs, t, ht => by
  obtain ⟨v, kids, rfl, hkk⟩ := erX_mk ht
  obtain ⟨t1, t2, rfl, h1, h2⟩ := erXs_two hkk
  have hs2 := (hs.same (gK_st hk).1).same (gN_st2 hj).1
  exact two_gx oW0 (biL_nm hx) (hp.gx hc hs2 t1 h1) (hq.gx hc (hs2.same hp.keep.1) t2 h2)
 | d, s, _, _, .con hk h1 h3 h4 h5 h6 h7 h8 hj hx, hs, t, ht => by
  obtain ⟨v, kids, rfl, hkk⟩ := erX_mk ht
  cases erXs_nil hkk
  exact leaf_gx d (cL_oW hx) (nmB_of rfl)
theorem GKr.gx {c : Gc} (hc : Cok c) : ∀ {d n : Nat} {s s' : Gs} {ps : List Px}, GKr c d n s ps s' → Nm s → ∀ ts, erXs ts = ps → GXs ts ∧ nXs ts ≤ n * 5 ^ (d + 1) ∧ ts.length = n
 | d, _, s, _, _, .nil, hs, ts, ht => by
  cases erXs_nil ht
  exact ⟨trivial, by rw [nXs]; exact Nat.zero_le _, rfl⟩
 | d, n + 1, s, _, _, .cons hp hq, hs, ts, ht => by
  obtain ⟨t, r, rfl, h1, h2⟩ := erXs_cons ht
  obtain ⟨a1, a2⟩ := hp.gx hc hs t h1
  obtain ⟨b1, b2, b3⟩ := hq.gx hc (hs.same hp.keep.1) r h2
  refine ⟨⟨a1, b1⟩, ?_, by rw [List.length_cons, b3]⟩
  rw [nXs, Nat.succ_mul]
  omega
end
theorem GCr.gx {c : Gc} (hc : Cok c) {d : Nat} {f : ByteArray × List ByteArray} {s s' : Gs} {p : Px} (hf : f ∈ c.fs) (h : GCr c d f s p s') (hs : Nm s) (t : Tx) (ht : erX t = p) : GX t ∧ nX t ≤ 5 ^ (d + 1 + 1) := by
 obtain ⟨ps, h1, rfl⟩ := h
 obtain ⟨v, kids, rfl, hkk⟩ := erX_mk ht
 obtain ⟨h1, h2, h3⟩ := h1.gx hc hs kids hkk
 have h5 := hc f hf
 refine ⟨⟨oW0, h5.1, by omega, h1⟩, ?_⟩
 rw [nX]
 have := pow5 d
 have h4 : f.2.length * 5 ^ (d + 1) ≤ 4 * 5 ^ (d + 1) := Nat.mul_le_mul_right _ h5.2
 omega
/-- What is said of statements. -/
def Sok (s s' : Gs) (m : Int) (ts : List Ty) : Prop := GYs ts ∧ (nYs ts : Int) ≤ 4000 * (s.left - s'.left) + m ∧ Nm s'
theorem es1_ok {k : Int} {nm : ByteArray} {v : SV} {t : Tx} {d : Nat} (hm : nmB nm) (h : GX t ∧ nX t ≤ 5 ^ (d + 1)) (hd : d ≤ 3) {vb vl : SV} : GY (.mk k nm v [t] vb [] vl []) ∧ nY (.mk k nm v [t] vb [] vl []) ≤ 626 := by
 refine ⟨⟨hm, ⟨by show 1 ≤ 1000000; decide, h.1, trivial⟩, ⟨Nat.zero_le _, trivial⟩, Nat.zero_le _, trivial⟩, ?_⟩
 rw [nY, nXs, nXs, nYs]
 have h5 : 5 ^ (d + 1) ≤ 5 ^ 4 := Nat.pow_le_pow_right (by decide) (by omega)
 have := h.2
 omega
theorem one_sok {s s' : Gs} {t : Ty} (h : GY t ∧ nY t ≤ 2000) (hl : s'.left ≤ s.left) (hn : Nm s') : Sok s s' 4000 [t] := by
 refine ⟨⟨h.1, trivial⟩, ?_, hn⟩
 rw [nYs, nYs]
 have := h.2
 omega
mutual
theorem GYr.gy {c : Gc} (hc : Cok c) : ∀ {e : Nat} {s s' : Gs} {o : List Py}, GYr c e s o s' → GInv s → Nm s → ∀ ts, erYs ts = o → Sok s s' 0 ts ∧ ts.length ≤ 10
 | _, s, s', _, .mk (s1 := s1) hj h, hi, hs, ts, ht => by
  have k := gN_st2 hj
  obtain ⟨⟨h1, h2, h3⟩, h4⟩ := h.gy hc (hi.same k) (hs.same k.1) ts ht
  have := gN_bd (by decide) hj
  exact ⟨⟨h1, by rw [← k.2.1]; exact h2, h3⟩, by omega⟩
theorem GLr.gy {c : Gc} (hc : Cok c) : ∀ {e n : Nat} {s s' : Gs} {o : List Py}, GLr c e n s o s' → GInv s → Nm s → ∀ ts, erYs ts = o → Sok s s' 0 ts ∧ ts.length ≤ 2 * n
 | _, _, s, _, _, .zero, hi, hs, ts, ht => by
  cases erYs_nil ht
  exact ⟨⟨trivial, by rw [nYs]; omega, hs⟩, Nat.zero_le _⟩
 | _, _, s, _, _, .stop _, hi, hs, ts, ht => by
  cases erYs_nil ht
  exact ⟨⟨trivial, by rw [nYs]; omega, hs⟩, Nat.zero_le _⟩
 | _, n + 1, s, s3, _, .step (s1 := s1) (s2 := s2) hl hk h1 h2, hi, hs, ts, ht => by
  obtain ⟨u, v, rfl, hu, hv⟩ := erYs_split ht
  have hi2 : GInv { s with left := s.left - 1 } := ⟨hi.v0, hi.v8, hi.nm, by show s.left - 1 ≤ 1000; have := hi.lf; omega⟩
  have k := gN_st2 hk
  have hi3 := hi2.same k
  have hs3 : Nm s1 := Nm.same (s := { s with left := s.left - 1 }) hs k.1
  obtain ⟨⟨a1, a2, a3⟩, a4⟩ := h1.gy hc hi3 hs3 u hu
  obtain ⟨⟨b1, b2, b3⟩, b4⟩ := h2.gy hc (h1.inv hi3).inv a3 v hv
  refine ⟨⟨GYs_app a1 b1, ?_, b3⟩, ?_⟩
  ·rw [nYs_app]
   have k2 : s1.left = s.left - 1 := k.2.1
   omega
  ·rw [List.length_append]; omega
theorem G1r.gy {c : Gc} (hc : Cok c) : ∀ {e : Nat} {k : Int} {s s' : Gs} {o : List Py}, G1r c e k s o s' → GInv s → Nm s → ∀ ts, erYs ts = o → Sok s s' 4000 ts ∧ ts.length ≤ 2
 | _, _, s, _, _, .var (s1 := s1) (x := x) _ hx hv hp, hi, hs, ts, ht => by
  obtain ⟨t, rfl, hty⟩ := erYs_one ht
  obtain ⟨v, xs, vb, b, vl, l, rfl, h1, h2, h3⟩ := erY_mk hty
  obtain ⟨t1, rfl, e1⟩ := erXs_one h1
  cases erYs_nil h2
  cases erYs_nil h3
  have hg := hp.gx hc (s := { s with vars := s.vars + 1 }) hs t1 e1
  have hk := hp.keep
  have hy := es1_ok (k := 1) (v := v) (vb := vb) (vl := vl) (fresh_nm hx) hg (by decide)
  refine ⟨one_sok ⟨hy.1, by have := hy.2; omega⟩ (by show s1.left ≤ s.left; rw [hk.2.1]; exact Int.le_refl _) ?_, by show 1 ≤ 2; decide⟩
  intro y hy
  rcases List.mem_append.1 hy with hy | hy
  ·exact hs _ (hk.1 ▸ hy)
  ·rw [List.mem_singleton.1 hy]; exact fresh_nm hx
 | _, _, s, _, _, .set hn hj hx hp, hi, hs, ts, ht => by
  obtain ⟨t, rfl, hty⟩ := erYs_one ht
  obtain ⟨v, xs, vb, b, vl, l, rfl, h1, h2, h3⟩ := erY_mk hty
  obtain ⟨t1, rfl, e1⟩ := erXs_one h1
  cases erYs_nil h2
  cases erYs_nil h3
  have kj := gN_st2 hj
  have hs1 := hs.same kj.1
  have hg := hp.gx hc hs1 t1 e1
  have hk := keep_tr kj hp.keep
  have hy := es1_ok (k := 2) (v := v) (vb := vb) (vl := vl) (hs _ (List.mem_of_getElem? hx)) hg (by decide)
  exact ⟨one_sok ⟨hy.1, by have := hy.2; omega⟩ (by rw [hk.2.1]; exact Int.le_refl _) (hs.same hk.1), by show 1 ≤ 2; decide⟩
 | _, _, s, _, _, .put hk hp hq, hi, hs, ts, ht => by
  obtain ⟨t, rfl, hty⟩ := erYs_one ht
  obtain ⟨v, xs, vb, b, vl, l, rfl, h1, h2, h3⟩ := erY_mk hty
  obtain ⟨t1, t2, rfl, e1, h4⟩ := erXs_two h1
  cases erYs_nil h2
  cases erYs_nil h3
  have hg1 := hp.gx hc hs t1 e1
  have hg2 := hq.gx hc (hs.same hp.keep.1) t2 h4
  have hk := keep_tr hp.keep hq.keep
  refine ⟨one_sok ⟨⟨nmB_of rfl, ⟨by show 2 ≤ 1000000; decide, hg1.1, hg2.1, trivial⟩, ⟨Nat.zero_le _, trivial⟩, Nat.zero_le _, trivial⟩, ?_⟩ (by rw [hk.2.1]; exact Int.le_refl _) (hs.same hk.1), by show 1 ≤ 2; decide⟩
  rw [nY, nXs, nXs, nXs, nYs]
  have := hg1.2; have := hg2.2
  omega
 | _, _, s, s4, _, .iff1 (s1 := s1) (s2 := s2) (s3 := s3) hp ha hj hb, hi, hs, ts, ht => by
  obtain ⟨t, rfl, hty⟩ := erYs_one ht
  obtain ⟨v, xs, vb, b, vl, l, rfl, h1, h2, h3⟩ := erY_mk hty
  obtain ⟨t1, rfl, e1⟩ := erXs_one h1
  have hg1 := hp.gx hc hs t1 e1
  have hi1 := hi.same hp.keep
  have hs1 := hs.same hp.keep.1
  obtain ⟨⟨a1, a2, a3⟩, a4⟩ := ha.gy hc hi1 hs1 b h2
  have kj := gN_st2 hj
  have hi2 := (ha.inv hi1).inv
  have hi3 := hi2.same kj
  obtain ⟨⟨b1, b2, b3⟩, b4⟩ := hb.gy hc hi3 (a3.same kj.1) l h3
  refine ⟨⟨⟨⟨nmB_of rfl, ⟨by show 1 ≤ 1000000; decide, hg1.1, trivial⟩, ⟨by omega, a1⟩, by omega, b1⟩, trivial⟩, ?_, b3⟩, by show 1 ≤ 2; decide⟩
  rw [nYs, nYs, nY, nXs, nXs]
  have := hg1.2; have := hp.keep.2.1; have := kj.2.1
  omega
 | _, _, s, s4, _, .iff0 (s1 := s1) (s2 := s2) hp ha hj _, hi, hs, ts, ht => by
  obtain ⟨t, rfl, hty⟩ := erYs_one ht
  obtain ⟨v, xs, vb, b, vl, l, rfl, h1, h2, h3⟩ := erY_mk hty
  obtain ⟨t1, rfl, e1⟩ := erXs_one h1
  cases erYs_nil h3
  have hg1 := hp.gx hc hs t1 e1
  have hi1 := hi.same hp.keep
  have hs1 := hs.same hp.keep.1
  obtain ⟨⟨a1, a2, a3⟩, a4⟩ := ha.gy hc hi1 hs1 b h2
  have kj := gN_st2 hj
  refine ⟨⟨⟨⟨nmB_of rfl, ⟨by show 1 ≤ 1000000; decide, hg1.1, trivial⟩, ⟨by omega, a1⟩, Nat.zero_le _, trivial⟩, trivial⟩, ?_, a3.same kj.1⟩, by show 1 ≤ 2; decide⟩
  rw [nYs, nYs, nY, nXs, nXs, nYs]
  have := hg1.2; have := hp.keep.2.1; have := kj.2.1
  omega
 | _, _, s, _, _, .whi (s1 := s1) (s2 := s2) (x := x) (j := j) hx hv hj ha, hi, hs, ts, ht => by
  obtain ⟨t, r, rfl, hty, hr⟩ := erYs_cons ht
  obtain ⟨u, rfl, hu⟩ := erYs_one hr
  obtain ⟨v, xs, vb, b, vl, l, rfl, h1, h2, h3⟩ := erY_mk hty
  obtain ⟨t1, rfl, e1⟩ := erXs_one h1
  cases erYs_nil h2
  cases erYs_nil h3
  obtain ⟨v', xs', vb', b', vl', l', rfl, h1', h2', h3'⟩ := erY_mk hu
  obtain ⟨t1', rfl, e1'⟩ := erXs_one h1'
  cases erYs_nil h3'
  obtain ⟨b1, b2, rfl, hb1, hb2⟩ := erYs_split h2'
  obtain ⟨t2, rfl, eb2⟩ := erYs_one hb2
  obtain ⟨v3, xs3, vb3, b3, vl3, l3, rfl, g1, g2, g3⟩ := erY_mk eb2
  obtain ⟨t3, rfl, eg1⟩ := erXs_one g1
  cases erYs_nil g2
  cases erYs_nil g3
  obtain ⟨v4, kids4, rfl, g4⟩ := erX_mk eg1
  obtain ⟨t5, t6, rfl, g5, g6⟩ := erXs_two g4
  obtain ⟨v5, kids5, rfl, eg5⟩ := erX_mk g5
  cases erXs_nil eg5
  obtain ⟨v6, kids6, rfl, eg6⟩ := erX_mk g6
  cases erXs_nil eg6
  obtain ⟨v7, kids7, rfl, e7⟩ := erX_mk e1
  cases erXs_nil e7
  obtain ⟨v8, kids8, rfl, e8⟩ := erX_mk e1'
  cases erXs_nil e8
  have hm := fresh_nm hx
  have kj := gN_st2 hj
  have hjb := gN_bd (by decide) hj
  have hi1 := hi.var hv
  have hi2 := hi1.same kj
  have hs2 : Nm s1 := Nm.same (s := { s with vars := s.vars + 1 }) hs kj.1
  obtain ⟨⟨a1, a2, a3⟩, a4⟩ := ha.gy hc hi2 hs2 b1 hb1
  have hj0 : oW j := ⟨hjb.1, by omega⟩
  have hn : GX (.mk 2 0 x v8 []) := ⟨oW0, hm, Nat.zero_le _, trivial⟩
  have hn5 : GX (.mk 2 0 x v5 []) := ⟨oW0, hm, Nat.zero_le _, trivial⟩
  have hn6 : GX (.mk 1 1 oNil v6 []) := ⟨by decide, nmB_of rfl, Nat.zero_le _, trivial⟩
  have hd : GX (.mk 7 0 oSub v4 [.mk 2 0 x v5 [], .mk 1 1 oNil v6 []]) := ⟨oW0, nmB_of rfl, by show 2 ≤ 1000000; decide, hn5, hn6, trivial⟩
  have hdy : GY (.mk 2 x v3 [.mk 7 0 oSub v4 [.mk 2 0 x v5 [], .mk 1 1 oNil v6 []]] vb3 [] vl3 []) := ⟨hm, ⟨by show 1 ≤ 1000000; decide, hd, trivial⟩, ⟨Nat.zero_le _, trivial⟩, Nat.zero_le _, trivial⟩
  refine ⟨⟨⟨⟨hm, ⟨by show 1 ≤ 1000000; decide, ⟨hj0, nmB_of rfl, Nat.zero_le _, trivial⟩, trivial⟩, ⟨Nat.zero_le _, trivial⟩, Nat.zero_le _, trivial⟩, ⟨nmB_of rfl, ⟨by show 1 ≤ 1000000; decide, hn, trivial⟩, ⟨by rw [List.length_append, List.length_singleton]; omega, GYs_app a1 ⟨hdy, trivial⟩⟩, Nat.zero_le _, trivial⟩, trivial⟩, ?_, ?_⟩, by show 2 ≤ 2; decide⟩
  ·simp only [nYs, nY, nXs, nX, nYs_app]
   have k1 : s1.left = s.left := kj.2.1
   show _ ≤ 4000 * (s.left - s2.left) + 4000
   omega
  ·intro y hy
   rcases List.mem_append.1 hy with hy | hy
   ·exact a3 _ hy
   ·rw [List.mem_singleton.1 hy]; exact hm
 | _, _, s, _, _, .ret hj hp, hi, hs, ts, ht => by
  obtain ⟨t, rfl, hty⟩ := erYs_one ht
  obtain ⟨v, xs, vb, b, vl, l, rfl, h1, h2, h3⟩ := erY_mk hty
  obtain ⟨t1, rfl, e1⟩ := erXs_one h1
  cases erYs_nil h2
  cases erYs_nil h3
  have kj := gN_st2 hj
  have hg := hp.gx hc (hs.same kj.1) t1 e1
  have hk := keep_tr kj hp.keep
  have hy := es1_ok (k := 6) (v := v) (vb := vb) (vl := vl) (nm := oNil) (nmB_of rfl) hg (by decide)
  exact ⟨one_sok ⟨hy.1, by have := hy.2; omega⟩ (by rw [hk.2.1]; exact Int.le_refl _) (hs.same hk.1), by show 1 ≤ 2; decide⟩
 | _, _, s, _, _, .dos (s2 := s2) (s3 := s3) (f := f) h hj hj2 hf hp, hi, hs, ts, ht => by
  obtain ⟨t, rfl, hty⟩ := erYs_one ht
  obtain ⟨v, xs, vb, b, vl, l, rfl, h1, h2, h3⟩ := erY_mk hty
  obtain ⟨t1, rfl, e1⟩ := erXs_one h1
  cases erYs_nil h2
  cases erYs_nil h3
  have k1 : s3.names = s2.names ∧ s3.left = s2.left ∧ s3.vars = s2.vars := by
   rcases hf with ⟨_, _, h⟩ | ⟨_, j3, h, _⟩
   ·rw [h]; exact ⟨rfl, rfl, rfl⟩
   ·exact gN_st2 h
  have hfm : f ∈ c.fs := by
   rcases hf with ⟨_, h, _⟩ | ⟨_, j3, _, h⟩ <;> exact List.mem_of_getElem? h
  have kj := keep_tr (keep_tr (gN_st2 hj) (gN_st2 hj2)) k1
  have hg := hp.gx hc hfm (hs.same kj.1) t1 e1
  have hk := keep_tr kj hp.keep
  have hy := es1_ok (k := 8) (v := v) (vb := vb) (vl := vl) (nm := oNil) (d := 2) (nmB_of rfl) hg (by decide)
  exact ⟨one_sok ⟨hy.1, by have := hy.2; omega⟩ (by rw [hk.2.1]; exact Int.le_refl _) (hs.same hk.1), by show 1 ≤ 2; decide⟩
 | _, _, s, _, _, .out (s1 := s1) _ _ _ _ _ _ h8 _ hp, hi, hs, ts, ht => by
  obtain ⟨t, rfl, hty⟩ := erYs_one ht
  obtain ⟨v, xs, vb, b, vl, l, rfl, h1, h2, h3⟩ := erY_mk hty
  obtain ⟨t1, rfl, e1⟩ := erXs_one h1
  cases erYs_nil h2
  cases erYs_nil h3
  have k1 : s1.names = s.names ∧ s1.left = s.left ∧ s1.vars = s.vars := by
   rcases h8 with ⟨_, h⟩ | ⟨_, j, _, h⟩
   ·rw [h]; exact ⟨rfl, rfl, rfl⟩
   ·exact gN_st2 h
  have hg := hp.gx hc (hs.same k1.1) t1 e1
  have hk := keep_tr k1 hp.keep
  have hy := es1_ok (k := 7) (v := v) (vb := vb) (vl := vl) (nm := oNil) (nmB_of rfl) hg (by decide)
  exact ⟨one_sok ⟨hy.1, by have := hy.2; omega⟩ (by rw [hk.2.1]; exact Int.le_refl _) (hs.same hk.1), by show 1 ≤ 2; decide⟩
end
mutual
theorem GYr.left0 {c : Gc} : ∀ {e : Nat} {s s' : Gs} {o : List Py}, GYr c e s o s' → 0 ≤ s.left → 0 ≤ s'.left
 | _, _, _, _, .mk hj h, hi => h.left0 (by rw [(gN_st2 hj).2.1]; exact hi)
theorem GLr.left0 {c : Gc} : ∀ {e n : Nat} {s s' : Gs} {o : List Py}, GLr c e n s o s' → 0 ≤ s.left → 0 ≤ s'.left
 | _, _, _, _, _, .zero, hi => hi
 | _, _, _, _, _, .stop _, hi => hi
 | _, _, s, _, _, .step hl hk h1 h2, hi => h2.left0 (h1.left0 (by rw [(gN_st2 hk).2.1]; show 0 ≤ s.left - 1; omega))
theorem G1r.left0 {c : Gc} : ∀ {e : Nat} {k : Int} {s s' : Gs} {o : List Py}, G1r c e k s o s' → 0 ≤ s.left → 0 ≤ s'.left
 | _, _, s, _, _, .var (s1 := s1) _ _ _ hp, hi => by show 0 ≤ s1.left; rw [hp.keep.2.1]; exact hi
 | _, _, _, _, _, .set _ hj _ hp, hi => by rw [(keep_tr (gN_st2 hj) hp.keep).2.1]; exact hi
 | _, _, _, _, _, .put _ hp hq, hi => by rw [(keep_tr hp.keep hq.keep).2.1]; exact hi
 | _, _, _, _, _, .iff1 hp ha hj hb, hi => hb.left0 (by rw [(gN_st2 hj).2.1]; exact ha.left0 (by rw [hp.keep.2.1]; exact hi))
 | _, _, _, _, _, .iff0 hp ha hj _, hi => by rw [(gN_st2 hj).2.1]; exact ha.left0 (by rw [hp.keep.2.1]; exact hi)
 | _, _, s, _, _, .whi (s2 := s2) _ _ hj ha, hi => by show 0 ≤ s2.left; exact ha.left0 (by rw [(gN_st2 hj).2.1]; exact hi)
 | _, _, _, _, _, .ret hj hp, hi => by rw [(keep_tr (gN_st2 hj) hp.keep).2.1]; exact hi
 | _, _, s, _, _, .dos (s2 := s2) (s3 := s3) _ hj hj2 hf hp, hi => by
  have k1 : s3.names = s2.names ∧ s3.left = s2.left ∧ s3.vars = s2.vars := by
   rcases hf with ⟨_, _, h⟩ | ⟨_, j3, h, _⟩
   ·rw [h]; exact ⟨rfl, rfl, rfl⟩
   ·exact gN_st2 h
  rw [(keep_tr (keep_tr (keep_tr (gN_st2 hj) (gN_st2 hj2)) k1) hp.keep).2.1]; exact hi
 | _, _, s, _, _, .out (s1 := s1) _ _ _ _ _ _ h8 _ hp, hi => by
  have k1 : s1.names = s.names ∧ s1.left = s.left ∧ s1.vars = s.vars := by
   rcases h8 with ⟨_, h⟩ | ⟨_, j, _, h⟩
   ·rw [h]; exact ⟨rfl, rfl, rfl⟩
   ·exact gN_st2 h
  rw [(keep_tr k1 hp.keep).2.1]; exact hi
end
/-- The names of functions and of parameters. -/
def hNames : List ByteArray := [nMain, ⟨#[102]⟩, ⟨#[103]⟩, ⟨#[116, 119, 101, 108, 118, 101, 108, 101, 116, 116, 101, 114]⟩]
def pNames : List ByteArray := [⟨#[112]⟩, ⟨#[113]⟩, ⟨#[114]⟩, ⟨#[115]⟩]
/-- The head of function i. -/
def hd1 (l : List Int) (i : Nat) (s : Gs) : (ByteArray × List ByteArray) × Gs :=
 let q := if 0 < i then gN l 5 s else (0, s)
 ((hNames.getD i oNil, pNames.take q.1.toNat), q.2)
/-- The first i heads. -/
def hds (l : List Int) (s : Gs) : Nat → List (ByteArray × List ByteArray) × Gs
 | 0 => ([], s)
 | i + 1 => let r := hds l s i; let q := hd1 l i r.2; (r.1 ++ [q.1], q.2)
def gs0 : Gs := ⟨0, 0, 0, 0, []⟩
/-- The bodies of the first i functions. -/
inductive GBr (l : List Int) (fs : List (ByteArray × List ByteArray)) (s0 : Gs) : Nat → List Pf → Gs → Prop
 | zero : GBr l fs s0 0 [] s0
 | step {i : Nat} {ps : List Pf} {s s2 : Gs} {f : ByteArray × List ByteArray} {b : List Py} (h : GBr l fs s0 i ps s) (hf : fs[i]? = some f) (hb : GYr ⟨l, i, fs⟩ 3 { s with left := 8, nodes := 150, vars := 0, names := f.2 } b s2) : GBr l fs s0 (i + 1) (ps ++ [⟨f.1, f.2, b⟩]) s2
def gMany (l : List Int) : Nat := (1 + (gN l 4 gs0).1).toNat
def gHds (l : List Int) : List (ByteArray × List ByteArray) × Gs := hds l (gN l 4 gs0).2 (gMany l)
/-- The programs that a list of numbers determines. -/
def GMr (l : List Int) (ps : List Pf) : Prop := ∃ s, GBr l (gHds l).1 (gHds l).2 (gMany l) ps s
theorem hNames_nm (i : Nat) : nmB (hNames.getD i oNil) := by
 rcases i with _ | _ | _ | _ | i <;> exact nmB_of rfl
theorem pNames_nm : ∀ x ∈ pNames, nmB x := by
 intro x hx
 simp only [pNames, List.mem_cons, List.not_mem_nil, or_false] at hx
 rcases hx with rfl | rfl | rfl | rfl <;> exact nmB_of rfl
theorem hds_len (l : List Int) (s : Gs) : ∀ i, (hds l s i).1.length = i
 | 0 => rfl
 | i + 1 => by rw [hds]; simp only [List.length_append, List.length_singleton, hds_len l s i]
def Hok (f : ByteArray × List ByteArray) : Prop := nmB f.1 ∧ f.2.length ≤ 4 ∧ ∀ x ∈ f.2, nmB x
theorem hd1_ok (l : List Int) (i : Nat) (s : Gs) : Hok (hd1 l i s).1 :=
 ⟨hNames_nm i, by unfold hd1; rw [List.length_take]; exact Nat.min_le_right _ _, fun x hx => pNames_nm x (List.mem_of_mem_take hx)⟩
theorem hds_ok (l : List Int) (s : Gs) : ∀ i, ∀ f ∈ (hds l s i).1, Hok f
 | 0, f, h => by simp [hds] at h
 | i + 1, f, h => by
  rw [hds] at h
  rcases List.mem_append.1 h with h | h
  ·exact hds_ok l s i f h
  ·rw [List.mem_singleton.1 h]; exact hd1_ok _ _ _
theorem gMany_bd (l : List Int) : 1 ≤ gMany l ∧ gMany l ≤ 4 := by
 have := gN_bnd l (n := 4) (by decide) gs0
 unfold gMany
 omega
section
variable {P : Program} {N : Nat} {w0 : World} {M H : Nat → Prop} {E : Env} {Γ R : Ctx} {d : Nat} {T : TypeId} {ps : String} {af : Array Edge}
theorem ms_appendG {α : Type} {S U : TypeId} {D : TypeDesc} {z : Value} {s bb : Nat} {enc : α → List Value} {x y : Operand} {v v2 v0 : Value} {l l2 l0 : List α} (k : Nat) (hS : P.underlying S = some (.slice U)) (hU : TI P U D z s bb) (hzs : z.cells.size = s) (hs0 : 0 < s) (he : ∀ x, (enc x).length = s) (h1 : ∀ x, (enc x).all (·.oneCell') = true)
  (hx : ev E x = some v) (hy : ev E y = some v2) (hk : cget Γ k = some (own U s enc v0 l0)) (hown : ∀ w G, (own U s enc v0 l0).pred w G → (own U s enc v l).pred w G) (h2 : SlS w0 M H Γ R s enc v2 l2) (hm : (l.length + l2.length) * bb ≤ 140737488355328) (hm' : l.length + l2.length ≤ maxLen)
  : MS P N w0 M H E Γ R ⟨some d, .call { callee := .builtin .append, args := #[x, y], argTypes := #[S, S] }, T, ps, af, none⟩ (X := SV) (fun _ => True) (fun v' => sv v') (fun v' => (k, own U s enc (sv v') (l ++ l2)) :: Γ) (fun _ => R) := by
 refine ms_gen fun a w hE hC => ?_
 obtain ⟨G0, hp00, hlt0⟩ := hC.reads (.inl hk)
 have hp0 := hown _ _ hp00
 obtain ⟨G2, c, h3, h4, h5⟩ := h2 w hC
 obtain ⟨i, i1, i2, i3, i4⟩ := hU.info
 have hfl : ∀ l' : List α, (l'.flatMap enc).length = l'.length * s := flatMap_len he
 rcases h5 with ⟨rfl, _, rfl⟩ | ⟨b2, o2, rfl, _, hc2⟩
 ·obtain ⟨xv, rfl⟩ := ownsRow_sv hp0.2
  refine ⟨xv, w, trivial, ?_, ?_⟩
  ·have hr := run_append_owned_none (P := P) w 0 S T U i s hS i1 (sv xv) l.length _ hp0.2
   simp [execOp, resolve, invoke, builtin, hE.ev hx, hE.ev hy, hr]
  ·simp only [List.append_nil]
   exact hC.upd hk fun G hG0 hGlt => ⟨G, hown _ _ hG0, fun b hb => ⟨hGlt b hb, fun _ => hb⟩, Touch.refl _ _⟩
 ·obtain ⟨v', w', hr, ho, hg, hn⟩ := run_append_own (P := P) w 0 S T U i z s bb hS i1 i2 i3 i4 hzs hs0 v l.length _ hp0.2 ⟨b2, o2, none⟩ l2.length c (l2.flatMap enc) (hfl l2)
   (fun j u hj => by rw [add_lit']; exact hc2 j u hj) (fun u hu => by obtain ⟨x, _, hxu⟩ := List.mem_flatMap.1 hu; simpa using List.all_eq_true.1 (h1 x) u hxu) hm' hm (Nat.zero_le _)
  obtain ⟨xv, rfl⟩ := ownsRow_sv ho
  refine ⟨xv, w', trivial, ?_, ?_⟩
  ·simp [execOp, resolve, invoke, builtin, hE.ev hx, hE.ev hy, hr]
  ·refine hC.upd hk fun G hG0 hGlt => by
    have hG := hown _ _ hG0
    refine ⟨fun b => (sv xv).ownBlock = some b, ⟨fun x => Iff.rfl, ?_⟩, fun b hb => ⟨(ho.lt b hb).2, fun hlt => ?_⟩, ⟨hg.os, hg.tape, hg.output, hg.size, fun i hi hne => hg.block i hi (fun e => hne ((hG.1 i).2 e.symm))⟩⟩
    ·rw [List.length_append, List.flatMap_append]; exact ho
    ·rcases hp0.2.2 with ⟨rfl, hl0⟩ | ⟨g, cap, cur, rfl, hbg, hgg, hnc, hcm, hcs, htake⟩
     ·exfalso
      have hl : l = [] := List.eq_nil_of_length_eq_zero hl0
      subst hl
      by_cases hz : l2.length = 0
      ·have hl2 : l2 = [] := List.eq_nil_of_length_eq_zero hz
       subst hl2
       have := (hn.2 ⟨rfl, rfl⟩)
       rw [this] at hb
       simp [Value.ownBlock] at hb
      ·have hr2 := run_append_nil (P := P) w S T U i z hS i1 i2 ⟨b2, o2, none⟩ l2.length c (l2.flatMap enc) (by rw [hfl, i3]) (fun j u hj => by rw [add_lit']; exact hc2 j u hj) (by simpa using Nat.pos_of_ne_zero hz) (by simp only [maxLen] at hm'; simp at hm'; omega) (by rw [i4]; simp at hm; omega)
       rw [hr2] at hr
       injection hr with hr3 hr4
       replace hb : (sv xv).ownBlock = some b := hb
       rw [← hr3] at hb
       simp [Value.ownBlock] at hb
       omega
     ·by_cases hroom : l.length + l2.length ≤ cap
      ·have hfit : l.length * i.size + (l2.flatMap enc).length ≤ cur.size := by rw [hfl, hcs, i3, ← Nat.add_mul]; exact Nat.mul_le_mul_right _ hroom
       have hr2 := run_append_room (P := P) w S T U i hS i1 g l.length cap cur hgg ⟨b2, o2, none⟩ l2.length c (l2.flatMap enc) (by rw [hfl, i3]) (fun j u hj => by rw [add_lit']; exact hc2 j u hj) (fun u hu => by obtain ⟨x, _, hxu⟩ := List.mem_flatMap.1 hu; simpa using List.all_eq_true.1 (h1 x) u hxu) hroom hfit
       rw [hr2] at hr
       injection hr with hr3 hr4
       replace hb : (sv xv).ownBlock = some b := hb
       rw [← hr3] at hb
       simp [Value.ownBlock] at hb
       subst hb
       exact (hG.1 g).2 rfl
      ·exfalso
       have holds := hp0.2.cells (g := g) rfl
       have hr2 := run_append_grow (P := P) w S T U i z hS i1 i2 ⟨g, 0, none⟩ l.length cap (l.flatMap enc) (by rw [hfl, i3]) holds ⟨b2, o2, none⟩ l2.length c (l2.flatMap enc) (by rw [hfl, i3]) (fun j u hj => by rw [add_lit']; exact hc2 j u hj) (by omega) (by simp only [maxLen] at hm'; omega) (growslice_fits (by omega) (by rw [i4]; exact hm))
       rw [hr2] at hr
       injection hr with hr3 hr4
       replace hb : (sv xv).ownBlock = some b := hb
       rw [← hr3] at hb
       simp [Value.ownBlock] at hb
       omega
end
/-- All parts of functions can be read. -/
def fsA (l : List Tf) : Asn := ⟨fun w F => ∀ f ∈ l, TfIn w F f, fun h hs f hf => (h f hf).stable hs⟩
/-- The heads that were made, and the functions that are finished. -/
def tgA (v : SV) (l o : List Tf) : Asn := ⟨fun w F => (SlIn' w F 3 eTf (sv v) l ∧ ∀ f ∈ l, TfIn w F f) ∧ ∀ f ∈ o, TfIn w F f, fun h hs => ⟨⟨h.1.1.stable hs, fun f hf => (h.1.2 f hf).stable hs⟩, fun f hf => (h.2 f hf).stable hs⟩⟩
theorem TfIn.up {w : World} {F G : Nat → Prop} {f : Tf} (h : TfIn w G f) (hs : ∀ b, G b → F b) : TfIn w F f := by
 obtain ⟨⟨A, a1, a2⟩, ⟨⟨B, b1, b2⟩, b3⟩⟩ := h
 exact ⟨⟨A, a1, fun b hb => hs b (a2 b hb)⟩, ⟨⟨B, b1, fun b hb => hs b (b2 b hb)⟩, TysIn.mono hs (fun _ _ => rfl) _ b3⟩⟩
theorem SlIn'.up {α : Type} {w : World} {F G : Nat → Prop} {s : Nat} {enc : α → List Value} {v : Value} {l : List α} (h : SlIn' w G s enc v l) (hs : ∀ b, G b → F b) : SlIn' w F s enc v l := by
 obtain ⟨A, a1, a2⟩ := h
 exact ⟨A, a1, fun b hb => hs b (a2 b hb)⟩
abbrev tfHd (nm : ByteArray) (v : SV) (ps : List ByteArray) : Tf := ⟨nm, v, ps, nilS, []⟩
theorem fs_add {l : List Tf} {nm : ByteArray} {v : SV} {ps : List ByteArray} (w : World) (F : Nat → Prop) (h : AllIn w F [fsA l, own 9 1 eS (sv v) ps]) : (fsA (l ++ [tfHd nm v ps])).pred w F := by
 obtain ⟨⟨_, a0, b0⟩, ⟨_, a1, b1⟩, _⟩ := h
 intro f hf
 rcases List.mem_append.1 hf with hf | hf
 ·exact (a0 f hf).up b0
 ·rw [List.mem_singleton.1 hf]
  exact ⟨own_in a1 b1, nil_in, trivial⟩
theorem tg_of {l : List Tf} {v : SV} (w : World) (F : Nat → Prop) (h : AllIn w F [own 63 3 eTf (sv v) l, fsA l]) : (tgA v l []).pred w F := by
 obtain ⟨⟨_, a0, b0⟩, ⟨_, a1, b1⟩, _⟩ := h
 exact ⟨⟨own_in a0 b0, fun f hf => (a1 f hf).up b1⟩, fun f hf => by simp at hf⟩
theorem tg_add {l o : List Tf} {v vb : SV} {f : Tf} {body : List Ty} (hf : f ∈ l) (w : World) (F : Nat → Prop) (h : AllIn w F [tgA v l o, own 53 5 eTy (sv vb) body, ysA body]) : (tgA v l (o ++ [⟨f.name, f.vp, f.ps, vb, body⟩])).pred w F := by
 obtain ⟨⟨_, a0, b0⟩, ⟨_, a1, b1⟩, ⟨_, a2, b2⟩, _⟩ := h
 refine ⟨⟨a0.1.1.up b0, fun f hf => (a0.1.2 f hf).up b0⟩, fun g hg => ?_⟩
 rcases List.mem_append.1 hg with hg | hg
 ·exact (a0.2 g hg).up b0
 ·rw [List.mem_singleton.1 hg]
  exact ⟨((a0.1.2 f hf).up b0).1, own_in a1 b1, ys_up a2 b2⟩
theorem tfs_of {l o : List Tf} {v vo : SV} (w : World) (F : Nat → Prop) (h : AllIn w F [own 63 3 eTf (sv vo) o, tgA v l o]) : (tfsA vo o).pred w F := by
 obtain ⟨⟨_, a0, b0⟩, ⟨_, a1, b1⟩, _⟩ := h
 exact ⟨own_in a0 b0, fun f hf => (a1.2 f hf).up b1⟩
theorem SlS.tg {w0 : World} {M H : Nat → Prop} {Γ R : Ctx} {k : Nat} {v : SV} {l o : List Tf} (h : cget Γ k = some (tgA v l o)) : SlS w0 M H Γ R 3 eTf (sv v) l := fun w hC => by
 obtain ⟨G, h1, _⟩ := hC.reads (.inl h)
 obtain ⟨A, a1, _⟩ := h1.1.1
 exact ⟨A, a1⟩
theorem SlS.tgp {w0 : World} {M H : Nat → Prop} {Γ R : Ctx} {k : Nat} {v : SV} {l o : List Tf} {f : Tf} (h : cget Γ k = some (tgA v l o)) (hf : f ∈ l) : SlS w0 M H Γ R 1 eS (sv f.vp) f.ps := fun w hC => by
 obtain ⟨G, h1, _⟩ := hC.reads (.inl h)
 obtain ⟨A, a1, _⟩ := (h1.1.2 f hf).1
 exact ⟨A, a1⟩
theorem tg2of2 {A : Asn} {v : SV} {l o : List Tf} : ∀ (i : Nat) (X : Asn), ([A, tfsA v l] : List Asn)[i]? = some X → ∃ Y, ([A, tgA v l o] : List Asn)[i]? = some Y ∧ ∀ w G, Y.pred w G → X.pred w G
 | 0, X, hX => ⟨A, rfl, by cases hX; exact fun _ _ h => h⟩
 | 1, X, hX => ⟨tgA v l o, rfl, by cases hX; exact fun _ _ h => h.1⟩
 | i + 2, X, hX => by simp at hX
/-- The contract of a function's block. -/
theorem gst_tg {e : Ge} (he : Gfine e) (o : List Tf) (s : Gs) (vn : SV) (hi : GInv s) : Spec Tryz.prog 32 [.pointer (some ⟨e.g, 0, none⟩), .int .i64 1] [row e.g 76 (gRow e.vl s vn e.c.me e.vf), own 9 1 eS (sv vn) s.names] [sl 1 eI (sv e.vl) e.c.l, tgA e.vf e.F o] (X := SV × List Ty × Gs × SV) (fun x => GYr e.c 3 s (erYs x.2.1) x.2.2.1 ∧ x.2.1.length ≤ 10) (fun x => sv x.1)
 (fun x => [row e.g 76 (gRow e.vl x.2.2.1 x.2.2.2 e.c.me e.vf), own 9 1 eS (sv x.2.2.2) x.2.2.1.names, own 53 5 eTy (sv x.1) x.2.1, ysA x.2.1]) (fun _ => []) :=
 Spec.roAll (hgy_all he 3 (by decide) s vn hi) tg2of2
structure Xh where
 i : Nat
 vf : SV
 F : List Tf
 s : Gs
structure Xbo where
 i : Nat
 vo : SV
 out : List Tf
 s : Gs
 vn : SV
 me : Nat
abbrev tfH (f : Tf) : ByteArray × List ByteArray := (f.name, f.ps)
theorem hds_next {l : List Int} {s0 s sb : Gs} {F : List Tf} {i jn : Nat} {nm : ByteArray} {jy : Int} {v : SV} (h : hds l s0 i = (F.map tfH, s)) (hnm : hNames[i]? = some nm) (hy : (jy, sb) = (if 0 < i then gN l 5 s else (0, s))) (hj : jy = (jn : Int)) : hds l s0 (i + 1) = ((F ++ [tfHd nm v (pNames.take jn)]).map tfH, sb) := by
 rw [hds]
 simp only [h, hd1]
 rw [← hy]
 simp only [List.map_append, List.map_cons, List.map_nil, tfH, tfHd]
 rw [List.getD_eq_getElem?_getD, hnm, hj]
 rfl
set_option maxHeartbeats 4000000 in
set_option maxRecDepth 100000 in
theorem made_spec (vl : SV) (l : List Int) (hl : l.length ≤ 1000) (hlo : ∀ x ∈ l, okI x) :
  Spec Tryz.prog 10 [sv vl] [] [sl 1 eI (sv vl) l] (X := SV × List Tf) (fun x => GMr l (x.2.map erF)) (fun x => .agg #[sv x.1]) (fun x => [tfsA x.1 x.2]) (fun _ => []) := by
 refine r_enter Tryz.func10 rfl Tryz.ntmps10 rfl fun w0 M H => ?_
 have hj0 := gN_bnd l (n := 4) (by decide) gs0
 have hmb := gMany_bd l
 refine r_seq (r_region ?_)
 refine r_alloc t29 rfl rfl fun b2 => ?_
 refine r_nil (r_seq (r_region (r_p (p_move rfl) rfl ?_)))
 refine r_p (p_build (parts := [(0, .tmp 12)]) t76 pl76 rfl rfl) rfl ?_
 refine r_boxA rfl rfl fun b14 => ?_
 refine r_p (p_assign rfl) rfl (r_nil (r_seq (r_region ?_)))
 refine r_bslice eS pNames (parts := [(0, .const (.string (ByteArray.mk #[112]))), (1, .const (.string (ByteArray.mk #[113]))), (2, .const (.string (ByteArray.mk #[114]))), (3, .const (.string (ByteArray.mk #[115])))]) Tryz.underlying58 t9 rfl (by decide) (by intro _; rfl) rfl (by decide) (by decide) rfl rfl rfl rfl fun v15 => ?_
 refine r_p (p_assign rfl) rfl (r_nil (r_seq (r_region ?_)))
 refine r_bslice eS hNames (parts := [(0, .const (.string (ByteArray.mk #[109, 97, 105, 110]))), (1, .const (.string (ByteArray.mk #[102]))), (2, .const (.string (ByteArray.mk #[103]))), (3, .const (.string (ByteArray.mk #[116, 119, 101, 108, 118, 101, 108, 101, 116, 116, 101, 114])))]) Tryz.underlying58 t9 rfl (by decide) (by intro _; rfl) rfl (by decide) (by decide) rfl rfl rfl rfl fun v16 => ?_
 refine r_p (p_assign rfl) rfl (r_nil (r_seq (r_region (r_p (p_move rfl) rfl ?_))))
 refine r_callN (xs := [.tmp 17, .const (.int .i64 4)]) (gnext_spec b14 vl nilS nilS ⟨l, 0, []⟩ hl hlo 4 (by decide) gs0) cb31 [14] [(false, 0)] [14] rfl rfl rfl rfl rfl rfl rfl rfl (fun _ _ => rfl) (fun _ _ _ => rfl) rfl (fun _ _ => ?_)
 refine r_p (p_bin rfl rfl (b_add (c := (gMany l : Int)) (by unfold gMany; rw [show (1 : Int) + (gN l 4 gs0).1 = (((1 + (gN l 4 gs0).1).toNat : Nat) : Int) by omega]; exact w_i64 (by omega) (by omega)))) rfl ?_
 refine r_p (p_assign rfl) rfl (r_nil (r_seq (r_seq (r_region (r_p (p_assign rfl) rfl (r_nil (r_block ?_)))))))
 refine r_nilown 60 (α := Tf) (S := 63) (s := 3) (enc := eTf) ?_
 refine r_collect 40 [] (L := []) (C := fsA []) rfl (fun _ _ _ f hf => by simp at hf) ?_
 refine r_loop (X := Xh) (fun x => x.i ≤ gMany l ∧ hds l (gN l 4 gs0).2 x.i = (x.F.map tfH, x.s) ∧ (∀ f ∈ x.F, f.vb = nilS ∧ f.body = [])) (fun x => [(2, .pointer (some ⟨b2, 0, none⟩)), (3, .pointer (some ⟨b14, 0, none⟩)), (4, sv v15), (5, sv v16), (6, .int .i64 (gMany l : Int)), (7, .int .i64 (x.i : Int))]) (fun x => [(2, row b2 29 [sv nilS]), (14, row b14 76 (gRow vl (x.s) nilS 0 x.vf)), (15, own 9 1 eS (sv v15) pNames), (16, own 9 1 eS (sv v16) hNames), (60, own 63 3 eTf (sv x.vf) x.F), (40, fsA x.F)]) (fun x => [(0, sl 1 eI (sv vl) l)]) (fun x => gMany l - x.i) ⟨0, nilS, [], (gN l 4 gs0).2⟩ ⟨Nat.zero_le _, rfl, fun f hf => by simp at hf⟩ rfl rfl rfl (fun x hx0 => ?_)
 obtain ⟨i, vf, F, s⟩ := x
 obtain ⟨n1, n2, n3⟩ := hx0
 dsimp only at n1 n2 n3 ⊢
 have hFl : F.length = i := by have h := hds_len l (gN l 4 gs0).2 i; rw [n2, List.length_map] at h; exact h
 refine r_seq (r_seq (r_region (r_p (p_move rfl) rfl (r_p (p_move rfl) rfl ?_))))
 refine r_p (p_bin rfl rfl b_lt) rfl ?_
 refine r_nil ?_
 refine r_cond rfl (fun h1 => ?_) (fun h1 => ?_)
 ·(try simp only [decide_eq_true_eq, decide_eq_false_iff_not, Bool.and_eq_true, Bool.or_eq_true, Bool.and_eq_false_iff, Bool.or_eq_false_iff, Bool.not_eq_true, Bool.not_eq_false, Bool.not_eq_true', Bool.not_eq_false', Bool.not_not, bne_iff_ne, beq_iff_eq] at h1)
  have hi2 : i < gMany l := by omega
  refine r_skip (r_seq (r_block (r_seq (r_region (r_p (p_assign rfl) rfl (r_nil ?_))))))
  refine r_seq_cut (X := Int × Gs) (fun y => y = (if 0 < i then gN l 5 s else (0, s))) (fun y => [(2, .pointer (some ⟨b2, 0, none⟩)), (3, .pointer (some ⟨b14, 0, none⟩)), (4, sv v15), (5, sv v16), (6, .int .i64 (gMany l : Int)), (7, .int .i64 (i : Int)), (8, .int .i64 y.1)]) (fun y => [(2, row b2 29 [sv nilS]), (14, row b14 76 (gRow vl (y.2) nilS 0 vf)), (15, own 9 1 eS (sv v15) pNames), (16, own 9 1 eS (sv v16) hNames), (60, own 63 3 eTf (sv vf) F), (40, fsA F)]) (fun y => [(0, sl 1 eI (sv vl) l)]) ?_ (fun y hy => ?_)
  ·refine r_seq (r_region (r_p (p_move rfl) rfl ?_))
   refine r_p (p_bin rfl rfl b_gt) rfl ?_
   refine r_nil ?_
   refine r_cond rfl (fun h2 => ?_) (fun h2 => ?_)
   ·(try simp only [decide_eq_true_eq, decide_eq_false_iff_not, Bool.and_eq_true, Bool.or_eq_true, Bool.and_eq_false_iff, Bool.or_eq_false_iff, Bool.not_eq_true, Bool.not_eq_false, Bool.not_eq_true', Bool.not_eq_false', Bool.not_not, bne_iff_ne, beq_iff_eq] at h2)
    have hi0 : 0 < i := by omega
    refine r_region (r_p (p_move rfl) rfl ?_)
    refine r_callN (xs := [.tmp 27, .const (.int .i64 5)]) (gnext_spec b14 vl nilS vf ⟨l, 0, []⟩ hl hlo 5 (by decide) s) cb31 [14] [(false, 0)] [14] rfl rfl rfl rfl rfl rfl rfl rfl (fun _ _ => rfl) (fun _ _ _ => rfl) rfl (fun _ _ => ?_)
    refine r_p (p_assign rfl) rfl (r_nil ?_)
    refine r_here (gN l 5 s) (by rw [if_pos hi0]) rfl rfl rfl
   ·(try simp only [decide_eq_true_eq, decide_eq_false_iff_not, Bool.and_eq_true, Bool.or_eq_true, Bool.and_eq_false_iff, Bool.or_eq_false_iff, Bool.not_eq_true, Bool.not_eq_false, Bool.not_eq_true', Bool.not_eq_false', Bool.not_not, bne_iff_ne, beq_iff_eq] at h2)
    have hi0 : ¬ 0 < i := by omega
    refine r_skip ?_
    refine r_here (0, s) (by rw [if_neg hi0]) rfl rfl rfl
  ·obtain ⟨jy, sb⟩ := y
   dsimp only
   have hjb : 0 ≤ jy ∧ jy ≤ 4 := by
    split at hy
    ·have := gN_bnd l (n := 5) (by decide) s
     have h := congrArg Prod.fst hy
     dsimp only at h
     omega
    ·have h := congrArg Prod.fst hy
     dsimp only at h
     omega
   obtain ⟨jn, hjn⟩ : ∃ jn : Nat, jy = (jn : Int) := ⟨jy.toNat, by omega⟩
   have hjl : jn ≤ pNames.length := by show jn ≤ 4; omega
   have hiN : i < hNames.length := by show i < 4; omega
   obtain ⟨nm, hnm⟩ : ∃ nm, hNames[i]? = some nm := ⟨_, List.getElem?_eq_getElem hiN⟩
   refine r_draw [29, 30, 31, 32, 33, 34, 35, 36, 37, 38, 39, 40, 41, 42, 43, 44, 45, 46, 47] _ rfl (stg_mem (V := [(0, 29, _), (1, 30, _), (2, 31, _), (3, 32, _), (4, 33, _), (5, 34, _), (6, 35, _), (7, 36, _), (8, 37, _), (10, 39, _), (11, 40, _), (12, 41, _)]) [0, 1, 2, 3, 4, 5, 6, 7, 8, 10, 11, 12] 9 [9] [] (fun v38 => []) rfl rfl (prs_cons (pri rfl (p_move rfl)) (prs_cons (pri rfl (p_move rfl)) (prs_cons (pri rfl (p_nilCheck rfl)) (prs_cons (pri rfl (p_field0 fo76_7 rfl)) (prs_cons (pri rfl (p_load1 t27 rfl rfl (g_row1 (k := 14) rfl rfl))) (prs_cons (pri rfl (p_move rfl)) (prs_cons (pri rfl (p_move rfl)) (prs_cons (pri rfl (p_idx_sl (j := i) Tryz.underlying58 t9 rfl rfl (hs_own (k := 16) rfl) rfl hiN)) (prs_cons (pri rfl (p_load1 t9 rfl rfl (g_el' (hs_own (k := 16) rfl) (by intro _; rfl) hnm (by rfl)))) (prs_cons (pri rfl (p_move rfl)) (prs_cons (pri rfl (p_move rfl)) (prs_cons (pri rfl (p_slice_hi (j := jn) Tryz.underlying58 t9 rfl rfl (hs_own (k := 15) rfl) hjn hjl)) prs_nil)))))))))))) rfl rfl rfl rfl rfl rfl rfl rfl rfl rfl rfl (fun _ _ => rfl) rfl (ms_bslice0 eS Tryz.underlying58 t9) (fun v38 _ => stg_mem [0, 1, 2, 3, 4, 5, 6, 7, 8, 10, 11, 12] 13 [13, 12, 11, 10, 9] [14] (fun v42 => [(14, 43, _)]) rfl rfl (prs_cons (pri rfl (p_move rfl)) (prs_cons (pri rfl (p_move rfl)) (prs_cons (pri rfl (p_nilCheck rfl)) (prs_cons (pri rfl (p_field0 fo76_7 rfl)) (prs_cons (pri rfl (p_load1 t27 rfl rfl (g_row1 (k := 14) rfl rfl))) (prs_cons (pri rfl (p_move rfl)) (prs_cons (pri rfl (p_move rfl)) (prs_cons (pri rfl (p_idx_sl (j := i) Tryz.underlying58 t9 rfl rfl (hs_own (k := 16) rfl) rfl hiN)) (prs_cons (pri rfl (p_load1 t9 rfl rfl (g_el' (hs_own (k := 16) rfl) (by intro _; rfl) hnm (by rfl)))) (prs_cons (pri rfl (p_move rfl)) (prs_cons (pri rfl (p_move rfl)) (prs_cons (pri rfl (p_slice_hi (j := jn) Tryz.underlying58 t9 rfl rfl (hs_own (k := 15) rfl) hjn hjl)) prs_nil)))))))))))) rfl rfl rfl rfl rfl rfl rfl rfl rfl rfl rfl (fun _ _ => rfl) rfl (ms_appendG 38 Tryz.underlying58 t9 rfl (by decide) (fun _ => rfl) (fun _ => rfl) rfl rfl rfl own_id (SlS.hi (SlS.of (hs_own (k := 15) rfl)) hjl) (by simp only [List.length_nil, List.length_take]; omega) (by unfold maxLen; simp only [List.length_nil, List.length_take]; omega)) (fun v42 _ => stg_mem [14, 0, 1, 2, 3, 4, 5, 6, 7, 8] 15 [15, 14, 13, 12, 11, 10, 9, 8, 7, 6, 5] [] (fun v44 => []) rfl rfl (prs_cons (pri rfl (p_build (parts := [(0, .tmp 37), (1, .tmp 42)]) t63 pl63 rfl rfl)) (prs_cons (pri rfl (p_move rfl)) (prs_cons (pri rfl (p_move rfl)) (prs_cons (pri rfl (p_nilCheck rfl)) (prs_cons (pri rfl (p_field0 fo76_7 rfl)) (prs_cons (pri rfl (p_load1 t27 rfl rfl (g_row1 (k := 14) rfl rfl))) (prs_cons (pri rfl (p_move rfl)) (prs_cons (pri rfl (p_move rfl)) (prs_cons (pri rfl (p_idx_sl (j := i) Tryz.underlying58 t9 rfl rfl (hs_own (k := 16) rfl) rfl hiN)) (prs_cons (pri rfl (p_load1 t9 rfl rfl (g_el' (hs_own (k := 16) rfl) (by intro _; rfl) hnm (by rfl)))) prs_nil)))))))))) rfl rfl rfl rfl rfl rfl rfl rfl rfl rfl rfl (fun _ _ => rfl) rfl (ms_bslice1 eTf (tfHd nm v42 (pNames.take jn)) Tryz.underlying27 t63 rfl (by decide) (by decide) rfl rfl rfl) (fun v44 _ => stg_mem [0, 1, 2, 3, 4] 16 [16, 15, 14, 13, 12, 11, 10, 9, 8, 7, 6, 5, 4, 3, 2, 1] [17, 18] (fun v45 => [(17, 46, _), (18, 47, _)]) rfl rfl (prs_cons (pri rfl (p_move rfl)) (prs_cons (pri rfl (p_move rfl)) (prs_cons (pri rfl (p_nilCheck rfl)) (prs_cons (pri rfl (p_field0 fo76_7 rfl)) (prs_cons (pri rfl (p_load1 t27 rfl rfl (g_row1 (k := 14) rfl rfl))) prs_nil))))) rfl rfl rfl rfl rfl rfl rfl rfl rfl rfl rfl (fun _ _ => rfl) rfl (ms_append 60 Tryz.underlying27 t63 rfl (by decide) (fun _ => rfl) (fun _ => rfl) rfl rfl rfl (hs_own (k := 44) rfl) (by simp only [List.length_singleton]; omega) (by unfold maxLen; simp only [List.length_singleton]; omega)) (fun v45 _ => stg_mem0 [17, 18, 0] 19 [19, 18, 17, 16, 15, 14, 13, 12, 11, 10, 9, 8, 7, 6, 5, 4, 3, 2, 1, 0] [] (fun _ => []) rfl rfl (prs_cons (pri rfl (p_nilCheck rfl)) (prs_cons (pri rfl (p_field0 fo76_7 rfl)) (prs_cons (pri rfl (p_move rfl)) prs_nil))) rfl rfl rfl rfl rfl rfl rfl rfl rfl (fun _ _ => rfl) rfl (ms_store_row (k := 14) t27 rfl rfl rfl rfl rfl rfl rfl rfl) (fun _ _ => stg_end [] rfl rfl prs_nil rfl rfl rfl ?_))))))
   refine r_region (r_p (p_move rfl) rfl ?_)
   refine r_p (p_bin rfl rfl (b_add (by first | exact w_i64 (by omega) (by omega) | rfl))) rfl ?_
   refine r_p (p_assign rfl) rfl (r_nil ?_)
   refine r_collect 40 [40, 38] (C := fsA (F ++ [tfHd nm v42 (pNames.take jn)])) rfl fs_add ?_
   refine r_here ⟨i + 1, v45, F ++ [tfHd nm v42 (pNames.take jn)], sb⟩ ⟨⟨by dsimp only; omega, hds_next n2 hnm hy hjn, fun f hf => by
     rcases List.mem_append.1 hf with hf | hf
     ·exact n3 f hf
     ·rw [List.mem_singleton.1 hf]; exact ⟨rfl, rfl⟩⟩, by dsimp only; omega⟩ rfl rfl rfl
 ·(try simp only [decide_eq_true_eq, decide_eq_false_iff_not, Bool.and_eq_true, Bool.or_eq_true, Bool.and_eq_false_iff, Bool.or_eq_false_iff, Bool.not_eq_true, Bool.not_eq_false, Bool.not_eq_true', Bool.not_eq_false', Bool.not_not, bne_iff_ne, beq_iff_eq] at h1)
  have hie : i = gMany l := by omega
  have hH : gHds l = (F.map tfH, s) := by rw [← n2, hie]; rfl
  have hFh : (gHds l).1 = F.map fun f => (f.name, f.ps) := by rw [hH]
  have hs0 : (gHds l).2 = s := by rw [hH]
  have hps : ∀ f ∈ F, f.ps.length ≤ 100 := fun f hf => by
   have h := hds_ok l (gN l 4 gs0).2 i (tfH f) (by rw [n2]; exact List.mem_map_of_mem hf)
   have := h.2.1
   show (tfH f).2.length ≤ 100
   omega
  refine r_exit (r_seq (r_region ?_))
  refine r_p (p_build (parts := []) t29 pl29 rfl rfl) rfl ?_
  refine r_alloc t29 rfl rfl fun b9 => ?_
  refine r_store_all (k := 9) t29 rfl rfl rfl rfl rfl rfl ?_
  refine r_nil (r_seq (r_seq (r_region (r_p (p_assign rfl) rfl (r_nil (r_block ?_))))))
  refine r_collect 43 [60, 40] (C := tgA vf F []) rfl tg_of ?_
  refine r_nilown 60 (α := Tf) (S := 63) (s := 3) (enc := eTf) ?_
  refine r_loop (X := Xbo) (fun x => x.i ≤ gMany l ∧ GBr l (gHds l).1 (gHds l).2 x.i (x.out.map erF) x.s ∧ x.out.length = x.i) (fun x => [(2, .pointer (some ⟨b2, 0, none⟩)), (3, .pointer (some ⟨b14, 0, none⟩)), (6, .int .i64 (gMany l : Int)), (9, .pointer (some ⟨b9, 0, none⟩)), (10, .int .i64 (x.i : Int))]) (fun x => [(2, row b2 29 [sv nilS]), (14, row b14 76 (gRow vl (x.s) x.vn x.me vf)), (9, row b9 29 [sv x.vo]), (60, own 63 3 eTf (sv x.vo) x.out), (43, tgA vf F x.out)]) (fun x => [(0, sl 1 eI (sv vl) l)]) (fun x => gMany l - x.i) ⟨0, nilS, [], s, nilS, 0⟩ ⟨Nat.zero_le _, hs0 ▸ .zero, rfl⟩ rfl rfl rfl (fun x hx0 => ?_)
  obtain ⟨i, vo, out, s1, vn, me⟩ := x
  obtain ⟨m1, m2, m3⟩ := hx0
  dsimp only at m1 m2 m3 ⊢
  refine r_seq (r_seq (r_region (r_p (p_move rfl) rfl (r_p (p_move rfl) rfl ?_))))
  refine r_p (p_bin rfl rfl b_lt) rfl ?_
  refine r_nil ?_
  refine r_cond rfl (fun h3 => ?_) (fun h3 => ?_)
  ·(try simp only [decide_eq_true_eq, decide_eq_false_iff_not, Bool.and_eq_true, Bool.or_eq_true, Bool.and_eq_false_iff, Bool.or_eq_false_iff, Bool.not_eq_true, Bool.not_eq_false, Bool.not_eq_true', Bool.not_eq_false', Bool.not_not, bne_iff_ne, beq_iff_eq] at h3)
   have hi3 : i < gMany l := by omega
   have hiF : i < F.length := by omega
   obtain ⟨f, hfi⟩ : ∃ f, F[i]? = some f := ⟨_, List.getElem?_eq_getElem hiF⟩
   have hfm := List.mem_of_getElem? hfi
   have hfp := hps f hfm
   have hsi : GInv { s1 with left := 8, nodes := 150, vars := 0, names := f.ps } := ⟨Int.le_refl _, by show (0 : Int) ≤ 8; decide, by show (f.ps.length : Int) ≤ 100 + 0; omega, by show (8 : Int) ≤ 1000; decide⟩
   refine r_skip (r_seq (r_block (r_seq (r_region (r_p (p_move rfl) rfl (r_p (p_move rfl) rfl (r_p (p_nilCheck rfl) rfl ?_)))))))
   refine r_p (p_field0 fo76_6 rfl) rfl ?_
   refine r_store_row (k := 14) t3 rfl rfl rfl rfl rfl rfl rfl rfl ?_
   refine r_nil (r_seq (r_region (r_p (p_move rfl) rfl (r_p (p_nilCheck rfl) rfl ?_))))
   refine r_p (p_field0 fo76_2 rfl) rfl ?_
   refine r_store_row (k := 14) t3 rfl rfl rfl rfl rfl rfl rfl rfl ?_
   refine r_nil (r_seq (r_region (r_p (p_move rfl) rfl (r_p (p_nilCheck rfl) rfl ?_))))
   refine r_p (p_field0 fo76_3 rfl) rfl ?_
   refine r_store_row (k := 14) t3 rfl rfl rfl rfl rfl rfl rfl rfl ?_
   refine r_nil (r_seq (r_region (r_p (p_move rfl) rfl (r_p (p_nilCheck rfl) rfl ?_))))
   refine r_p (p_field0 fo76_5 rfl) rfl ?_
   refine r_store_row (k := 14) t3 rfl rfl rfl rfl rfl rfl rfl rfl ?_
   refine r_nil (r_seq (r_region (r_p (p_move rfl) rfl ?_)))
   refine r_bslice0 eS Tryz.underlying58 t9 rfl fun v68 => ?_
   refine r_p (p_move rfl) rfl (r_p (p_nilCheck rfl) rfl ?_)
   refine r_p (p_field0 fo76_7 rfl) rfl ?_
   refine r_p (p_load1 t27 rfl rfl (g_row1 (k := 14) rfl rfl)) rfl ?_
   refine r_p (p_move rfl) rfl ?_
   refine r_p (p_idx_slS (j := i) Tryz.underlying27 t63 rfl rfl (SlS.tg (k := 43) rfl) rfl hiF) rfl ?_
   refine r_p (p_field fo63_1 rfl) rfl ?_
   refine r_p (p_load1 t58 rfl rfl (g_elpS (SlS.tg (k := 43) rfl) (by intro _; rfl) hfi rfl)) rfl ?_
   refine r_appendG 68 Tryz.underlying58 t9 rfl (by decide) (fun _ => rfl) (fun _ => rfl) rfl rfl rfl own_id (SlS.tgp (k := 43) rfl hfm) (by simp only [List.length_nil]; omega) (by unfold maxLen; simp only [List.length_nil]; omega) rfl fun v77 => ?_
   refine r_p (p_nilCheck rfl) rfl ?_
   refine r_p (p_field0 fo76_4 rfl) rfl ?_
   refine r_store_row (k := 14) t58 rfl rfl rfl rfl rfl rfl rfl rfl ?_
   refine r_nil (r_seq (r_region (r_p (p_move rfl) rfl (r_p (p_nilCheck rfl) rfl ?_))))
   refine r_p (p_field0 fo76_7 rfl) rfl ?_
   refine r_p (p_load1 t27 rfl rfl (g_row1 (k := 14) rfl rfl)) rfl ?_
   refine r_p (p_move rfl) rfl ?_
   refine r_p (p_idx_slS (j := i) Tryz.underlying27 t63 rfl rfl (SlS.tg (k := 43) rfl) rfl hiF) rfl ?_
   refine r_p (p_loadA t63 rfl rfl rfl (g_elS' (SlS.tg (k := 43) rfl) (by intro _; rfl) hfi (by rfl))) rfl ?_
   refine r_alloc t63 rfl rfl fun b11 => ?_
   refine r_store_all (k := 11) t63 rfl rfl rfl rfl rfl rfl ?_
   refine r_nil (r_seq (r_region (r_p (p_move rfl) rfl ?_)))
   refine r_callN (xs := [.tmp 87, .const (.int .i64 1)]) (gst_tg (e := ⟨b14, vl, v77, vf, ⟨l, i, (gHds l).1⟩, F⟩) ⟨hl, hlo, hFh, by dsimp only; omega, by dsimp only; omega, hps⟩ out { s1 with left := 8, nodes := 150, vars := 0, names := f.ps } v77 hsi) cb32 [14, 68] [(false, 0), (true, 43)] [14, 70, 61, 62] rfl rfl rfl rfl rfl rfl rfl rfl (fun _ _ => rfl) (fun _ _ _ => rfl) rfl (fun ⟨vb, body, s2, vn2⟩ hbd => ?_)
   dsimp only at hbd ⊢
   refine r_p (p_field0 fo63_2 rfl) rfl ?_
   refine r_store_row (k := 11) t51 rfl rfl rfl rfl rfl rfl rfl rfl ?_
   refine r_nil (r_region ?_)
   refine r_p (p_field0 fo29_0 rfl) rfl ?_
   refine r_p (p_load1 t27 rfl rfl (g_row1 (k := 9) rfl rfl)) rfl ?_
   refine r_p (p_loadA t63 rfl rfl rfl (g_all (k := 11) rfl)) rfl ?_
   refine r_bslice1 eTf (⟨f.name, f.vp, f.ps, vb, body⟩ : Tf) Tryz.underlying27 t63 rfl (by decide) (by decide) rfl rfl rfl rfl fun v93 => ?_
   refine r_append 60 Tryz.underlying27 t63 rfl (by decide) (fun _ => rfl) (fun _ => rfl) rfl rfl rfl (hs_own (k := 93) rfl) (by simp only [List.length_singleton]; omega) (by unfold maxLen; simp only [List.length_singleton]; omega) rfl fun v94 => ?_
   refine r_p (p_field0 fo29_0 rfl) rfl ?_
   refine r_store_row (k := 9) t27 rfl rfl rfl rfl rfl rfl rfl rfl ?_
   refine r_nil (r_region (r_p (p_move rfl) rfl ?_))
   refine r_p (p_bin rfl rfl (b_add (by first | exact w_i64 (by omega) (by omega) | rfl))) rfl ?_
   refine r_p (p_assign rfl) rfl (r_nil ?_)
   refine r_collect 43 [43, 61, 62] (C := tgA vf F (out ++ [⟨f.name, f.vp, f.ps, vb, body⟩])) rfl (tg_add hfm) ?_
   refine r_here ⟨i + 1, v94, out ++ [⟨f.name, f.vp, f.ps, vb, body⟩], s2, vn2, i⟩ ⟨⟨by dsimp only; omega, by dsimp only; rw [List.map_append]; exact .step (f := (f.name, f.ps)) m2 (by rw [hFh, List.getElem?_map, hfi]; rfl) hbd.1, by dsimp only; rw [List.length_append, m3]; rfl⟩, by dsimp only; omega⟩ rfl rfl rfl
  ·(try simp only [decide_eq_true_eq, decide_eq_false_iff_not, Bool.and_eq_true, Bool.or_eq_true, Bool.and_eq_false_iff, Bool.or_eq_false_iff, Bool.not_eq_true, Bool.not_eq_false, Bool.not_eq_true', Bool.not_eq_false', Bool.not_not, bne_iff_ne, beq_iff_eq] at h3)
   have hme : i = gMany l := by omega
   refine r_exit (r_seq (r_region ?_))
   refine r_p (p_loadA t29 rfl rfl rfl (g_all (k := 9) rfl)) rfl ?_
   refine r_store_all (k := 2) t29 rfl rfl rfl rfl rfl rfl ?_
   refine r_nil (r_cret ?_)
   refine r_collect 63 [60, 43] (C := tfsA vo out) rfl tfs_of ?_
   refine r_ret (vo, out) ⟨s1, hme ▸ m2⟩ rfl (rs1 (rv_cellA t29 rfl rfl rfl (g_all (k := 2) rfl))) rfl [63] [] rfl rfl rfl
structure Cp where
 i : Nat
 v : SV
 l : List Tf
 pm : SV
 bm : SV
/-- The contract of declares. -/
def HDe (v : SV) (l : List Ty) : Prop := Spec Tryz.prog 35 [sv v] [] [tysA v l] (X := Unit) (fun _ => True) (fun _ => .bool (decide (0 < vYs l))) (fun _ => []) (fun _ => [])
theorem vYs_hit {l : List Ty} {i : Nat} {t : Ty} (h : l[i]? = some t) (h0 : 0 < vY t) : 0 < vYs l := by
 have h1 := vYs_app (l.take (i + 1)) (l.drop (i + 1))
 rw [List.take_append_drop, vYs_take h] at h1
 omega
/-- A loop, and what it is replaced by. -/
def Uw (t t' : Ty) : Prop := t.kind = 5 ∧ vYs t.body = 0 ∧ ∃ b, t' = .mk 4 oNil t.ve t.es b (t.body ++ [t]) nilS []
/-- Blocks in which loops may be replaced. -/
inductive Ub : List Ty → List Ty → Prop where
 | nil : Ub [] []
 | same {t : Ty} {l l' : List Ty} (h : Ub l l') : Ub (t :: l) (t :: l')
 | here {t t' : Ty} {l l' : List Ty} (h1 : Uw t t') (h : Ub l l') : Ub (t :: l) (t' :: l')
theorem Ub.app {l l' m m' : List Ty} (h : Ub l l') (h2 : Ub m m') : Ub (l ++ m) (l' ++ m') := by
 induction h with
 | nil => exact h2
 | same _ ih => exact .same ih
 | here h1 _ ih => exact .here h1 ih
theorem Ub.len {l l' : List Ty} (h : Ub l l') : l'.length = l.length := by
 induction h with
 | nil => rfl
 | same _ ih => rw [List.length_cons, List.length_cons, ih]
 | here h1 _ ih => rw [List.length_cons, List.length_cons, ih]
def Uf (f f' : Tf) : Prop := f'.name = f.name ∧ f'.vp = f.vp ∧ f'.ps = f.ps ∧ Ub f.body f'.body
def UpF (fs l : List Tf) : Prop := l.length = fs.length ∧ ∀ (j : Nat) (f f' : Tf), fs[j]? = some f → l[j]? = some f' → Uf f f'
/-- The new lists in a block can be read. -/
def unB (bl0 bl : List Ty) : Asn := ⟨fun w F => ∀ (k : Nat) (t : Ty), bl[k]? = some t → bl0[k]? = some t ∨ SlIn' w F 5 eTy (sv t.vb) t.body, fun h hs k t hk => by
 rcases h k t hk with a | a
 ·exact .inl a
 ·exact .inr (a.stable hs)⟩
def unA (fs l : List Tf) : Asn := ⟨fun w F => ∀ (j : Nat) (f f' : Tf), fs[j]? = some f → l[j]? = some f' → SlIn' w F 5 eTy (sv f'.vb) f'.body ∧ (unB f.body f'.body).pred w F, fun h hs j f f' h1 h2 => by
 obtain ⟨a, b⟩ := h j f f' h1 h2
 exact ⟨a.stable hs, (unB _ _).stable b hs⟩⟩
theorem unB_mono {w : World} {F F' : Nat → Prop} {a b : List Ty} (h : (unB a b).pred w F) (hs : ∀ b, F b → F' b) : (unB a b).pred w F' := fun k t hk => by
 rcases h k t hk with h | h
 ·exact .inl h
 ·exact .inr (h.mono hs)
theorem get_snoc {α : Type} {l : List α} {x y : α} {k : Nat} (h : (l ++ [x])[k]? = some y) : (k < l.length ∧ l[k]? = some y) ∨ (k = l.length ∧ y = x) := by
 rw [List.getElem?_append] at h
 split at h
 ·rename_i hk
  exact .inl ⟨hk, h⟩
 ·rename_i hk
  have : k - l.length = 0 := by
   cases hq : k - l.length with
   | zero => rfl
   | succ q => rw [hq] at h; simp at h
  rw [this] at h
  exact .inr ⟨by omega, (Option.some.inj h).symm⟩
theorem unB_same {bl0 bl : List Ty} {t : Ty} (ht : bl0[bl.length]? = some t) : ∀ w G, (unB bl0 bl).pred w G → (unB bl0 (bl ++ [t])).pred w G := fun w G h k u hk => by
 rcases get_snoc hk with ⟨_, hk⟩ | ⟨rfl, rfl⟩
 ·exact h k u hk
 ·exact .inl ht
theorem unB_new {T : Nat} {bl0 bl : List Ty} {k n : Int} {nm : ByteArray} {ve vb vl : SV} {es : List Tx} {body els : List Ty} (w : World) (F : Nat → Prop) (h : AllIn w F [unB bl0 bl, own T 5 eTy (sv vb) body]) : (unB bl0 (bl ++ [.mk k nm ve es vb body vl els])).pred w F := by
 obtain ⟨⟨_, a0, b0⟩, ⟨_, a1, b1⟩, _⟩ := h
 intro k u hk
 rcases get_snoc hk with ⟨_, hk⟩ | ⟨rfl, rfl⟩
 ·exact unB_mono a0 b0 k u hk
 ·exact .inr (own_in a1 b1)
theorem unA_snoc {T : Nat} {fs l : List Tf} {f f' : Tf} (hf : fs[l.length]? = some f) (w : World) (F : Nat → Prop) (h : AllIn w F [unA fs l, own T 5 eTy (sv f'.vb) f'.body, unB f.body f'.body]) : (unA fs (l ++ [f'])).pred w F := by
 obtain ⟨⟨_, a0, b0⟩, ⟨_, a1, b1⟩, ⟨_, a2, b2⟩, _⟩ := h
 intro j g g' h1 h2
 rcases get_snoc h2 with ⟨_, hk⟩ | ⟨rfl, rfl⟩
 ·exact ⟨(a0 j g g' h1 hk).1.mono b0, unB_mono (a0 j g g' h1 hk).2 b0⟩
 ·rw [hf] at h1
  cases h1
  exact ⟨own_in a1 b1, unB_mono a2 b2⟩
structure Un where
 i : Nat
 found : Bool
 v : SV
 l : List Tf
structure Ui where
 k : Nat
 found : Bool
 v : SV
 bl : List Ty
theorem uf_snoc {fs l : List Tf} {i : Nat} {f f' : Tf} (hf : fs[i]? = some f) (hl : l.length = i) (h : ∀ (j : Nat) (f f' : Tf), fs[j]? = some f → l[j]? = some f' → Uf f f') (h2 : Uf f f') : ∀ (j : Nat) (g g' : Tf), fs[j]? = some g → (l ++ [f'])[j]? = some g' → Uf g g' := fun j g g' h3 h4 => by
 rcases get_snoc h4 with ⟨_, hk⟩ | ⟨e1, rfl⟩
 ·exact h j g g' h3 hk
 ·rw [e1, hl, hf] at h3
  cases h3
  exact h2
set_option maxHeartbeats 4000000 in
set_option maxRecDepth 100000 in
theorem declares_step (v : SV) (l : List Ty) (hl : l.length ≤ 1000000) (ih : ∀ u ∈ l, HDe u.vb u.body ∧ HDe u.vl u.els) :
  Spec Tryz.prog 35 [sv v] [] [tysA v l] (X := Unit) (fun _ => True) (fun _ => .bool (decide (0 < vYs l))) (fun _ => []) (fun _ => []) := by
 refine r_enter Tryz.func35 rfl Tryz.ntmps35 rfl fun w0 M H => ?_
 refine r_more 0 1 rfl tys_sl ?_
 refine r_seq (r_region (r_p (p_assign rfl) rfl (r_nil (r_seq (r_seq (r_region (r_p (p_assign rfl) rfl (r_nil (r_block ?_)))))))))
 refine r_loop (X := Nat) (fun i => i ≤ l.length ∧ vYs (l.take i) = 0) (fun i => [(0, sv v), (3, .int .i64 (i : Int))]) (fun i => []) (fun i => [(0, tysA v l), (1, sl 5 eTy (sv v) l)]) (fun i => l.length - i) 0 ⟨Nat.zero_le _, rfl⟩ rfl rfl rfl (fun i hx0 => ?_)
 obtain ⟨n1, n2⟩ := hx0
 refine r_seq (r_seq (r_region (r_p (p_move rfl) rfl (r_p (p_move rfl) rfl ?_))))
 refine r_p (p_len_sl Tryz.underlying51 rfl (hs_sl (k := 1) rfl)) rfl ?_
 refine r_p (p_bin rfl rfl b_lt) rfl ?_
 refine r_nil ?_
 refine r_cond rfl (fun h1 => ?_) (fun h1 => ?_)
 ·(try simp only [decide_eq_true_eq, decide_eq_false_iff_not, Bool.and_eq_true, Bool.or_eq_true, Bool.and_eq_false_iff, Bool.or_eq_false_iff, Bool.not_eq_true, Bool.not_eq_false, Bool.not_eq_true', Bool.not_eq_false', Bool.not_not, bne_iff_ne, beq_iff_eq] at h1)
  have hi : i < l.length := by omega
  obtain ⟨st, hst⟩ : ∃ k, l[i]? = some k := ⟨_, List.getElem?_eq_getElem hi⟩
  have hsm := List.mem_of_getElem? hst
  refine r_skip (r_seq (r_block (r_seq (r_region (r_p (p_move rfl) rfl (r_p (p_move rfl) rfl ?_))))))
  refine r_p (p_idx_sl (j := i) Tryz.underlying51 t53 rfl rfl (hs_sl (k := 1) rfl) (by first | rfl | omega) (by first | omega | (simp; done) | (simp; omega))) rfl ?_
  refine r_p (p_field fo53_3 rfl) rfl ?_
  refine r_p (p_load1 t51 rfl rfl (g_elp (hs_sl (k := 1) rfl) (by intro _; rfl) hst rfl)) rfl ?_
  refine r_more 0 8 rfl (tys_body hsm) ?_
  refine r_more 0 9 rfl (tys_els hsm) ?_
  refine r_callN (xs := [.tmp 16]) (ih st hsm).1 cb35 [] [(false, 8)] [] rfl rfl rfl rfl rfl rfl rfl rfl (fun _ _ => rfl) (fun _ _ _ => rfl) rfl (fun _ _ => ?_)
  refine r_p (p_assign rfl) rfl (r_nil (r_seq (r_region (r_p (p_move rfl) rfl (r_p (p_move rfl) rfl ?_)))))
  refine r_p (p_idx_sl (j := i) Tryz.underlying51 t53 rfl rfl (hs_sl (k := 1) rfl) (by first | rfl | omega) (by first | omega | (simp; done) | (simp; omega))) rfl ?_
  refine r_p (p_field fo53_4 rfl) rfl ?_
  refine r_p (p_load1 t51 rfl rfl (g_elp (hs_sl (k := 1) rfl) (by intro _; rfl) hst rfl)) rfl ?_
  refine r_callN (xs := [.tmp 22]) (ih st hsm).2 cb35 [] [(false, 9)] [] rfl rfl rfl rfl rfl rfl rfl rfl (fun _ _ => rfl) (fun _ _ _ => rfl) rfl (fun _ _ => ?_)
  refine r_p (p_assign rfl) rfl (r_nil (r_seq (r_region (r_p (p_move rfl) rfl (r_p (p_move rfl) rfl ?_)))))
  refine r_p (p_idx_sl (j := i) Tryz.underlying51 t53 rfl rfl (hs_sl (k := 1) rfl) (by first | rfl | omega) (by first | omega | (simp; done) | (simp; omega))) rfl ?_
  refine r_p (p_field fo53_0 rfl) rfl ?_
  refine r_p (p_load1 t3 rfl rfl (g_elp (hs_sl (k := 1) rfl) (by intro _; rfl) hst rfl)) rfl ?_
  refine r_p (p_bin rfl rfl b_eq) rfl ?_
  refine r_p (p_move rfl) rfl ?_
  refine r_gp [] rfl rfl trivial (fun hg2 => p_move rfl) rfl ?_
  refine r_p (p_pick rfl rfl rfl (by first | exact pick_and | exact pick_or |  rfl)) rfl ?_
  refine r_p (p_move rfl) rfl ?_
  refine r_gp [] rfl rfl trivial (fun hg3 => p_move rfl) rfl ?_
  refine r_p (p_pick rfl rfl rfl (by first | exact pick_and | exact pick_or |  rfl)) rfl ?_
  refine r_nil ?_
  refine r_cond rfl (fun h4 => ?_) (fun h4 => ?_)
  ·(try simp only [decide_eq_true_eq, decide_eq_false_iff_not, Bool.and_eq_true, Bool.or_eq_true, Bool.and_eq_false_iff, Bool.or_eq_false_iff, Bool.not_eq_true, Bool.not_eq_false, Bool.not_eq_true', Bool.not_eq_false', Bool.not_not, bne_iff_ne, beq_iff_eq] at h4)
   have hct : 0 < vY st := by
    rw [vY_def]
    rcases h4 with (h | h) | h
    ·rw [if_pos h]; omega
    ·omega
    ·omega
   refine r_seq (r_region (r_p (p_assign rfl) rfl (r_nil (r_cret ?_))))
   refine r_ret () trivial rfl (rs1 (rv_tmp rfl)) (congrArg Value.bool (decide_eq_true (vYs_hit hst hct)).symm) [] [] rfl rfl rfl
  ·(try simp only [decide_eq_true_eq, decide_eq_false_iff_not, Bool.and_eq_true, Bool.or_eq_true, Bool.and_eq_false_iff, Bool.or_eq_false_iff, Bool.not_eq_true, Bool.not_eq_false, Bool.not_eq_true', Bool.not_eq_false', Bool.not_not, bne_iff_ne, beq_iff_eq] at h4)
   have hcf : vY st = 0 := by
    rw [vY_def, if_neg h4.1.1]
    omega
   refine r_skip (r_region (r_p (p_move rfl) rfl ?_))
   refine r_p (p_bin rfl rfl (b_add (by first | exact w_i64 (by omega) (by omega) | rfl))) rfl ?_
   refine r_p (p_assign rfl) rfl (r_nil ?_)
   refine r_here (i + 1) ⟨⟨by omega, by rw [vYs_take hst, n2, hcf]⟩, by omega⟩ rfl rfl rfl
 ·(try simp only [decide_eq_true_eq, decide_eq_false_iff_not, Bool.and_eq_true, Bool.or_eq_true, Bool.and_eq_false_iff, Bool.or_eq_false_iff, Bool.not_eq_true, Bool.not_eq_false, Bool.not_eq_true', Bool.not_eq_false', Bool.not_not, bne_iff_ne, beq_iff_eq] at h1)
  have hi : i = l.length := by omega
  subst hi
  rw [List.take_length] at n2
  refine r_exit (r_seq (r_region (r_p (p_assign rfl) rfl (r_nil (r_cret ?_)))))
  refine r_ret () trivial rfl (rs1 (rv_tmp rfl)) (by rw [n2]; rfl) [] [] rfl rfl rfl
theorem declares_all : ∀ (n : Nat) (v : SV) (l : List Ty), SizeOf.sizeOf l < n → l.length ≤ 1000000 → GYs l → HDe v l
 | 0, _, _, h, _, _ => absurd h (Nat.not_lt_zero _)
 | n + 1, v, l, h, hl, hg => declares_step v l hl fun u hu => by
  have h1 := List.sizeOf_lt_of_mem hu
  have h2 : SizeOf.sizeOf u.body < SizeOf.sizeOf u ∧ SizeOf.sizeOf u.els < SizeOf.sizeOf u := by
   cases u
   simp only [Ty.mk.sizeOf_spec, Ty.body, Ty.els]
   omega
  have h3 := hg.mem u hu
  exact ⟨declares_all n u.vb u.body (by omega) (GY_body h3).1 (GY_body h3).2, declares_all n u.vl u.els (by omega) (GY_els h3).1 (GY_els h3).2⟩
theorem declares_spec (v : SV) (l : List Ty) (hl : l.length ≤ 1000000) (hg : GYs l) : HDe v l := declares_all _ v l (Nat.lt_succ_self _) hl hg
set_option maxHeartbeats 16000000 in
set_option maxRecDepth 100000 in
theorem unrolled_spec (vp : SV) (fs : List Tf) (hg : GP fs) :
  Spec Tryz.prog 13 [.agg #[sv vp]] [] [tfsA vp fs] (X := Un) (fun x => UpF fs x.l) (fun x => .tuple #[.agg #[sv x.v], .bool x.found]) (fun x => [unA fs x.l, own 63 3 eTf (sv x.v) x.l]) (fun _ => []) := by
 refine r_enter Tryz.func13 rfl Tryz.ntmps13 rfl fun w0 M H => ?_
 refine r_more 0 1 rfl tfs_sl ?_
 have hfl := hg.1
 refine r_seq (r_region ?_)
 refine r_boxA rfl rfl fun b1 => ?_
 refine r_alloc t29 rfl rfl fun b2 => ?_
 refine r_p (p_assign rfl) rfl (r_nil (r_seq (r_region ?_)))
 refine r_alloc t29 rfl rfl fun b4 => ?_
 refine r_nil (r_seq (r_region (r_p (p_assign rfl) rfl (r_nil (r_seq (r_seq (r_region (r_p (p_assign rfl) rfl (r_nil (r_block ?_))))))))))
 refine r_nilown 41 (α := Tf) (S := 63) (s := 3) (enc := eTf) ?_
 refine r_collect 40 [] (L := []) (C := unA fs []) rfl (fun w F _ j f f2 _ h2 => by simp at h2) ?_
 refine r_loop (X := Un) (fun x => x.i ≤ fs.length ∧ x.l.length = x.i ∧ ∀ (j : Nat) (f f2 : Tf), fs[j]? = some f → x.l[j]? = some f2 → Uf f f2) (fun x => [(1, .pointer (some ⟨b1, 0, none⟩)), (2, .pointer (some ⟨b2, 0, none⟩)), (4, .pointer (some ⟨b4, 0, none⟩)), (5, .bool x.found), (6, .int .i64 (x.i : Int))]) (fun x => [(1, row b1 29 [sv vp]), (2, row b2 29 [.slice none 0 0]), (4, row b4 29 [sv x.v]), (40, unA fs x.l), (41, own 63 3 eTf (sv x.v) x.l)]) (fun x => [(0, tfsA vp fs), (1, sl 3 eTf (sv vp) fs)]) (fun x => fs.length - x.i) ⟨0, false, nilS, []⟩ ⟨Nat.zero_le _, rfl, fun j f f2 _ h2 => by simp at h2⟩ rfl rfl rfl (fun x hx0 => ?_)
 obtain ⟨i, found, v0, l⟩ := x
 obtain ⟨n1, n2, n3⟩ := hx0
 dsimp only at n1 n2 n3 ⊢
 refine r_seq (r_seq (r_region (r_p (p_move rfl) rfl ?_)))
 refine r_p (p_field0 fo29_0 rfl) rfl ?_
 refine r_p (p_load1 t27 rfl rfl (g_row1 (k := 1) rfl rfl)) rfl ?_
 refine r_p (p_len_sl Tryz.underlying27 rfl (hs_sl (k := 1) rfl)) rfl ?_
 refine r_p (p_bin rfl rfl b_lt) rfl ?_
 refine r_nil ?_
 refine r_cond rfl (fun h1 => ?_) (fun h1 => ?_)
 ·(try simp only [decide_eq_true_eq, decide_eq_false_iff_not, Bool.and_eq_true, Bool.or_eq_true, Bool.and_eq_false_iff, Bool.or_eq_false_iff, Bool.not_eq_true, Bool.not_eq_false, Bool.not_eq_true', Bool.not_eq_false', Bool.not_not, bne_iff_ne, beq_iff_eq] at h1)
  have hi : i < fs.length := by omega
  obtain ⟨f, hf⟩ : ∃ k, fs[i]? = some k := ⟨_, List.getElem?_eq_getElem hi⟩
  have hfm := List.mem_of_getElem? hf
  obtain ⟨g1, g2, g3, g4, g5, g6⟩ := hg.2 f hfm
  refine r_more 0 7 rfl (tfs_f hfm) ?_
  refine r_more 7 10 rfl tf_body ?_
  refine r_more 10 9 rfl tys_sl ?_
  refine r_skip (r_seq (r_block (r_seq (r_region ?_))))
  refine r_p (p_field0 fo29_0 rfl) rfl ?_
  refine r_p (p_load1 t27 rfl rfl (g_row1 (k := 1) rfl rfl)) rfl ?_
  refine r_p (p_move rfl) rfl ?_
  refine r_p (p_idx_sl (j := i) Tryz.underlying27 t63 rfl rfl (hs_sl (k := 1) rfl) (by first | rfl | omega) (by first | omega | (simp; done) | (simp; omega))) rfl ?_
  refine r_p (p_loadA t63 rfl rfl rfl (g_el' (hs_sl (k := 1) rfl) (by intro _; rfl) hf (by rfl))) rfl ?_
  refine r_alloc t63 rfl rfl fun b7 => ?_
  refine r_store_all (k := 7) t63 rfl rfl rfl rfl rfl rfl ?_
  refine r_nil (r_seq (r_region (r_p (p_assign rfl) rfl (r_nil (r_seq (r_seq (r_region (r_p (p_assign rfl) rfl (r_nil (r_block ?_))))))))))
  refine r_nilown 43 (α := Ty) (S := 53) (s := 5) (enc := eTy) ?_
  refine r_collect 44 [] (L := []) (C := unB f.body []) rfl (fun w F _ k t h2 => by simp at h2) ?_
  refine r_loop (X := Ui) (fun y => y.k ≤ f.body.length ∧ Ub (f.body.take y.k) y.bl) (fun y => [(1, .pointer (some ⟨b1, 0, none⟩)), (2, .pointer (some ⟨b2, 0, none⟩)), (4, .pointer (some ⟨b4, 0, none⟩)), (5, .bool y.found), (6, .int .i64 (i : Int)), (7, .pointer (some ⟨b7, 0, none⟩)), (8, sv y.v), (9, .int .i64 (y.k : Int))]) (fun y => [(1, row b1 29 [sv vp]), (2, row b2 29 [.slice none 0 0]), (4, row b4 29 [sv v0]), (40, unA fs l), (41, own 63 3 eTf (sv v0) l), (7, row b7 63 (eTf f)), (43, own 53 5 eTy (sv y.v) y.bl), (44, unB f.body y.bl)]) (fun y => [(0, tfsA vp fs), (1, sl 3 eTf (sv vp) fs), (7, tfA f), (10, tysA f.vb f.body), (9, sl 5 eTy (sv f.vb) f.body)]) (fun y => f.body.length - y.k) ⟨0, found, nilS, []⟩ ⟨Nat.zero_le _, .nil⟩ rfl rfl rfl (fun y hy0 => ?_)
  obtain ⟨k, fnd, v, bl⟩ := y
  obtain ⟨m1, m2⟩ := hy0
  dsimp only at m1 m2 ⊢
  have m3 := m2.len
  rw [List.length_take] at m3
  refine r_seq (r_seq (r_region (r_p (p_move rfl) rfl ?_)))
  refine r_p (p_field0 fo63_2 rfl) rfl ?_
  refine r_p (p_load1 t51 rfl rfl (g_row1 (k := 7) rfl rfl)) rfl ?_
  refine r_p (p_len_sl Tryz.underlying51 rfl (hs_sl (k := 9) rfl)) rfl ?_
  refine r_p (p_bin rfl rfl b_lt) rfl ?_
  refine r_nil ?_
  refine r_cond rfl (fun h2 => ?_) (fun h2 => ?_)
  ·(try simp only [decide_eq_true_eq, decide_eq_false_iff_not, Bool.and_eq_true, Bool.or_eq_true, Bool.and_eq_false_iff, Bool.or_eq_false_iff, Bool.not_eq_true, Bool.not_eq_false, Bool.not_eq_true', Bool.not_eq_false', Bool.not_not, bne_iff_ne, beq_iff_eq] at h2)
   have hk : k < f.body.length := by omega
   obtain ⟨st, hst⟩ : ∃ q, f.body[k]? = some q := ⟨_, List.getElem?_eq_getElem hk⟩
   have hsm := List.mem_of_getElem? hst
   have hgs := g5.mem st hsm
   have hgb := (GY_body hgs).1
   refine r_skip (r_seq (r_block (r_seq (r_region ?_))))
   refine r_p (p_field0 fo63_2 rfl) rfl ?_
   refine r_p (p_load1 t51 rfl rfl (g_row1 (k := 7) rfl rfl)) rfl ?_
   refine r_p (p_move rfl) rfl ?_
   refine r_p (p_idx_sl (j := k) Tryz.underlying51 t53 rfl rfl (hs_sl (k := 9) rfl) (by first | rfl | omega) (by first | omega | (simp; done) | (simp; omega))) rfl ?_
   refine r_p (p_loadA t53 rfl rfl rfl (g_el' (hs_sl (k := 9) rfl) (by intro _; rfl) hst (by rfl))) rfl ?_
   refine r_alloc t53 rfl rfl fun b10 => ?_
   refine r_store_all (k := 10) t53 rfl rfl rfl rfl rfl rfl ?_
   refine r_nil (r_seq (r_region ?_))
   refine r_p (p_field0 fo53_3 rfl) rfl ?_
   refine r_p (p_load1 t51 rfl rfl (g_row1 (k := 10) rfl rfl)) rfl ?_
   refine r_more 10 13 rfl (tys_body hsm) ?_
   refine r_more 13 14 rfl tys_sl ?_
   refine r_callN (xs := [.tmp 38]) (declares_spec st.vb st.body (GY_body hgs).1 (GY_body hgs).2) cb35 [] [(false, 13)] [] rfl rfl rfl rfl rfl rfl rfl rfl (fun _ _ => rfl) (fun _ _ _ => rfl) rfl (fun _ _ => ?_)
   refine r_p (p_assign rfl) rfl (r_nil (r_seq (r_seq (r_region ?_))))
   refine r_p (p_field0 fo63_0 rfl) rfl ?_
   refine r_p (p_load1 t9 rfl rfl (g_row1 (k := 7) rfl rfl)) rfl ?_
   refine r_p (p_bin rfl rfl b_seq) rfl ?_
   refine r_p (p_move rfl) rfl ?_
   refine r_gp [] rfl rfl trivial (fun hg3 => p_field0 fo53_0 rfl) rfl ?_
   refine r_gp [(44, _)] rfl rfl ⟨rfl, trivial⟩ (fun hg4 => p_load1 t3 rfl rfl (g_row1 (k := 10) rfl rfl)) rfl ?_
   refine r_gp [(44, _), (45, _)] rfl rfl ⟨rfl, rfl, trivial⟩ (fun hg5 => p_bin rfl rfl b_eq) rfl ?_
   refine r_p (p_pick rfl rfl rfl (by first | exact pick_and | exact pick_or |  rfl)) rfl ?_
   refine r_p (p_move rfl) rfl ?_
   refine r_gp [] rfl rfl trivial (fun hg6 => p_move rfl) rfl ?_
   refine r_gp [(49, _)] rfl rfl ⟨rfl, trivial⟩ (fun hg7 => p_not rfl) rfl ?_
   refine r_p (p_pick rfl rfl rfl (by first | exact pick_and | exact pick_or |  rfl)) rfl ?_
   refine r_p (p_move rfl) rfl ?_
   refine r_gp [] rfl rfl trivial (fun hg8 => p_move rfl) rfl ?_
   refine r_gp [(53, _)] rfl rfl ⟨rfl, trivial⟩ (fun hg9 => p_not rfl) rfl ?_
   refine r_p (p_pick rfl rfl rfl (by first | exact pick_and | exact pick_or |  rfl)) rfl ?_
   refine r_nil ?_
   refine r_cond rfl (fun h10 => ?_) (fun h10 => ?_)
   ·(try simp only [decide_eq_true_eq, decide_eq_false_iff_not, Bool.and_eq_true, Bool.or_eq_true, Bool.and_eq_false_iff, Bool.or_eq_false_iff, Bool.not_eq_true, Bool.not_eq_false, Bool.not_eq_true', Bool.not_eq_false', Bool.not_not, bne_iff_ne, beq_iff_eq] at h10)
    have hc3 := h10
    refine r_seq (r_region (r_p (p_assign rfl) rfl (r_nil (r_seq (r_region (r_p (p_assign rfl) rfl (r_nil (r_seq ?_))))))))
    refine r_nilown 50 (α := Ty) (S := 53) (s := 5) (enc := eTy) ?_
    refine r_region (r_p (p_move rfl) rfl ?_)
    refine r_p (p_field0 fo53_3 rfl) rfl ?_
    refine r_p (p_load1 t51 rfl rfl (g_row1 (k := 10) rfl rfl)) rfl ?_
    refine r_append 50 Tryz.underlying51 t53 rfl (by decide) (fun _ => rfl) (fun _ => rfl) rfl rfl rfl (hs_sl (k := 14) rfl) (by simp only [List.length_nil]; omega) (by unfold maxLen; simp only [List.length_nil]; omega) rfl fun v59 => ?_
    refine r_p (p_assign rfl) rfl (r_nil (r_seq (r_region (r_p (p_move rfl) rfl ?_))))
    refine r_p (p_loadA t53 rfl rfl rfl (g_all (k := 10) rfl)) rfl ?_
    refine r_bslice1 eTy st Tryz.underlying51 t53 rfl (by decide) (by decide) rfl rfl rfl rfl fun v62 => ?_
    refine r_append 50 Tryz.underlying51 t53 rfl (by decide) (fun _ => rfl) (fun _ => rfl) rfl rfl rfl (hs_own (k := 62) rfl) (by simp only [List.length_nil, List.length_append, List.length_singleton]; omega) (by unfold maxLen; simp only [List.length_nil, List.length_append, List.length_singleton]; omega) rfl fun v63 => ?_
    refine r_p (p_assign rfl) rfl (r_nil (r_region ?_))
    refine r_p (p_field0 fo53_2 rfl) rfl ?_
    refine r_p (p_load1 t46 rfl rfl (g_row1 (k := 10) rfl rfl)) rfl ?_
    refine r_p (p_move rfl) rfl ?_
    refine r_p (p_build (parts := [(0, .const (.int .i64 4)), (2, .tmp 65), (3, .tmp 66)]) t53 pl53 rfl rfl) rfl ?_
    refine r_store_all (k := 10) t53 rfl rfl rfl rfl rfl rfl ?_
    refine r_nil (r_region (r_p (p_move rfl) rfl ?_))
    refine r_p (p_loadA t53 rfl rfl rfl (g_all (k := 10) rfl)) rfl ?_
    refine r_bslice1 eTy (.mk 4 oNil st.ve st.es v63 (st.body ++ [st]) nilS []) Tryz.underlying51 t53 rfl (by decide) (by decide) rfl rfl rfl rfl fun v70 => ?_
    refine r_append 43 Tryz.underlying51 t53 rfl (by decide) (fun _ => rfl) (fun _ => rfl) rfl rfl rfl (hs_own (k := 70) rfl) (by rw [List.length_singleton]; omega) (by unfold maxLen; rw [List.length_singleton]; omega) rfl fun v71 => ?_
    refine r_p (p_assign rfl) rfl (r_nil (r_region (r_p (p_move rfl) rfl ?_)))
    refine r_p (p_bin rfl rfl (b_add (by first | exact w_i64 (by omega) (by omega) | rfl))) rfl ?_
    refine r_p (p_assign rfl) rfl (r_nil ?_)
    refine r_collect 44 [44, 50] (L := [unB f.body bl, own 53 5 eTy (sv v63) (st.body ++ [st])]) (C := unB f.body (bl ++ [.mk 4 oNil st.ve st.es v63 (st.body ++ [st]) nilS []])) rfl (fun w F h => unB_new (n := 0) w F h) ?_
    refine r_here ⟨k + 1, true, v71, bl ++ [.mk 4 oNil st.ve st.es v63 (st.body ++ [st]) nilS []]⟩ ⟨⟨by dsimp only; omega, by dsimp only; rw [take_snoc hst]; exact m2.app (.here ⟨hc3.1.1.2, by omega, v63, rfl⟩ .nil)⟩, by dsimp only; omega⟩ rfl rfl rfl
   ·(try simp only [decide_eq_true_eq, decide_eq_false_iff_not, Bool.and_eq_true, Bool.or_eq_true, Bool.and_eq_false_iff, Bool.or_eq_false_iff, Bool.not_eq_true, Bool.not_eq_false, Bool.not_eq_true', Bool.not_eq_false', Bool.not_not, bne_iff_ne, beq_iff_eq] at h10)
    refine r_skip (r_region (r_p (p_move rfl) rfl ?_))
    refine r_p (p_loadA t53 rfl rfl rfl (g_all (k := 10) rfl)) rfl ?_
    refine r_bslice1 eTy st Tryz.underlying51 t53 rfl (by decide) (by decide) rfl rfl rfl rfl fun v70 => ?_
    refine r_append 43 Tryz.underlying51 t53 rfl (by decide) (fun _ => rfl) (fun _ => rfl) rfl rfl rfl (hs_own (k := 70) rfl) (by rw [List.length_singleton]; omega) (by unfold maxLen; rw [List.length_singleton]; omega) rfl fun v71 => ?_
    refine r_p (p_assign rfl) rfl (r_nil (r_region (r_p (p_move rfl) rfl ?_)))
    refine r_p (p_bin rfl rfl (b_add (by first | exact w_i64 (by omega) (by omega) | rfl))) rfl ?_
    refine r_p (p_assign rfl) rfl (r_nil ?_)
    refine r_conva (k := 44) (A' := unB f.body (bl ++ [st])) rfl (unB_same (by rw [m3]; rw [show min k f.body.length = k by omega]; exact hst)) ?_
    refine r_here ⟨k + 1, fnd, v71, bl ++ [st]⟩ ⟨⟨by dsimp only; omega, by dsimp only; rw [take_snoc hst]; exact m2.app (.same .nil)⟩, by dsimp only; omega⟩ rfl rfl rfl
  ·(try simp only [decide_eq_true_eq, decide_eq_false_iff_not, Bool.and_eq_true, Bool.or_eq_true, Bool.and_eq_false_iff, Bool.or_eq_false_iff, Bool.not_eq_true, Bool.not_eq_false, Bool.not_eq_true', Bool.not_eq_false', Bool.not_not, bne_iff_ne, beq_iff_eq] at h2)
   have hk : k = f.body.length := by omega
   rw [hk, List.take_length] at m2
   refine r_exit (r_seq (r_region (r_p (p_move rfl) rfl ?_)))
   refine r_p (p_field0 fo63_2 rfl) rfl ?_
   refine r_store_row (k := 7) t51 rfl rfl rfl rfl rfl rfl rfl rfl ?_
   refine r_nil (r_region ?_)
   refine r_p (p_field0 fo29_0 rfl) rfl ?_
   refine r_p (p_load1 t27 rfl rfl (g_row1 (k := 4) rfl rfl)) rfl ?_
   refine r_p (p_loadA t63 rfl rfl rfl (g_all (k := 7) rfl)) rfl ?_
   refine r_bslice1 eTf { f with vb := v, body := bl } Tryz.underlying27 t63 rfl (by decide) (by decide) rfl rfl rfl rfl fun v77 => ?_
   refine r_append 41 Tryz.underlying27 t63 rfl (by decide) (fun _ => rfl) (fun _ => rfl) rfl rfl rfl (hs_own (k := 77) rfl) (by rw [List.length_singleton]; omega) (by unfold maxLen; rw [List.length_singleton]; omega) rfl fun v78 => ?_
   refine r_p (p_field0 fo29_0 rfl) rfl ?_
   refine r_store_row (k := 4) t27 rfl rfl rfl rfl rfl rfl rfl rfl ?_
   refine r_nil (r_region (r_p (p_move rfl) rfl ?_))
   refine r_p (p_bin rfl rfl (b_add (by first | exact w_i64 (by omega) (by omega) | rfl))) rfl ?_
   refine r_p (p_assign rfl) rfl (r_nil ?_)
   refine r_collect 40 [40, 43, 44] (L := [unA fs l, own 53 5 eTy (sv v) bl, unB f.body bl]) (C := unA fs (l ++ [{ f with vb := v, body := bl }])) rfl (fun w F h => unA_snoc (f' := { f with vb := v, body := bl }) (by rw [n2]; exact hf) w F h) ?_
   refine r_here ⟨i + 1, fnd, v78, l ++ [{ f with vb := v, body := bl }]⟩ ⟨⟨by dsimp only; omega, by dsimp only; rw [List.length_append, List.length_singleton]; omega, by dsimp only; exact uf_snoc hf n2 n3 ⟨rfl, rfl, rfl, m2⟩⟩, by dsimp only; omega⟩ rfl rfl rfl
 ·(try simp only [decide_eq_true_eq, decide_eq_false_iff_not, Bool.and_eq_true, Bool.or_eq_true, Bool.and_eq_false_iff, Bool.or_eq_false_iff, Bool.not_eq_true, Bool.not_eq_false, Bool.not_eq_true', Bool.not_eq_false', Bool.not_not, bne_iff_ne, beq_iff_eq] at h1)
  have hi : i = fs.length := by omega
  subst hi
  refine r_exit (r_seq (r_region ?_))
  refine r_p (p_loadA t29 rfl rfl rfl (g_all (k := 4) rfl)) rfl ?_
  refine r_p (p_move rfl) rfl ?_
  refine r_store_all (k := 2) t29 rfl rfl rfl rfl rfl rfl ?_
  refine r_p (p_assign rfl) rfl (r_nil (r_cret ?_))
  refine r_ret ⟨fs.length, found, v0, l⟩ ⟨n2, n3⟩ rfl (rs2 (rv_cellA t29 rfl rfl rfl (g_all (k := 2) rfl)) (rv_tmp rfl)) rfl [40, 41] [] rfl rfl rfl
theorem Ub.refl : ∀ l : List Ty, Ub l l
 | [] => .nil
 | t :: l => .same (Ub.refl l)
/-- The fuel of the new program is twice the old one, and c. -/
def RlU (c : Int) (s s' : Ms) : Prop := s'.inp = s.inp ∧ s'.out = s.out ∧ s'.mem = s.mem ∧ 2 * s.fuel + c ≤ s'.fuel
theorem RlU.inp {c : Int} {s s' : Ms} (h : RlU c s s') : (rdI s).1 = (rdI s').1 ∧ RlU c (rdI s).2 (rdI s').2 := by
 obtain ⟨e1, e2, e3, e4, e5, e6, e7, e8⟩ := rdI_eq h.1
 exact ⟨e1, e2, by rw [e3, e4, h.2.1], by rw [e5, e6, h.2.2.1], by rw [e7, e8]; exact h.2.2.2⟩
theorem RlU.put {c : Int} {s s' : Ms} (h : RlU c s s') (i : Nat) (v : Int) : RlU c { s with mem := mput s.mem i v } { s' with mem := mput s'.mem i v } := ⟨h.1, h.2.1, by show mput s'.mem i v = _; rw [h.2.2.1], h.2.2.2⟩
theorem RlU.out {c : Int} {s s' : Ms} (h : RlU c s s') (v : Int) : RlU c { s with out := s.out ++ [v] } { s' with out := s'.out ++ [v] } := ⟨h.1, by show s'.out ++ [v] = _; rw [h.2.1], h.2.2.1, h.2.2.2⟩
theorem RlU.pay {c : Int} {s s' : Ms} (h : RlU c s s') (hc : 0 ≤ c) (hf : 0 < s.fuel) : 0 < s'.fuel ∧ RlU (c + 1) { s with fuel := s.fuel - 1 } { s' with fuel := s'.fuel - 1 } :=
 ⟨by have := h.2.2.2; omega, h.1, h.2.1, h.2.2.1, by have := h.2.2.2; show 2 * (s.fuel - 1) + (c + 1) ≤ s'.fuel - 1; omega⟩
theorem RlU.less {c c' : Int} {s s' : Ms} (h : RlU c s s') (hc : c' ≤ c) : RlU c' s s' := ⟨h.1, h.2.1, h.2.2.1, by have := h.2.2.2; omega⟩
theorem RlU.pay0 {c : Int} {s s' : Ms} (h : RlU c s s') (hc : 0 ≤ c) (hf : 0 < s.fuel) : 0 < s'.fuel ∧ RlU c { s with fuel := s.fuel - 1 } { s' with fuel := s'.fuel - 1 } := ⟨(h.pay hc hf).1, (h.pay hc hf).2.less (by omega)⟩
theorem RR.less {α : Type} {c c' : Int} {r r' : Re α} (h : RR (RlU c) r r') (hc : c' ≤ c) : RR (RlU c') r r' := by
 cases h with
 | ok a s s' h => exact .ok a s s' (h.less hc)
 | err z => exact .err z
def FsU (fs fs' : List Tf) : Prop := ∀ nm f, ffind fs nm = some f → ∃ f', ffind fs' nm = some f' ∧ Uf f f'
structure SmU (fs fs' : List Tf) (g : Nat) : Prop where
 x : ∀ G c d vs t s s' r, 4 ^ g ≤ G → 0 ≤ c → RlU c s s' → evX g fs d vs t s = some r → r ≠ .err 25 → ∃ r', evX G fs' d vs t s' = some r' ∧ RR (RlU c) r r'
 k : ∀ G c d vs acc l s s' r, 4 ^ g ≤ G → 0 ≤ c → RlU c s s' → evK g fs d vs acc l s = some r → r ≠ .err 25 → ∃ r', evK G fs' d vs acc l s' = some r' ∧ RR (RlU c) r r'
 c : ∀ G c d f f' al s s' r, 4 ^ g ≤ G → 0 ≤ c → Uf f f' → RlU c s s' → evC g fs d f al s = some r → r ≠ .err 25 → ∃ r', evC G fs' d f' al s' = some r' ∧ RR (RlU c) r r'
 b : ∀ G c d vs l l' s s' r, 4 ^ g ≤ G → 0 ≤ c → Ub l l' → RlU c s s' → evB g fs d vs l s = some r → r ≠ .err 25 → ∃ r', evB G fs' d vs l' s' = some r' ∧ RR (RlU c) r r'
 s : ∀ G c d vs t s s' r, 4 ^ g ≤ G → 0 ≤ c → RlU c s s' → evS g fs d vs t s = some r → r ≠ .err 25 → ∃ r', evS G fs' d vs t s' = some r' ∧ RR (RlU c) r r'
 w : ∀ G c d vs e l v s s' r, 4 ^ g ≤ G → 0 ≤ c → RlU c s s' → evW g fs d vs e l v s = some r → r ≠ .err 25 → ∃ r', evW G fs' d vs e l v s' = some r' ∧ RR (RlU c) r r'
theorem gas_succ {g G : Nat} (h : 4 ^ (g + 1) ≤ G) : ∃ G1, G = G1 + 1 ∧ 4 ^ g ≤ G1 := by
 have h1 : 0 < 4 ^ g := Nat.pow_pos (by decide)
 rw [Nat.pow_succ] at h
 exact ⟨G - 1, by omega, by omega⟩
theorem evB_app {fs : List Tf} {d : Nat} : ∀ (a b : List Ty) (n m : Nat) (vs vs1 : Vs) (s s1 : Ms) (r : Re (Vs × Option Int)), evB n fs d vs a s = some (.ok (vs1, none) s1) → evB m fs d vs1 b s1 = some r → evB (n + m) fs d vs (a ++ b) s = some r
 | [], b, n, m, vs, vs1, s, s1, r, h1, h2 => by
  have h := evB_nil h1
  simp only [Re.ok.injEq, Prod.mk.injEq, and_true] at h
  obtain ⟨rfl, rfl⟩ := h
  exact mono_b (by omega) h2
 | t :: a, b, n, m, vs, vs1, s, s1, r, h1, h2 => by
  obtain ⟨g2, q, rfl, hx, hre, hrs, hrn⟩ := evB_cons h1
  rw [show g2 + 1 + m = (g2 + m) + 1 by omega, List.cons_append, evB, mono_s (by omega : g2 ≤ g2 + m) hx]
  cases q with
  | err z => cases hre z rfl
  | ok p s2 =>
   obtain ⟨vs2, ro⟩ := p
   cases ro with
   | some x => cases hrs vs2 x s2 rfl
   | none => exact evB_app a b g2 m vs2 vs1 s2 s1 r (hrn vs2 s2 rfl) h2
theorem evB_stop {fs : List Tf} {d : Nat} : ∀ (a b : List Ty) (n : Nat) (vs : Vs) (s : Ms) (r : Re (Vs × Option Int)), evB n fs d vs a s = some r → (∀ vs1 s1, r ≠ .ok (vs1, none) s1) → evB n fs d vs (a ++ b) s = some r
 | [], b, n, vs, s, r, h1, h2 => absurd (evB_nil h1) (h2 _ _)
 | t :: a, b, n, vs, s, r, h1, h2 => by
  obtain ⟨g2, q, rfl, hx, hre, hrs, hrn⟩ := evB_cons h1
  rw [List.cons_append, evB, hx]
  cases q with
  | err z => rw [hre z rfl]
  | ok p s2 =>
   obtain ⟨vs2, ro⟩ := p
   cases ro with
   | some x => rw [hrs vs2 x s2 rfl]
   | none => exact evB_stop a b g2 vs2 s2 r (hrn vs2 s2 rfl) h2
theorem evX_fuel {g : Nat} {fs : List Tf} {d : Nat} {vs : Vs} {t : Tx} {s : Ms} {r : Re Int} (h : evX g fs d vs t s = some r) (hr : r ≠ .err 25) : 0 < s.fuel := by
 cases g with
 | zero => simp [evX] at h
 | succ g =>
  rw [evX] at h
  by_cases hf : s.fuel ≤ 0
  ·rw [if_pos hf] at h
   cases h
   exact absurd rfl hr
  ·omega
/-- The loop itself. -/
theorem stU {fs fs' : List Tf} {n : Nat} (ih : ∀ k, k < n → SmU fs fs' k) {t t' : Ty} (hU : Uw t t') {G d : Nat} {c : Int} {vs : Vs} {s s' : Ms} {q : Re (Vs × Option Int)} (hG : 4 ^ n ≤ G) (hc : 0 ≤ c) (hR : RlU c s s') (h : evS n fs d vs t s = some q) (hq : q ≠ .err 25) :
  ∃ r', evS G fs' d vs t' s' = some r' ∧ RR (RlU c) q r' := by
 cases n with
 | zero => simp [evS] at h
 | succ n =>
  obtain ⟨G1, rfl, hG1⟩ := gas_succ hG
  obtain ⟨hk, hv0, vb, rfl⟩ := hU
  have ihn := ih n (by omega)
  rw [evS] at h
  by_cases hf : s.fuel ≤ 0
  ·rw [if_pos hf] at h; cases h; exact absurd rfl hq
  rw [if_neg hf] at h
  obtain ⟨hf', hRp⟩ := hR.pay hc (by omega)
  rw [evS, if_neg (by omega)]
  show ∃ r', (match t.es with
   | [] => none
   | e :: es => _) = some r' ∧ _
  cases he : t.es with
  | nil => rw [he] at h; simp at h
  | cons e es =>
   rw [he] at h
   dsimp only at h ⊢
   cases hx : evX n fs d vs e { s with fuel := s.fuel - 1 } with
   | none => rw [hx] at h; simp at h
   | some p =>
    rw [hx] at h
    cases p with
    | err z =>
     cases h
     obtain ⟨r', e1, e2⟩ := ihn.x G1 (c + 1) d vs e _ _ _ hG1 (by omega) hRp hx (ne_err hq)
     rw [e1]
     cases e2
     exact ⟨_, rfl, .err z⟩
    | ok v s1 =>
     obtain ⟨r', e1, e2⟩ := ihn.x G1 (c + 1) d vs e _ _ _ hG1 (by omega) hRp hx ne_ok
     rw [e1]
     cases e2 with
     | ok _ _ s1' hR1 =>
     dsimp only at h ⊢
     rw [if_neg (by omega), if_neg (by omega), if_neg (by omega), if_pos hk] at h
     show ∃ r', evB G1 fs' d vs (if v = 0 then [] else t.body ++ [t]) s1' = some r' ∧ _
     by_cases hv : v = 0
     ·rw [if_pos hv]
      have h2 := evW_out h hv
      subst h2
      obtain ⟨G2, rfl⟩ : ∃ G2, G1 = G2 + 1 := ⟨G1 - 1, by have : 0 < 4 ^ n := Nat.pow_pos (by decide); omega⟩
      exact ⟨.ok (vs, none) s1', by rw [evB], .ok _ _ _ (hR1.less (by omega))⟩
     ·rw [if_neg hv]
      obtain ⟨g2, qb, rfl, hwb, hwe, hws, hwn⟩ := evW_in h hv
      have ih2 := ih g2 (by omega)
      have hx0 : 0 < 4 ^ g2 := Nat.pow_pos (by decide)
      have hGb : 4 ^ g2 + (4 ^ g2 + 2) ≤ G1 := by
       rw [Nat.pow_succ] at hG1
       rw [Nat.pow_succ, Nat.pow_succ] at hG
       omega
      have hqb : qb ≠ .err 25 := fun e => by
       have := hwe 25 e
       subst this
       exact hq rfl
      obtain ⟨rb, b1, b2⟩ := ih2.b (4 ^ g2) (c + 1) d vs t.body t.body _ _ _ (Nat.le_refl _) (by omega) (Ub.refl _) hR1 hwb hqb
      cases qb with
      | err z =>
       cases b2
       have h2 := hwe z rfl
       subst h2
       exact ⟨_, mono_b (by omega) (evB_stop _ [t] _ _ _ _ b1 (fun _ _ h => by cases h)), .err z⟩
      | ok p s2 =>
       obtain ⟨vs2, ro⟩ := p
       cases b2 with
       | ok _ _ s2' hR2 =>
       cases ro with
       | some y =>
        have h2 := hws vs2 y s2 rfl
        subst h2
        exact ⟨_, mono_b (by omega) (evB_stop _ [t] _ _ _ _ b1 (fun _ _ h => by cases h)), .ok _ _ _ (hR2.less (by omega))⟩
       | none =>
        obtain ⟨rx, x1, x2, x3⟩ := hwn vs2 s2 rfl
        have hrx : rx ≠ .err 25 := fun e => by
         have := x2 25 e
         subst this
         exact hq rfl
        have hf2 := evX_fuel x1 hrx
        have hsum := hR2.2.2.2
        have hR3 : RlU c s2 { s2' with fuel := s2'.fuel - 1 } := ⟨hR2.1, hR2.2.1, hR2.2.2.1, by show _ ≤ s2'.fuel - 1; omega⟩
        obtain ⟨rx', y1, y2⟩ := ih2.x (4 ^ g2) c d vs2 e _ _ _ (Nat.le_refl _) hc hR3 x1 hrx
        have hst : ∃ r', evS (4 ^ g2 + 1) fs' d vs2 t s2' = some r' ∧ RR (RlU c) q r' := by
         rw [evS, if_neg (by omega)]
         simp only [he]
         rw [y1]
         cases y2 with
         | err z =>
          have h2 := x2 z rfl
          subst h2
          exact ⟨_, rfl, .err z⟩
         | ok w s3 s3' hR4 =>
          dsimp only
          rw [if_neg (by omega), if_neg (by omega), if_neg (by omega), if_pos hk]
          exact ih2.w (4 ^ g2) c d vs2 e t.body w s3 s3' q (Nat.le_refl _) hc hR4 (x3 w s3 rfl) hq
        obtain ⟨r', z1, z2⟩ := hst
        have hb1 : evB (4 ^ g2 + 2) fs' d vs2 [t] s2' = some r' := by
         rw [show 4 ^ g2 + 2 = (4 ^ g2 + 1) + 1 by omega, evB, z1]
         cases r' with
         | err z => rfl
         | ok p s4 =>
          obtain ⟨vs4, ro⟩ := p
          cases ro with
          | some y => rfl
          | none =>
           dsimp only
           rw [evB]
        exact ⟨r', mono_b hGb (evB_app _ [t] _ _ _ _ _ _ _ b1 hb1), z2⟩
theorem simU {fs fs' : List Tf} (H : FsU fs fs') : ∀ n g, g ≤ n → SmU fs fs' g
 | 0, g, hg => by
  obtain rfl : g = 0 := by omega
  exact ⟨fun _ _ _ _ _ _ _ _ _ _ _ h => by simp [evX] at h, fun _ _ _ _ _ _ _ _ _ _ _ _ h => by simp [evK] at h, fun _ _ _ _ _ _ _ _ _ _ _ _ _ h => by simp [evC] at h, fun _ _ _ _ _ _ _ _ _ _ _ _ _ h => by simp [evB] at h, fun _ _ _ _ _ _ _ _ _ _ _ h => by simp [evS] at h, fun _ _ _ _ _ _ _ _ _ _ _ _ _ h => by simp [evW] at h⟩
 | g + 1, k, hk => by
  by_cases hkg : k ≤ g
  ·exact simU H g k hkg
  obtain rfl : k = g + 1 := by omega
  have ih := simU H g g (Nat.le_refl g)
  have ihs : ∀ k, k < g → SmU fs fs' k := fun k h => simU H g k (by omega)
  refine ⟨fun G c d vs t s s' r hG hc hR h hr => ?_, fun G c d vs acc l s s' r hG hc hR h hr => ?_, fun G c d f f' al s s' r hG hc hU hR h hr => ?_, fun G c d vs l l' s s' r hG hc hU hR h hr => ?_, fun G c d vs t s s' r hG hc hR h hr => ?_, fun G c d vs e l v s s' r hG hc hR h hr => ?_⟩
  ·obtain ⟨G1, rfl, hG1⟩ := gas_succ hG
   rw [evX] at h ⊢
   by_cases hf : s.fuel ≤ 0
   ·rw [if_pos hf] at h; cases h; exact absurd rfl hr
   ·obtain ⟨hf', hRp⟩ := hR.pay0 hc (by omega)
    rw [if_neg hf] at h
    rw [if_neg (by omega)]
    cases hk : evK g fs d vs [] t.kids { s with fuel := s.fuel - 1 } with
    | none => rw [hk] at h; simp at h
    | some q =>
     rw [hk] at h
     cases q with
     | err z =>
      cases h
      obtain ⟨r', e1, e2⟩ := ih.k G1 c d vs [] t.kids _ _ _ hG1 hc hRp hk (ne_err hr)
      rw [e1]
      cases e2
      exact ⟨_, rfl, .err z⟩
     | ok ks s1 =>
      obtain ⟨r', e1, e2⟩ := ih.k G1 c d vs [] t.kids _ _ _ hG1 hc hRp hk ne_ok
      rw [e1]
      cases e2 with
      | ok _ _ s1' hR1 =>
      dsimp only at h ⊢
      by_cases q1 : t.kind = 1
      ·rw [if_pos q1] at h ⊢; cases h; exact ⟨_, rfl, .ok _ _ _ hR1⟩
      rw [if_neg q1] at h ⊢
      by_cases q2 : t.kind = 2
      ·rw [if_pos q2] at h ⊢; cases h; exact ⟨_, rfl, .ok _ _ _ hR1⟩
      rw [if_neg q2] at h ⊢
      by_cases q4 : t.kind = 4
      ·rw [if_pos q4] at h ⊢; cases h; rw [hR1.2.2.1]; exact ⟨_, rfl, .ok _ _ _ hR1⟩
      rw [if_neg q4] at h ⊢
      by_cases q5 : t.kind = 5
      ·rw [if_pos q5] at h ⊢
       replace h : some (.ok (rdI s1).1 (rdI s1).2) = some r := by rw [← h]; unfold rdI; cases s1.inp <;> rfl
       obtain ⟨i1, i2⟩ := hR1.inp
       cases h
       refine ⟨.ok (rdI s1').1 (rdI s1').2, by unfold rdI; cases s1'.inp <;> rfl, ?_⟩
       rw [i1]
       exact .ok _ _ _ i2
      rw [if_neg q5] at h ⊢
      by_cases q6 : t.kind = 6
      ·rw [if_pos q6] at h ⊢; cases h; exact ⟨_, rfl, .ok _ _ _ hR1⟩
      rw [if_neg q6] at h ⊢
      by_cases q7 : t.kind = 7
      ·rw [if_pos q7] at h ⊢; cases h; exact ⟨_, rfl, .ok _ _ _ hR1⟩
      rw [if_neg q7] at h ⊢
      cases hf : ffind fs t.name with
      | none => rw [hf] at h; simp at h
      | some f =>
       rw [hf] at h
       obtain ⟨f', g1, g2⟩ := H _ _ hf
       rw [g1]
       exact ih.c G1 c d f f' ks s1 s1' r hG1 hc g2 hR1 h hr
  ·obtain ⟨G1, rfl, hG1⟩ := gas_succ hG
   cases l with
   | nil => rw [evK] at h ⊢; cases h; exact ⟨_, rfl, .ok _ _ _ hR⟩
   | cons t l =>
    rw [evK] at h ⊢
    cases hx : evX g fs d vs t s with
    | none => rw [hx] at h; simp at h
    | some q =>
     rw [hx] at h
     cases q with
     | err z =>
      cases h
      obtain ⟨r', e1, e2⟩ := ih.x G1 c d vs t _ _ _ hG1 hc hR hx (ne_err hr)
      rw [e1]; cases e2; exact ⟨_, rfl, .err z⟩
     | ok v s1 =>
      obtain ⟨r', e1, e2⟩ := ih.x G1 c d vs t _ _ _ hG1 hc hR hx ne_ok
      rw [e1]
      cases e2 with
      | ok _ _ s1' hR1 => exact ih.k G1 c d vs _ l _ _ _ hG1 hc hR1 h hr
  ·obtain ⟨G1, rfl, hG1⟩ := gas_succ hG
   rw [evC] at h ⊢
   by_cases hd : d = 12
   ·rw [if_pos hd] at h ⊢; cases h; exact ⟨_, rfl, .err _⟩
   ·rw [if_neg hd] at h ⊢
    rw [hU.2.2.1]
    cases hb : evB g fs (d + 1) (vbind [] f.ps al) f.body s with
    | none => rw [hb] at h; simp at h
    | some q =>
     rw [hb] at h
     cases q with
     | err z =>
      cases h
      obtain ⟨r', e1, e2⟩ := ih.b G1 c _ _ _ _ _ _ _ hG1 hc hU.2.2.2 hR hb (ne_err hr)
      rw [e1]; cases e2; exact ⟨_, rfl, .err z⟩
     | ok p s1 =>
      obtain ⟨r', e1, e2⟩ := ih.b G1 c _ _ _ _ _ _ _ hG1 hc hU.2.2.2 hR hb ne_ok
      obtain ⟨vs1, ro⟩ := p
      rw [e1]
      cases e2 with
      | ok _ _ s1' hR1 => cases h; exact ⟨_, rfl, .ok _ _ _ hR1⟩
  ·obtain ⟨G1, rfl, hG1⟩ := gas_succ hG
   cases hU with
   | nil => rw [evB] at h ⊢; cases h; exact ⟨_, rfl, .ok _ _ _ hR⟩
   | same hU =>
    rw [evB] at h ⊢
    cases hx : evS g fs d vs _ s with
    | none => rw [hx] at h; simp at h
    | some q =>
     rw [hx] at h
     cases q with
     | err z =>
      cases h
      obtain ⟨r', e1, e2⟩ := ih.s G1 c d vs _ _ _ _ hG1 hc hR hx (ne_err hr)
      rw [e1]; cases e2; exact ⟨_, rfl, .err z⟩
     | ok p s1 =>
      obtain ⟨vs1, ro⟩ := p
      obtain ⟨r', e1, e2⟩ := ih.s G1 c d vs _ _ _ _ hG1 hc hR hx ne_ok
      rw [e1]
      cases e2 with
      | ok _ _ s1' hR1 =>
       cases ro with
       | some y => cases h; exact ⟨_, rfl, .ok _ _ _ hR1⟩
       | none => exact ih.b G1 c d vs1 _ _ _ _ _ hG1 hc hU hR1 h hr
   | here h1 hU =>
    rw [evB] at h ⊢
    cases hx : evS g fs d vs _ s with
    | none => rw [hx] at h; simp at h
    | some q =>
     rw [hx] at h
     cases q with
     | err z =>
      cases h
      obtain ⟨r', e1, e2⟩ := stU ihs h1 hG1 hc hR hx (ne_err hr)
      rw [e1]; cases e2; exact ⟨_, rfl, .err z⟩
     | ok p s1 =>
      obtain ⟨vs1, ro⟩ := p
      obtain ⟨r', e1, e2⟩ := stU ihs h1 hG1 hc hR hx ne_ok
      rw [e1]
      cases e2 with
      | ok _ _ s1' hR1 =>
       cases ro with
       | some y => cases h; exact ⟨_, rfl, .ok _ _ _ hR1⟩
       | none => exact ih.b G1 c d vs1 _ _ _ _ _ hG1 hc hU hR1 h hr
  ·obtain ⟨G1, rfl, hG1⟩ := gas_succ hG
   rw [evS] at h ⊢
   by_cases hf : s.fuel ≤ 0
   ·rw [if_pos hf] at h; cases h; exact absurd rfl hr
   ·obtain ⟨hf', hRp⟩ := hR.pay0 hc (by omega)
    rw [if_neg hf] at h
    rw [if_neg (by omega)]
    cases he : t.es with
    | nil => rw [he] at h; simp at h
    | cons e es =>
     rw [he] at h
     dsimp only at h ⊢
     cases hx : evX g fs d vs e { s with fuel := s.fuel - 1 } with
     | none => rw [hx] at h; simp at h
     | some q =>
      rw [hx] at h
      cases q with
      | err z =>
       cases h
       obtain ⟨r', e1, e2⟩ := ih.x G1 c d vs e _ _ _ hG1 hc hRp hx (ne_err hr)
       rw [e1]; cases e2; exact ⟨_, rfl, .err z⟩
      | ok v s1 =>
       obtain ⟨r', e1, e2⟩ := ih.x G1 c d vs e _ _ _ hG1 hc hRp hx ne_ok
       rw [e1]
       cases e2 with
       | ok _ _ s1' hR1 =>
       dsimp only at h ⊢
       by_cases q1 : t.kind = 1 ∨ t.kind = 2
       ·rw [if_pos q1] at h ⊢; cases h; exact ⟨_, rfl, .ok _ _ _ hR1⟩
       rw [if_neg q1] at h ⊢
       by_cases q3 : t.kind = 3
       ·rw [if_pos q3] at h ⊢
        cases es with
        | nil => simp at h
        | cons e2 es =>
         dsimp only at h ⊢
         cases hy : evX g fs d vs e2 s1 with
         | none => rw [hy] at h; simp at h
         | some q =>
          rw [hy] at h
          cases q with
          | err z =>
           cases h
           obtain ⟨r', e1, e2⟩ := ih.x G1 c d vs e2 _ _ _ hG1 hc hR1 hy (ne_err hr)
           rw [e1]; cases e2; exact ⟨_, rfl, .err z⟩
          | ok w s2 =>
           obtain ⟨r', e1, e2⟩ := ih.x G1 c d vs e2 _ _ _ hG1 hc hR1 hy ne_ok
           rw [e1]
           cases e2 with
           | ok _ _ s2' hR2 => cases h; exact ⟨_, rfl, .ok _ _ _ (hR2.put _ _)⟩
       rw [if_neg q3] at h ⊢
       by_cases q4 : t.kind = 4
       ·rw [if_pos q4] at h ⊢
        exact ih.b G1 c _ _ _ _ _ _ _ hG1 hc (Ub.refl _) hR1 h hr
       rw [if_neg q4] at h ⊢
       by_cases q5 : t.kind = 5
       ·rw [if_pos q5] at h ⊢; exact ih.w G1 c _ _ _ _ _ _ _ _ hG1 hc hR1 h hr
       rw [if_neg q5] at h ⊢
       by_cases q6 : t.kind = 6
       ·rw [if_pos q6] at h ⊢; cases h; exact ⟨_, rfl, .ok _ _ _ hR1⟩
       rw [if_neg q6] at h ⊢
       by_cases q7 : t.kind = 7
       ·rw [if_pos q7] at h ⊢; cases h; exact ⟨_, rfl, .ok _ _ _ (hR1.out _)⟩
       rw [if_neg q7] at h ⊢
       cases h; exact ⟨_, rfl, .ok _ _ _ hR1⟩
  ·obtain ⟨G1, rfl, hG1⟩ := gas_succ hG
   rw [evW] at h ⊢
   by_cases hv : v = 0
   ·rw [if_pos hv] at h ⊢; cases h; exact ⟨_, rfl, .ok _ _ _ hR⟩
   ·rw [if_neg hv] at h ⊢
    cases hy : evB g fs d vs l s with
    | none => rw [hy] at h; simp at h
    | some q =>
     rw [hy] at h
     cases q with
     | err z =>
      cases h
      obtain ⟨r', e1, e2⟩ := ih.b G1 c _ _ _ _ _ _ _ hG1 hc (Ub.refl _) hR hy (ne_err hr)
      rw [e1]; cases e2; exact ⟨_, rfl, .err z⟩
     | ok p s1 =>
      obtain ⟨vs1, ro⟩ := p
      obtain ⟨r', e1, e2⟩ := ih.b G1 c _ _ _ _ _ _ _ hG1 hc (Ub.refl _) hR hy ne_ok
      rw [e1]
      cases e2 with
      | ok _ _ s1' hR1 =>
       cases ro with
       | some y => cases h; exact ⟨_, rfl, .ok _ _ _ hR1⟩
       | none =>
        dsimp only at h ⊢
        cases hx : evX g fs d vs1 e s1 with
        | none => rw [hx] at h; simp at h
        | some q =>
         rw [hx] at h
         cases q with
         | err z =>
          cases h
          obtain ⟨r', e1, e2⟩ := ih.x G1 c d vs1 e _ _ _ hG1 hc hR1 hx (ne_err hr)
          rw [e1]; cases e2; exact ⟨_, rfl, .err z⟩
         | ok w s2 =>
          obtain ⟨r', e1, e2⟩ := ih.x G1 c d vs1 e _ _ _ hG1 hc hR1 hx ne_ok
          rw [e1]
          cases e2 with
          | ok _ _ s2' hR2 => exact ih.w G1 c _ _ _ _ _ _ _ _ hG1 hc hR2 h hr
theorem upF_tail {f f' : Tf} {fs fs' : List Tf} (h : UpF (f :: fs) (f' :: fs')) : Uf f f' ∧ UpF fs fs' := ⟨h.2 0 f f' rfl rfl, by have := h.1; simpa using this, fun j g g' h1 h2 => h.2 (j + 1) g g' h1 h2⟩
theorem upF_find : ∀ {fs fs' : List Tf}, UpF fs fs' → ∀ nm, (ffind fs nm = none ∧ ffind fs' nm = none) ∨ ∃ f f', ffind fs nm = some f ∧ ffind fs' nm = some f' ∧ Uf f f'
 | [], fs', h, nm => by
  have : fs' = [] := List.eq_nil_of_length_eq_zero (by have := h.1; simpa using this)
  subst this
  exact .inl ⟨rfl, rfl⟩
 | f :: fs, [], h, nm => by have := h.1; simp at this
 | f :: fs, f' :: fs', h, nm => by
  obtain ⟨h1, h2⟩ := upF_tail h
  unfold ffind
  rw [List.find?_cons, List.find?_cons, h1.1]
  by_cases hn : f.name = nm
  ·rw [decide_eq_true hn]
   exact .inr ⟨f, f', rfl, rfl, h1⟩
  ·rw [decide_eq_false hn]
   exact upF_find h2 nm
theorem upF_fsU {fs fs' : List Tf} (h : UpF fs fs') : FsU fs fs' := fun nm f hf => by
 rcases upF_find h nm with ⟨h1, _⟩ | ⟨g, g', h1, h2, h3⟩
 ·rw [h1] at hf; cases hf
 ·rw [h1] at hf; cases hf; exact ⟨g', h2, h3⟩
mutual
theorem eX_up {fs fs' : List Tf} (h : UpF fs fs') (ns : List ByteArray) : ∀ t, eX fs ns t = eX fs' ns t
 | .mk k n nm v kids => by
  rw [eX, eX, eXs_up h ns kids]
  rcases upF_find h nm with ⟨h1, h2⟩ | ⟨g, g', h1, h2, h3⟩
  ·rw [h1, h2]
  ·rw [h1, h2]
   dsimp only
   rw [h3.2.2.1]
theorem eXs_up {fs fs' : List Tf} (h : UpF fs fs') (ns : List ByteArray) : ∀ l, eXs fs ns l = eXs fs' ns l
 | [] => rfl
 | t :: r => by rw [eXs, eXs, eX_up h ns t, eXs_up h ns r]
end
mutual
theorem bY_up {fs fs' : List Tf} (h : UpF fs fs') : ∀ (ns : List ByteArray) (t : Ty), bY fs ns t = bY fs' ns t
 | ns, .mk k nm _ es _ body _ els => by
  rw [bY, bY]
  rw [eXs_up h ns es, bYs_up h _ body, bYs_up h _ els]
theorem bYs_up {fs fs' : List Tf} (h : UpF fs fs') : ∀ (ns : List ByteArray) (l : List Ty), bYs fs ns l = bYs fs' ns l
 | ns, [] => rfl
 | ns, t :: r => by
  rw [bYs, bYs]
  rw [bY_up h ns t, bYs_up h _ r]
end
mutual
theorem bY0 {fs : List Tf} : ∀ (ns : List ByteArray) (t : Ty), vY t = 0 → (bY fs ns t).1 = ns
 | ns, .mk k nm _ es _ body _ els, h => by
  rw [vY] at h
  rw [bY]
  have hk : ¬ k = 1 := fun e => by rw [if_pos e] at h; omega
  rw [if_neg hk, bYs0 ns body (by omega), bYs0 ns els (by omega)]
theorem bYs0 {fs : List Tf} : ∀ (ns : List ByteArray) (l : List Ty), vYs l = 0 → (bYs fs ns l).1 = ns
 | ns, [], _ => rfl
 | ns, t :: r, h => by
  rw [vYs] at h
  rw [bYs]
  rw [bY0 ns t (by omega), bYs0 ns r (by omega)]
end
theorem wr_els {t : Ty} (h : rY t = true) (hk : t.kind = 5) : t.els = [] := by
 rw [rY_def] at h
 simp only [Bool.and_eq_true] at h
 obtain ⟨_, _, _, _, h5⟩ := okY_es h.1.1.1
 rcases h5 with h5 | h5
 ·omega
 ·exact List.eq_nil_of_length_eq_zero h5
theorem rY_uw {t t' : Ty} (h : Uw t t') (hr : rY t' = true) : rY t = true := by
 obtain ⟨_, _, b, rfl⟩ := h
 rw [rY_def] at hr
 simp only [Bool.and_eq_true] at hr
 have h2 : (t.body ++ [t]).all rY = true := hr.1.2
 rw [List.all_append, Bool.and_eq_true] at h2
 simpa using h2.2
theorem Ub.ry {l l' : List Ty} (h : Ub l l') : l'.all rY = true → l.all rY = true := by
 induction h with
 | nil => exact fun h => h
 | same _ ih =>
  intro h
  simp only [List.all_cons, Bool.and_eq_true] at h ⊢
  exact ⟨h.1, ih h.2⟩
 | here h1 _ ih =>
  intro h
  simp only [List.all_cons, Bool.and_eq_true] at h ⊢
  exact ⟨rY_uw h1 h.1, ih h.2⟩
theorem Ub.size {l l' : List Ty} (h : Ub l l') : vYs l ≤ vYs l' ∧ nYs l ≤ nYs l' ∧ dSs l ≤ dSs l' ∧ dqs l ≤ dqs l' := by
 induction h with
 | nil => exact ⟨Nat.le_refl _, Nat.le_refl _, Nat.le_refl _, Nat.le_refl _⟩
 | same _ ih => simp only [vYs, nYs, dSs, dqs]; omega
 | here h1 _ ih =>
  rename_i t t' l l' _
  obtain ⟨_, _, b, rfl⟩ := h1
  have e1 := vYs_app t.body [t]
  have e2 := nYs_app t.body [t]
  have e3 := dSs_app t.body [t]
  have e4 := dqs_app t.body [t]
  simp only [vYs, nYs, dSs, dqs, vY, nY, dS, dq] at e1 e2 e3 e4 ⊢
  rw [e1, e2, e3, e4]
  omega
theorem Ub.names {fs fs' : List Tf} (hp : UpF fs fs') {l l' : List Ty} (h : Ub l l') : ∀ ns, l'.all rY = true → (bYs fs' ns l').2 = 0 → (bYs fs ns l).2 = 0 ∧ (bYs fs ns l).1 = (bYs fs' ns l').1 := by
 induction h with
 | nil => exact fun ns _ h => ⟨rfl, rfl⟩
 | same _ ih =>
  rename_i t l l' _
  intro ns hr hb
  simp only [List.all_cons, Bool.and_eq_true] at hr
  rw [bYs] at hb ⊢
  rw [bYs]
  dsimp only at hb ⊢
  rw [fst_eq_zero] at hb
  obtain ⟨i1, i2⟩ := ih _ hr.2 hb.2
  rw [bY_up hp ns t]
  exact ⟨fst_eq_zero.2 ⟨hb.1, i1⟩, i2⟩
 | here h1 _ ih =>
  rename_i t t' l l' _
  intro ns hr hb
  simp only [List.all_cons, Bool.and_eq_true] at hr
  have hrt := rY_uw h1 hr.1
  obtain ⟨hk, hv, b, rfl⟩ := h1
  have hels := wr_els hrt hk
  have hvt : vY t = 0 := by
   rw [vY_def, hels, hv, if_neg (by omega)]
   rfl
  rw [bYs] at hb ⊢
  rw [bYs]
  dsimp only at hb ⊢
  rw [fst_eq_zero] at hb
  obtain ⟨hb1, hb2⟩ := hb
  have ht' : bY fs' ns (.mk 4 oNil t.ve t.es b (t.body ++ [t]) nilS []) = (ns, fst (eXs fs' ns t.es) (bYs fs' ns (t.body ++ [t])).2) := by
   rw [bY]
   rw [if_neg (by decide), if_neg (by decide), if_neg (by decide), bYs, zero_fst, zero_fst, fst_zero, bYs_app, bYs0 ns t.body hv]
   dsimp only
   rw [bYs0 ns [t] (by rw [vYs, vYs, hvt])]
  rw [ht'] at hb1 hb2 ⊢
  dsimp only at hb1 hb2 ⊢
  rw [fst_eq_zero, bYs_app, fst_eq_zero] at hb1
  have ht : bY fs ns t = (ns, 0) := by
   rw [bY_eq]
   have hd : dN ns t = ns := by unfold dN; rw [if_neg (by omega)]
   rw [hd, hels, bYs_up hp ns t.body, bYs0 ns t.body hv]
   have ha : aE ns t = 0 := by unfold aE; rw [if_neg (by omega)]
   have hde : dE ns t = 0 := by unfold dE; rw [if_neg (by omega)]
   rw [ha, hde, eXs_up hp ns t.es, hb1.1, hb1.2.1]
   rfl
  obtain ⟨i1, i2⟩ := ih ns hr.2 hb2
  rw [ht]
  exact ⟨fst_eq_zero.2 ⟨rfl, i1⟩, i2⟩
theorem chkFs_all {fs : List Tf} : ∀ {l : List Tf}, (∀ f ∈ l, chkF fs f = 0) → chkFs fs l = 0
 | [], _ => rfl
 | f :: r, h => by
  rw [chkFs, h f (List.mem_cons_self ..), chkFs_all fun f hf => h f (List.mem_cons_of_mem _ hf)]
  rfl
theorem chk_iff {fs : List Tf} : chk fs = 0 ↔ rP fs = true ∧ fs.length ≤ 16 ∧ once fs = true ∧ ∃ f, ffind fs nMain = some f ∧ f.ps.length = 0 ∧ ∀ f ∈ fs, chkF fs f = 0 := by
 constructor
 ·intro h
  unfold chk at h
  split at h
  ·cases h
  ·rename_i h1
   split at h
   ·cases h
   ·rename_i h2
    split at h
    ·cases h
    ·rename_i h3
     split at h
     ·cases h
     ·rename_i f hf
      split at h
      ·cases h
      ·rename_i h4
       exact ⟨by simpa using h1, by omega, by simpa using h3, f, hf, by omega, chkFs_mem h⟩
 ·rintro ⟨h1, h2, h3, f, h4, h5, h6⟩
  unfold chk
  rw [h1, h3, if_neg (by simp), if_neg (by omega), if_neg (by simp), h4]
  dsimp only
  rw [if_neg (by omega), chkFs_all h6]
theorem upF_back {fs fs' : List Tf} (h : UpF fs fs') {j : Nat} {f : Tf} (hf : fs[j]? = some f) : ∃ f', fs'[j]? = some f' ∧ Uf f f' := by
 obtain ⟨hj, -⟩ := List.getElem?_eq_some_iff.1 hf
 obtain ⟨f', hf'⟩ : ∃ f', fs'[j]? = some f' := ⟨_, List.getElem?_eq_getElem (by have := h.1; omega)⟩
 exact ⟨f', hf', h.2 j f f' hf hf'⟩
theorem idx_up (nm : ByteArray) : ∀ {fs fs' : List Tf}, UpF fs fs' → fs.findIdx? (fun f => decide (f.name = nm)) = fs'.findIdx? (fun f => decide (f.name = nm))
 | [], fs', h => by
  have : fs' = [] := List.eq_nil_of_length_eq_zero (by have := h.1; simpa using this)
  subst this
  rfl
 | f :: fs, [], h => by have := h.1; simp at this
 | f :: fs, f' :: fs', h => by
  obtain ⟨h1, h2⟩ := upF_tail h
  rw [List.findIdx?_cons, List.findIdx?_cons, h1.1, idx_up nm h2]
theorem fix_up {fs fs' : List Tf} (h : UpF fs fs') (nm : ByteArray) : fix fs nm = fix fs' nm := by
 unfold fix ixF
 rw [idx_up nm h]
theorem chk_up {fs fs' : List Tf} (h : UpF fs fs') (hc : chk fs' = 0) : chk fs = 0 := by
 rw [chk_iff] at hc ⊢
 obtain ⟨h1, h2, h3, f', h4, h5, h6⟩ := hc
 have hrf : ∀ f' ∈ fs', rF f' = true := List.all_eq_true.1 h1
 refine ⟨List.all_eq_true.2 fun f hf => ?_, by rw [← h.1]; exact h2, once_iff.2 fun i f hf => ?_, ?_⟩
 ·obtain ⟨j, hj⟩ := List.getElem?_of_mem hf
  obtain ⟨g, hg, u1, u2, u3, u4⟩ := upF_back h hj
  have := hrf g (List.mem_of_getElem? hg)
  rw [rF_def] at this ⊢
  simp only [Bool.and_eq_true] at this ⊢
  rw [← u1, ← u3]
  exact ⟨this.1, u4.ry this.2⟩
 ·obtain ⟨g, hg, u1, _⟩ := upF_back h hf
  rw [fix_up h, ← u1]
  exact once_iff.1 h3 i g hg
 ·rcases upF_find h nMain with ⟨_, q2⟩ | ⟨g, g', q1, q2, q3⟩
  ·rw [q2] at h4; cases h4
  ·rw [q2] at h4
   cases h4
   refine ⟨g, q1, by rw [← q3.2.2.1]; exact h5, fun f hf => ?_⟩
   obtain ⟨j, hj⟩ := List.getElem?_of_mem hf
   obtain ⟨k, hk, u1, u2, u3, u4⟩ := upF_back h hj
   have hkm := List.mem_of_getElem? hk
   have e1 := h6 k hkm
   rw [chkF_eq, fst_eq_zero, fst_eq_zero] at e1 ⊢
   obtain ⟨e1, e2, e3⟩ := e1
   have hb : ¬ big k := fun hb => by rw [if_pos hb] at e1; cases e1
   obtain ⟨s1, s2, s3, s4⟩ := u4.size
   have hb2 : ¬ big f := by
    rw [big_iff] at hb ⊢
    rw [u3] at hb
    omega
   have hr := hrf k hkm
   rw [rF_def] at hr
   simp only [Bool.and_eq_true] at hr
   refine ⟨by rw [if_neg hb2], by rw [← u3]; exact e2, ?_⟩
   rw [u3] at e3
   exact (u4.names h f.ps hr.2 e3).1
theorem unroll_run {fs fs' : List Tf} {ins : List Int} {r r' : Ru} (h : UpF fs fs') (hc : chk fs' = 0) (h1 : RunIs fs ins 3000 r) (h2 : RunIs fs' ins 6000 r') (hr : r.err ≠ 25) : r' = r := by
 cases h1 with
 | bad h3 => exact absurd (chk_up h hc) h3
 | run f g q h3 hf he =>
  have hq : q ≠ .err 25 := by
   intro h4
   subst h4
   exact hr rfl
  obtain ⟨f', hf', hu⟩ := upF_fsU h _ _ hf
  obtain ⟨r2, e1, e2⟩ := (simU (upF_fsU h) g g (Nat.le_refl g)).c (4 ^ g) 0 0 f f' [] (ms0 ins 3000) (ms0 ins 6000) q (Nat.le_refl _) (Int.le_refl _) hu ⟨rfl, rfl, rfl, by show 2 * 3000 + 0 ≤ (6000 : Int); decide⟩ he hq
  rw [runIs_fun h2 (.run f' _ r2 hc hf' e1)]
  cases e2 with
  | ok a s s' hs => unfold ruOf; dsimp only; rw [hs.2.1, hs.2.2.1]
  | err z => rfl
theorem nYs_len : ∀ l : List Ty, l.length ≤ nYs l
 | [] => Nat.zero_le _
 | t :: r => by
  have h := nYs_len r
  have h2 := nY_def t
  rw [List.length_cons, nYs]
  omega
/-- Programs of bounded size. -/
def GFk (k : Nat) (f : Tf) : Prop := nmB f.name ∧ (∀ s ∈ f.ps, nmB s) ∧ GYs f.body ∧ f.ps.length + nYs f.body ≤ k
def GPk (k : Nat) (fs : List Tf) : Prop := fs.length ≤ k ∧ ∀ f ∈ fs, GFk k f
theorem GPk.gp {k : Nat} {fs : List Tf} (hk : k ≤ 1000000) (h : GPk k fs) : GP fs := ⟨Nat.le_trans h.1 hk, fun f hf => by
 obtain ⟨h1, h2, h3, h4⟩ := h.2 f hf
 have := nYs_len f.body
 exact ⟨h1, h2, by omega, by omega, h3, by omega⟩⟩
theorem GBr.gfk {l : List Int} {fs : List (ByteArray × List ByteArray)} {s0 : Gs} (hf : ∀ f ∈ fs, Hok f) : ∀ {i : Nat} {ps : List Pf} {s : Gs}, GBr l fs s0 i ps s → ∀ ts : List Tf, ts.map erF = ps → ts.length = i ∧ ∀ t ∈ ts, GFk 50000 t
 | _, _, _, .zero, ts, ht => by
  cases List.map_eq_nil_iff.1 ht
  exact ⟨rfl, fun t h => by simp at h⟩
 | _, _, _, .step (s := s) (s2 := s2) (f := f) (b := b) h hx hb, ts, ht => by
  obtain ⟨u, v, rfl, hu, hv⟩ := List.map_eq_append_iff.1 ht
  obtain ⟨t, r, rfl, h1, hr⟩ := List.map_eq_cons_iff.1 hv
  cases List.map_eq_nil_iff.1 hr
  obtain ⟨i1, i2⟩ := h.gfk hf u hu
  have hfk := hf f (List.mem_of_getElem? hx)
  have hbi : GInv { s with left := 8, nodes := 150, vars := 0, names := f.2 } := ⟨Int.le_refl _, by show (0 : Int) ≤ 8; decide, by show (f.2.length : Int) ≤ 100 + 0; have := hfk.2.1; omega, by show (8 : Int) ≤ 1000; decide⟩
  have hbn : Nm { s with left := 8, nodes := 150, vars := 0, names := f.2 } := hfk.2.2
  have hbody : erYs t.body = b := congrArg Pf.body h1
  have hname : t.name = f.1 := congrArg Pf.name h1
  have hps : t.ps = f.2 := congrArg Pf.ps h1
  obtain ⟨⟨a1, a2, a3⟩, a4⟩ := hb.gy (fun f h => ⟨(hf f h).1, (hf f h).2.1⟩) hbi hbn t.body hbody
  have hl0 : 0 ≤ s2.left := hb.left0 (by show (0 : Int) ≤ 8; decide)
  refine ⟨by rw [List.length_append, i1]; rfl, fun t' ht' => ?_⟩
  rcases List.mem_append.1 ht' with h' | h'
  ·exact i2 t' h'
  ·rw [List.mem_singleton.1 h']
   have h5 := hfk.2.1
   have a2' : (nYs t.body : Int) ≤ 4000 * (8 - s2.left) + 0 := a2
   exact ⟨hname ▸ hfk.1, hps ▸ hfk.2.2, a1, by rw [hps]; omega⟩
theorem gMr_gpk {l : List Int} {ts : List Tf} (h : GMr l (ts.map erF)) : GPk 50000 ts := by
 obtain ⟨s, h⟩ := h
 obtain ⟨h1, h2⟩ := h.gfk (hds_ok _ _ _) ts rfl
 have := gMany_bd l
 exact ⟨by omega, h2⟩
theorem tfs_mono {w : World} {F F' : Nat → Prop} {v : SV} {l : List Tf} (h : (tfsA v l).pred w F) (hs : ∀ b, F b → F' b) : (tfsA v l).pred w F' := ⟨h.1.mono hs, fun f hf => ⟨(h.2 f hf).1.mono hs, (h.2 f hf).2.1.mono hs, TysIn.mono hs (fun _ _ => rfl) _ (h.2 f hf).2.2⟩⟩
/-- Two programs that share parts can be read. -/
def tf2A (vp : SV) (fs : List Tf) (v : SV) (l : List Tf) : Asn := ⟨fun w F => (tfsA vp fs).pred w F ∧ (tfsA v l).pred w F, fun h hs => ⟨(tfsA _ _).stable h.1 hs, (tfsA _ _).stable h.2 hs⟩⟩
theorem gys_app : ∀ {a b : List Ty}, GYs a → GYs b → GYs (a ++ b)
 | [], _, _, h => h
 | _ :: _, _, h, h2 => ⟨h.1, gys_app h.2 h2⟩
theorem TysIn_app {w : World} {F : Nat → Prop} : ∀ {a b : List Ty}, TysIn w F a → TysIn w F b → TysIn w F (a ++ b)
 | [], _, _, h => h
 | _ :: _, _, h, h2 => ⟨h.1, TysIn_app h.2 h2⟩
theorem ny0 {w : World} {F : Nat → Prop} : SlIn' w F 5 eTy (sv nilS) [] ∧ TysIn w F [] := ⟨nil_in, trivial⟩
theorem tf2_a {vp v : SV} {fs l : List Tf} : ∀ w G, (tf2A vp fs v l).pred w G → (∀ b, G b → b < w.heap.size) → ∃ G', (tfsA vp fs).pred w G' ∧ ∀ b, G' b → G b := fun w G h _ => ⟨G, h.1, fun _ hb => hb⟩
theorem tf2_b {vp v : SV} {fs l : List Tf} : ∀ w G, (tf2A vp fs v l).pred w G → (∀ b, G b → b < w.heap.size) → ∃ G', (tfsA v l).pred w G' ∧ ∀ b, G' b → G b := fun w G h _ => ⟨G, h.2, fun _ hb => hb⟩
theorem Ub.gy {l l' : List Ty} (h : Ub l l') : GYs l → nYs l ≤ 50000 → GYs l' ∧ nYs l' ≤ 2 * nYs l := by
 induction h with
 | nil => exact fun h _ => ⟨h, Nat.le_refl _⟩
 | same _ ih =>
  intro hg hn
  simp only [nYs] at hn ⊢
  obtain ⟨i1, i2⟩ := ih hg.2 (by omega)
  exact ⟨⟨hg.1, i1⟩, by omega⟩
 | here h1 _ ih =>
  rename_i t t' l l' _
  intro hg hn
  simp only [nYs] at hn ⊢
  obtain ⟨i1, i2⟩ := ih hg.2 (by omega)
  obtain ⟨_, _, b, rfl⟩ := h1
  obtain ⟨e1, e2⟩ := GY_es hg.1
  obtain ⟨b1, b2⟩ := GY_body hg.1
  have hd := nY_def t
  have hl := nYs_len t.body
  have e3 := nYs_app t.body [t]
  refine ⟨⟨⟨nmB_of rfl, ⟨e1, e2⟩, ⟨by rw [List.length_append, List.length_singleton]; omega, gys_app b2 ⟨hg.1, trivial⟩⟩, Nat.zero_le _, trivial⟩, i1⟩, ?_⟩
  simp only [nY, nYs] at e3 ⊢
  omega
theorem gpk_up {fs l : List Tf} (h : GPk 50000 fs) (hu : UpF fs l) : GPk 100000 l := by
 refine ⟨by rw [hu.1]; have := h.1; omega, fun g hg => ?_⟩
 obtain ⟨j, hj⟩ := List.getElem?_of_mem hg
 obtain ⟨hjl, -⟩ := List.getElem?_eq_some_iff.1 hj
 obtain ⟨f, hf⟩ : ∃ f, fs[j]? = some f := ⟨_, List.getElem?_eq_getElem (by have := hu.1; omega)⟩
 obtain ⟨u1, u2, u3, u4⟩ := hu.2 j f g hf hj
 obtain ⟨g1, g2, g3, g4⟩ := h.2 f (List.mem_of_getElem? hf)
 obtain ⟨i1, i2⟩ := u4.gy g3 (by omega)
 exact ⟨u1 ▸ g1, u3 ▸ g2, i1, by rw [u3]; omega⟩
theorem Ub.tys {w : World} {F : Nat → Prop} {l l' : List Ty} (h : Ub l l') : ∀ (bl0 : List Ty) (i : Nat), (∀ k t, l[k]? = some t → bl0[i + k]? = some t) → TysIn w F bl0 → (∀ (k : Nat) (t : Ty), l'[k]? = some t → bl0[i + k]? = some t ∨ SlIn' w F 5 eTy (sv t.vb) t.body) → TysIn w F l' := by
 induction h with
 | nil => exact fun _ _ _ _ _ => trivial
 | same _ ih =>
  rename_i t l l' _
  intro bl0 i h1 h2 h3
  refine ⟨h2.mem t (List.mem_of_getElem? (h1 0 t rfl)), ih bl0 (i + 1) (fun k u hk => ?_) h2 fun k u hk => ?_⟩
  ·have := h1 (k + 1) u hk
   rwa [show i + (k + 1) = i + 1 + k by omega] at this
  ·have := h3 (k + 1) u hk
   rwa [show i + (k + 1) = i + 1 + k by omega] at this
 | here hw _ ih =>
  rename_i t t' l l' _
  intro bl0 i h1 h2 h3
  refine ⟨?_, ih bl0 (i + 1) (fun k u hk => ?_) h2 fun k u hk => ?_⟩
  ·obtain ⟨hk5, _, b, rfl⟩ := hw
   have ht0 := h1 0 t rfl
   have ht := h2.mem t (List.mem_of_getElem? ht0)
   rcases h3 0 _ rfl with hs | hs
   ·rw [ht0] at hs
    have := Option.some.inj hs
    rw [this] at hk5
    exact absurd hk5 (by show ¬ (4 : Int) = 5; decide)
   ·have ht2 := ht
    obtain ⟨k0, nm0, ve0, es0, vb0, body0, vl0, els0⟩ := t
    exact ⟨ht.1, ⟨hs, TysIn_app ht.2.1.2 ⟨ht2, trivial⟩⟩, ny0⟩
  ·have := h1 (k + 1) u hk
   rwa [show i + (k + 1) = i + 1 + k by omega] at this
  ·have := h3 (k + 1) u hk
   rwa [show i + (k + 1) = i + 1 + k by omega] at this
theorem tf2_un {T : Nat} {vp v : SV} {fs l : List Tf} (hu : UpF fs l) (w : World) (F : Nat → Prop) (h : AllIn w F [tfsA vp fs, unA fs l, own T 3 eTf (sv v) l]) : (tf2A vp fs v l).pred w F := by
 obtain ⟨⟨_, a0, b0⟩, ⟨_, a1, b1⟩, ⟨_, a2, b2⟩, _⟩ := h
 have h0 := tfs_mono a0 b0
 refine ⟨h0, own_in a2 b2, fun g hg => ?_⟩
 obtain ⟨j, hj⟩ := List.getElem?_of_mem hg
 obtain ⟨hjl, -⟩ := List.getElem?_eq_some_iff.1 hj
 obtain ⟨f, hf⟩ : ∃ f, fs[j]? = some f := ⟨_, List.getElem?_eq_getElem (by have := hu.1; omega)⟩
 obtain ⟨u1, u2, u3, u4⟩ := hu.2 j f g hf hj
 obtain ⟨c1, c2⟩ := a1 j f g hf hj
 have hfi := h0.2 f (List.mem_of_getElem? hf)
 have c3 := unB_mono c2 b1
 refine ⟨by rw [u2, u3]; exact hfi.1, c1.mono b1, u4.tys f.body 0 (fun k t hk => by rw [Nat.zero_add]; exact hk) hfi.2.2 fun k t hk => ?_⟩
 rw [Nat.zero_add]
 exact c3 k t hk
set_option maxHeartbeats 8000000 in
set_option maxRecDepth 100000 in
theorem unroll_law (x0 : SV) (s : List Int) (b0 : ∀ n ∈ s, okI n) (x1 : SV) (u : List Int) (b1 : ∀ n ∈ u, oW n) :
  Spec Tryz.prog 5 [sv x0, sv x1] [] [sl 1 eI (sv x0) s, sl 1 eU (sv x1) u] (X := Unit) (fun _ => True) (fun _ => .bool true) (fun _ => []) (fun _ => []) := by
 refine r_enter Tryz.func5 rfl Tryz.ntmps5 rfl fun w0 M H => ?_
 refine r_seq (r_region (r_p (p_assign rfl) rfl (r_nil (r_seq (r_region ?_)))))
 refine r_callN (xs := []) sanity_spec cb8 [] [] [] rfl rfl rfl rfl rfl rfl rfl rfl (fun _ _ => rfl) (fun _ _ _ => rfl) rfl (fun _ _ => ?_)
 refine r_p (p_assign rfl) rfl (r_nil (r_seq (r_region (r_p (p_move rfl) rfl (r_p (p_move rfl) rfl ?_)))))
 refine r_p (p_len_sl Tryz.underlying22 rfl (hs_sl (k := 0) rfl)) rfl ?_
 refine r_p (p_min rfl rfl rfl) rfl ?_
 refine r_slice_hi (j := (min s.length 120)) 0 20 Tryz.underlying22 t3 (by intro _; rfl) rfl rfl (by omega) (by omega) rfl rfl fun v20 => ?_
 refine r_callN (xs := [.tmp 20]) (made_spec v20 (s.take (min s.length 120)) (by rw [List.length_take]; omega) (fun x hx => b0 x (List.mem_of_mem_take hx))) cb10 [] [(false, 20)] [90] rfl rfl rfl rfl rfl rfl rfl rfl (fun _ _ => rfl) (fun _ _ _ => rfl) rfl (fun ⟨vp, fs⟩ hm => ?_)
 dsimp only at hm ⊢
 have hiu : ∀ x ∈ u.take (min u.length 20), oW x := fun x hx => b1 x (List.mem_of_mem_take hx)
 have hul : (u.take (min u.length 20)).length ≤ 1000000 := (by rw [List.length_take]; omega)
 have hgk := gMr_gpk hm
 have hg := hgk.gp (by omega)
 refine r_alloc t29 rfl rfl fun b6 => ?_
 refine r_store_all (k := 6) t29 rfl rfl rfl rfl rfl rfl ?_
 refine r_nil (r_seq (r_region (r_p (p_move rfl) rfl (r_p (p_move rfl) rfl ?_))))
 refine r_p (p_len_sl Tryz.underlying23 rfl (hs_sl (k := 1) rfl)) rfl ?_
 refine r_p (p_min rfl rfl rfl) rfl ?_
 refine r_slice_hi (j := (min u.length 20)) 1 26 Tryz.underlying23 t36 (by intro _; rfl) rfl rfl (by omega) (by omega) rfl rfl fun v26 => ?_
 refine r_p (p_assign rfl) rfl (r_nil (r_seq (r_region ?_)))
 refine r_p (p_loadA t29 rfl rfl rfl (g_all (k := 6) rfl)) rfl ?_
 refine r_callN (xs := [.tmp 28]) (unrolled_spec vp fs hg) cb13 [] [(true, 90)] [51, 52] rfl rfl rfl rfl rfl rfl rfl rfl (fun _ _ => rfl) (fun _ _ _ => rfl) rfl (fun ⟨ui, found, vq, l⟩ hu => ?_)
 dsimp only at hu ⊢
 refine r_collect 53 [90, 51, 52] (C := tf2A vp fs vq l) rfl (fun w F h => tf2_un hu w F h) ?_
 refine r_freeze 53 54 rfl (fun _ _ h => h) ?_
 refine r_more 54 55 rfl tf2_a ?_
 refine r_more 54 56 rfl tf2_b ?_
 have hgl := (gpk_up hgk hu).gp (by omega)
 refine r_p (p_move rfl) rfl ?_
 refine r_p (p_extract rfl rfl) rfl ?_
 refine r_p (p_extract rfl rfl) rfl ?_
 refine r_alloc t29 rfl rfl fun b7 => ?_
 refine r_store_all (k := 7) t29 rfl rfl rfl rfl rfl rfl ?_
 refine r_p (p_assign rfl) rfl (r_nil (r_seq (r_seq (r_region (r_p (p_move rfl) rfl ?_)))))
 refine r_p (p_not rfl) rfl ?_
 refine r_p (p_move rfl) rfl ?_
 refine r_split (t := 34) rfl (fun h1 => ?_) (fun h1 => ?_)
 ·(try simp only [decide_eq_true_eq, decide_eq_false_iff_not, Bool.and_eq_true, Bool.or_eq_true, Bool.and_eq_false_iff, Bool.or_eq_false_iff, Bool.not_eq_true, Bool.not_eq_false, Bool.not_eq_true', Bool.not_eq_false', Bool.not_not, bne_iff_ne, beq_iff_eq] at h1)
  refine r_gno rfl rfl rfl rfl ?_
  refine r_gno rfl rfl rfl rfl ?_
  refine r_gno rfl rfl rfl rfl ?_
  refine r_p (p_pick rfl rfl rfl (by first | exact pick_and | exact pick_or |  rfl)) rfl ?_
  refine r_nil ?_
  refine r_cond rfl (fun h2 => ?_) (fun h2 => ?_)
  ·(try simp only [decide_eq_true_eq, decide_eq_false_iff_not, Bool.and_eq_true, Bool.or_eq_true, Bool.and_eq_false_iff, Bool.or_eq_false_iff, Bool.not_eq_true, Bool.not_eq_false, Bool.not_eq_true', Bool.not_eq_false', Bool.not_not, bne_iff_ne, beq_iff_eq] at h2)
   refine r_seq (r_region (r_p (p_move rfl) rfl (r_p (p_assign rfl) rfl (r_nil (r_cret ?_)))))
   refine r_ret () trivial rfl (rs1 (rv_tmp rfl)) rfl [] [] rfl rfl rfl
  ·exact absurd h2 (by simp)
 ·(try simp only [decide_eq_true_eq, decide_eq_false_iff_not, Bool.and_eq_true, Bool.or_eq_true, Bool.and_eq_false_iff, Bool.or_eq_false_iff, Bool.not_eq_true, Bool.not_eq_false, Bool.not_eq_true', Bool.not_eq_false', Bool.not_not, bne_iff_ne, beq_iff_eq] at h1)
  refine r_gyes rfl rfl ?_
  refine r_p (p_loadA t29 rfl rfl rfl (g_all (k := 7) rfl)) rfl ?_
  refine r_gyes rfl rfl ?_
  refine r_callN (xs := [.tmp 35]) (check8_spec vq l hgl) cb14 [] [(false, 56)] [] rfl rfl rfl rfl rfl rfl rfl rfl (fun _ _ => rfl) (fun _ _ _ => rfl) rfl (fun _ _ => ?_)
  refine r_gyes rfl rfl ?_
  refine r_p (p_bin rfl rfl b_ne) rfl ?_
  refine r_p (p_pick rfl rfl rfl (by first | exact pick_and | exact pick_or |  rfl)) rfl ?_
  refine r_nil ?_
  refine r_cond rfl (fun h3 => ?_) (fun h3 => ?_)
  ·(try simp only [decide_eq_true_eq, decide_eq_false_iff_not, Bool.and_eq_true, Bool.or_eq_true, Bool.and_eq_false_iff, Bool.or_eq_false_iff, Bool.not_eq_true, Bool.not_eq_false, Bool.not_eq_true', Bool.not_eq_false', Bool.not_not, bne_iff_ne, beq_iff_eq] at h3)
   have hc := h3
   refine r_seq (r_region (r_p (p_move rfl) rfl (r_p (p_assign rfl) rfl (r_nil (r_cret ?_)))))
   refine r_ret () trivial rfl (rs1 (rv_tmp rfl)) rfl [] [] rfl rfl rfl
  ·(try simp only [decide_eq_true_eq, decide_eq_false_iff_not, Bool.and_eq_true, Bool.or_eq_true, Bool.and_eq_false_iff, Bool.or_eq_false_iff, Bool.not_eq_true, Bool.not_eq_false, Bool.not_eq_true', Bool.not_eq_false', Bool.not_not, bne_iff_ne, beq_iff_eq] at h3)
   have hc : chk l = 0 := by simpa using h3
   refine r_skip (r_seq (r_region ?_))
   refine r_p (p_loadA t29 rfl rfl rfl (g_all (k := 6) rfl)) rfl ?_
   refine r_p (p_move rfl) rfl ?_
   obtain ⟨⟨e1, o1, m1⟩, hr1⟩ := runIs_ex (fuel := 3000) hg hiu (by omega)
   obtain ⟨⟨e2, o2, m2⟩, hr2⟩ := runIs_ex (fuel := 6000) hgl hiu (by omega)
   have hol := runIs_len hg hiu (by omega) hr1
   dsimp only at hol
   refine r_callN (xs := [.tmp 41, .tmp 42, .const (.int .i64 3000)]) (run_spec vp v26 fs (u.take (min u.length 20)) 3000 hg hiu hul (by omega) _ hr1) cb15 [] [(false, 55), (false, 26)] [60, 61] rfl rfl rfl rfl rfl rfl rfl rfl (fun _ _ => rfl) (fun _ _ _ => rfl) rfl (fun ⟨ra, rb⟩ _ => ?_)
   dsimp only
   refine r_p (p_move rfl) rfl ?_
   refine r_p (p_extract rfl rfl) rfl ?_
   refine r_p (p_extract rfl rfl) rfl ?_
   refine r_p (p_extract rfl rfl) rfl ?_
   refine r_p (p_assign rfl) rfl (r_p (p_assign rfl) rfl (r_p (p_assign rfl) rfl (r_nil (r_seq (r_region ?_)))))
   refine r_p (p_loadA t29 rfl rfl rfl (g_all (k := 7) rfl)) rfl ?_
   refine r_p (p_move rfl) rfl ?_
   refine r_callN (xs := [.tmp 48, .tmp 49, .const (.int .i64 6000)]) (run_spec vq v26 l (u.take (min u.length 20)) 6000 hgl hiu hul (by omega) _ hr2) cb15 [] [(false, 56), (false, 26)] [62, 63] rfl rfl rfl rfl rfl rfl rfl rfl (fun _ _ => rfl) (fun _ _ _ => rfl) rfl (fun ⟨rc, rd⟩ _ => ?_)
   dsimp only
   refine r_p (p_move rfl) rfl ?_
   refine r_p (p_extract rfl rfl) rfl ?_
   refine r_p (p_extract rfl rfl) rfl ?_
   refine r_p (p_extract rfl rfl) rfl ?_
   refine r_p (p_assign rfl) rfl (r_p (p_assign rfl) rfl (r_p (p_assign rfl) rfl (r_nil (r_seq (r_seq (r_region (r_p (p_move rfl) rfl ?_)))))))
   refine r_p (p_bin rfl rfl b_eq) rfl ?_
   refine r_p (p_move rfl) rfl ?_
   refine r_gp [] rfl rfl trivial (fun hg4 => p_move rfl) rfl ?_
   refine r_gp [(57, _)] rfl rfl ⟨rfl, trivial⟩ (fun hg5 => p_bin rfl rfl b_eq) rfl ?_
   refine r_p (p_pick rfl rfl rfl (by first | exact pick_and | exact pick_or |  rfl)) rfl ?_
   refine r_nil ?_
   refine r_cond rfl (fun h6 => ?_) (fun h6 => ?_)
   ·(try simp only [decide_eq_true_eq, decide_eq_false_iff_not, Bool.and_eq_true, Bool.or_eq_true, Bool.and_eq_false_iff, Bool.or_eq_false_iff, Bool.not_eq_true, Bool.not_eq_false, Bool.not_eq_true', Bool.not_eq_false', Bool.not_not, bne_iff_ne, beq_iff_eq] at h6)
    have he := h6
    refine r_seq (r_region (r_p (p_move rfl) rfl (r_p (p_assign rfl) rfl (r_nil (r_cret ?_)))))
    refine r_ret () trivial rfl (rs1 (rv_tmp rfl)) rfl [] [] rfl rfl rfl
   ·(try simp only [decide_eq_true_eq, decide_eq_false_iff_not, Bool.and_eq_true, Bool.or_eq_true, Bool.and_eq_false_iff, Bool.or_eq_false_iff, Bool.not_eq_true, Bool.not_eq_false, Bool.not_eq_true', Bool.not_eq_false', Bool.not_not, bne_iff_ne, beq_iff_eq] at h6)
    have he : ¬ e1 = 25 := fun h => by rw [h] at h6; simp at h6
    have hru := unroll_run hu hc hr1 hr2 he
    cases hru
    refine r_skip (r_seq (r_region (r_p (p_move rfl) rfl (r_p (p_move rfl) rfl ?_))))
    refine r_gyes rfl rfl ?_
    refine r_p (p_move rfl) rfl ?_
    refine r_gyes rfl rfl ?_
    refine r_p (p_move rfl) rfl ?_
    refine r_gyes rfl rfl ?_
    refine r_p (p_bin rfl rfl b_eq) rfl ?_
    with_reducible rw [decide_eq_true (rfl : e1 = e1)]
    refine r_p (p_pick rfl rfl rfl (pick_t rfl)) rfl ?_
    refine r_p (p_move rfl) rfl ?_
    refine r_gyes rfl rfl ?_
    refine r_p (p_move rfl) rfl ?_
    refine r_gyes rfl rfl ?_
    refine r_p (p_move rfl) rfl ?_
    refine r_gyes rfl rfl ?_
    refine r_freeze 60 94 rfl own_to_sl ?_
    refine r_freeze 62 95 rfl own_to_sl ?_
    refine r_callN (xs := [.tmp 68, .tmp 69]) (rwords_spec ra rc o1 o1 hol.1) cb16 [] [(false, 94), (false, 95)] [] rfl rfl rfl rfl rfl rfl rfl rfl (fun _ _ => rfl) (fun _ _ _ => rfl) rfl (fun _ _ => ?_)
    with_reducible rw [decide_eq_true (rfl : o1 = o1)]
    refine r_p (p_pick rfl rfl rfl (pick_t rfl)) rfl ?_
    refine r_p (p_move rfl) rfl ?_
    refine r_gyes rfl rfl ?_
    refine r_p (p_move rfl) rfl ?_
    refine r_gyes rfl rfl ?_
    refine r_p (p_move rfl) rfl ?_
    refine r_gyes rfl rfl ?_
    refine r_freeze 61 96 rfl own_to_sl ?_
    refine r_freeze 63 97 rfl own_to_sl ?_
    refine r_callN (xs := [.tmp 73, .tmp 74]) (rwords_spec rb rd m1 m1 hol.2) cb16 [] [(false, 96), (false, 97)] [] rfl rfl rfl rfl rfl rfl rfl rfl (fun _ _ => rfl) (fun _ _ _ => rfl) rfl (fun _ _ => ?_)
    with_reducible rw [decide_eq_true (rfl : m1 = m1)]
    refine r_p (p_pick rfl rfl rfl (pick_t rfl)) rfl ?_
    refine r_p (p_assign rfl) rfl (r_nil (r_cret ?_))
    refine r_ret () trivial rfl (rs1 (rv_tmp rfl)) rfl [] [] rfl rfl rfl
end Go.Proofs.YtdcbbkpdlcojfaaGreat
