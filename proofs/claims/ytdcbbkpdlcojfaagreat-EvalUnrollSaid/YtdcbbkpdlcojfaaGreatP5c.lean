/-
  Part of the proof: the texts AP, AQ, AR, AS, AT, AU, R0, KG, R1, R2, R3. Conditions are with the theorems.
-/
import Derived.Test.YtdcbbkpdlcojfaaGreatP5a
import Derived.Test.YtdcbbkpdlcojfaaGreatP5b
namespace Go.Proofs.YtdcbbkpdlcojfaaGreat
set_option linter.unusedSimpArgs false
set_option linter.unusedVariables false
open Go.RowKit
def vI (p : ByteArray × Int) : Value := .int .i64 p.2
theorem okX_1 {k : Int} {nm : ByteArray} {n : Nat} (h : k = 1 ∨ k = 5) : okX k nm n = ((nm == ⟨#[]⟩) && decide ((n : Int) = 0)) := by
 unfold okX
 rw [if_pos h, ba_eq]
 congr 1
 exact decide_eq_decide.2 (by omega)
theorem okX_2 {k : Int} {nm : ByteArray} {n : Nat} (h : k = 2) : okX k nm n = (identB nm && decide ((n : Int) = 0)) := by
 subst h
 show (identB nm && decide (n = 0)) = _
 congr 1
 exact decide_eq_decide.2 (by omega)
theorem okX_3 {k : Int} {nm : ByteArray} {n : Nat} (h : k = 3) : okX k nm n = identB nm := by
 subst h
 rfl
theorem okX_4 {k : Int} {nm : ByteArray} {n : Nat} (h : k = 4) : okX k nm n = ((nm == ⟨#[]⟩) && decide ((n : Int) = 1)) := by
 subst h
 show (decide (nm = oNil) && decide (n = 1)) = _
 rw [ba_eq]
 congr 1
 exact decide_eq_decide.2 (by omega)
theorem okX_6 {k : Int} {nm : ByteArray} {n : Nat} (h : k = 6) : okX k nm n = (memB nm unL && decide ((n : Int) = 1)) := by
 subst h
 show (memB nm unL && decide (n = 1)) = _
 congr 1
 exact decide_eq_decide.2 (by omega)
theorem okX_7 {k : Int} {nm : ByteArray} {n : Nat} (h : k = 7) : okX k nm n = (isBin nm && decide ((n : Int) = 2)) := by
 subst h
 show (isBin nm && decide (n = 2)) = _
 congr 1
 exact decide_eq_decide.2 (by omega)
theorem okX_0 {k : Int} {nm : ByteArray} {n : Nat} (h1 : ¬ k = 1) (h5 : ¬ k = 5) (h2 : ¬ k = 2) (h3 : ¬ k = 3) (h4 : ¬ k = 4) (h6 : ¬ k = 6) (h7 : ¬ k = 7) : okX k nm n = false := by
 unfold okX
 rw [if_neg (fun h => h.elim h1 h5), if_neg h2, if_neg h3, if_neg h4, if_neg h6, if_neg h7]
theorem not_any_not {α : Type} (p : α → Bool) : ∀ l : List α, (!(l.any fun x => !p x)) = l.all p
 | [] => rfl
 | a :: r => by rw [List.any_cons, List.all_cons, ← not_any_not p r]; cases p a <;> simp
theorem rX_eq (t : Tx) : rX t = (okX t.kind t.name t.kids.length && (decide (t.kind = 1) || decide (t.n = 0)) && !(t.kids.any fun u => !rX u)) := by
 rw [not_any_not]
 cases t
 rw [rX, rXs_all]
 rfl
set_option maxHeartbeats 1000000 in
set_option maxRecDepth 100000 in
theorem levels_spec  :
  Spec Tryz.prog 133 [] [] [] (X := Nat) (fun _ => True) (fun b => .map (some b)) (fun b => [mp mkS Prod.fst vI (some b) lvL]) (fun _ => []) := by
 refine r_enter Tryz.func133 rfl Tryz.ntmps133 rfl fun w0 M H => ?_
 refine r_seq (r_region (r_p (p_assign rfl) rfl (r_nil (r_seq (r_region ?_)))))
 refine r_makeMap (Prod.fst : ByteArray × Int → ByteArray) mkS vI rfl fun b1 => ?_
 refine r_insert (k := 1) (α := ByteArray × Int) (kf := Prod.fst) (vf := vI) (oOr, 0) [(oOr, 0)] Tryz.underlying176 keyS rfl rfl rfl rfl (List.Perm.of_eq rfl) ?_
 refine r_insert (k := 1) (α := ByteArray × Int) (kf := Prod.fst) (vf := vI) (oXor, 1) [(oXor, 1), (oOr, 0)] Tryz.underlying176 keyS rfl rfl rfl rfl (List.Perm.of_eq rfl) ?_
 refine r_insert (k := 1) (α := ByteArray × Int) (kf := Prod.fst) (vf := vI) (oAnd, 2) [(oAnd, 2), (oXor, 1), (oOr, 0)] Tryz.underlying176 keyS rfl rfl rfl rfl (List.Perm.of_eq rfl) ?_
 refine r_insert (k := 1) (α := ByteArray × Int) (kf := Prod.fst) (vf := vI) (oEq, 3) [(oEq, 3), (oAnd, 2), (oXor, 1), (oOr, 0)] Tryz.underlying176 keyS rfl rfl rfl rfl (List.Perm.of_eq rfl) ?_
 refine r_insert (k := 1) (α := ByteArray × Int) (kf := Prod.fst) (vf := vI) (oNe, 3) [(oNe, 3), (oEq, 3), (oAnd, 2), (oXor, 1), (oOr, 0)] Tryz.underlying176 keyS rfl rfl rfl rfl (List.Perm.of_eq rfl) ?_
 refine r_insert (k := 1) (α := ByteArray × Int) (kf := Prod.fst) (vf := vI) (oLt, 4) [(oLt, 4), (oNe, 3), (oEq, 3), (oAnd, 2), (oXor, 1), (oOr, 0)] Tryz.underlying176 keyS rfl rfl rfl rfl (List.Perm.of_eq rfl) ?_
 refine r_insert (k := 1) (α := ByteArray × Int) (kf := Prod.fst) (vf := vI) (oLe, 4) [(oLe, 4), (oLt, 4), (oNe, 3), (oEq, 3), (oAnd, 2), (oXor, 1), (oOr, 0)] Tryz.underlying176 keyS rfl rfl rfl rfl (List.Perm.of_eq rfl) ?_
 refine r_insert (k := 1) (α := ByteArray × Int) (kf := Prod.fst) (vf := vI) (oGt, 4) [(oGt, 4), (oLe, 4), (oLt, 4), (oNe, 3), (oEq, 3), (oAnd, 2), (oXor, 1), (oOr, 0)] Tryz.underlying176 keyS rfl rfl rfl rfl (List.Perm.of_eq rfl) ?_
 refine r_insert (k := 1) (α := ByteArray × Int) (kf := Prod.fst) (vf := vI) (oGe, 4) [(oGe, 4), (oGt, 4), (oLe, 4), (oLt, 4), (oNe, 3), (oEq, 3), (oAnd, 2), (oXor, 1), (oOr, 0)] Tryz.underlying176 keyS rfl rfl rfl rfl (List.Perm.of_eq rfl) ?_
 refine r_insert (k := 1) (α := ByteArray × Int) (kf := Prod.fst) (vf := vI) (oShl, 5) [(oShl, 5), (oGe, 4), (oGt, 4), (oLe, 4), (oLt, 4), (oNe, 3), (oEq, 3), (oAnd, 2), (oXor, 1), (oOr, 0)] Tryz.underlying176 keyS rfl rfl rfl rfl (List.Perm.of_eq rfl) ?_
 refine r_insert (k := 1) (α := ByteArray × Int) (kf := Prod.fst) (vf := vI) (oShr, 5) [(oShr, 5), (oShl, 5), (oGe, 4), (oGt, 4), (oLe, 4), (oLt, 4), (oNe, 3), (oEq, 3), (oAnd, 2), (oXor, 1), (oOr, 0)] Tryz.underlying176 keyS rfl rfl rfl rfl (List.Perm.of_eq rfl) ?_
 refine r_insert (k := 1) (α := ByteArray × Int) (kf := Prod.fst) (vf := vI) (oAdd, 6) [(oAdd, 6), (oShr, 5), (oShl, 5), (oGe, 4), (oGt, 4), (oLe, 4), (oLt, 4), (oNe, 3), (oEq, 3), (oAnd, 2), (oXor, 1), (oOr, 0)] Tryz.underlying176 keyS rfl rfl rfl rfl (List.Perm.of_eq rfl) ?_
 refine r_insert (k := 1) (α := ByteArray × Int) (kf := Prod.fst) (vf := vI) (oSub, 6) [(oSub, 6), (oAdd, 6), (oShr, 5), (oShl, 5), (oGe, 4), (oGt, 4), (oLe, 4), (oLt, 4), (oNe, 3), (oEq, 3), (oAnd, 2), (oXor, 1), (oOr, 0)] Tryz.underlying176 keyS rfl rfl rfl rfl (List.Perm.of_eq rfl) ?_
 refine r_insert (k := 1) (α := ByteArray × Int) (kf := Prod.fst) (vf := vI) (oMul, 7) [(oMul, 7), (oSub, 6), (oAdd, 6), (oShr, 5), (oShl, 5), (oGe, 4), (oGt, 4), (oLe, 4), (oLt, 4), (oNe, 3), (oEq, 3), (oAnd, 2), (oXor, 1), (oOr, 0)] Tryz.underlying176 keyS rfl rfl rfl rfl (List.Perm.of_eq rfl) ?_
 refine r_insert (k := 1) (α := ByteArray × Int) (kf := Prod.fst) (vf := vI) (oQuo, 7) [(oQuo, 7), (oMul, 7), (oSub, 6), (oAdd, 6), (oShr, 5), (oShl, 5), (oGe, 4), (oGt, 4), (oLe, 4), (oLt, 4), (oNe, 3), (oEq, 3), (oAnd, 2), (oXor, 1), (oOr, 0)] Tryz.underlying176 keyS rfl rfl rfl rfl (List.Perm.of_eq rfl) ?_
 refine r_insert (k := 1) (α := ByteArray × Int) (kf := Prod.fst) (vf := vI) (oRem, 7) [(oRem, 7), (oQuo, 7), (oMul, 7), (oSub, 6), (oAdd, 6), (oShr, 5), (oShl, 5), (oGe, 4), (oGt, 4), (oLe, 4), (oLt, 4), (oNe, 3), (oEq, 3), (oAnd, 2), (oXor, 1), (oOr, 0)] Tryz.underlying176 keyS rfl rfl rfl rfl (List.Perm.of_eq rfl) ?_
 refine r_p (p_move rfl) rfl (r_p (p_assign rfl) rfl (r_nil (r_cret ?_)))
 refine r_ret b1 trivial rfl (rs1 (rv_tmp rfl)) rfl [1] [] rfl rfl rfl
set_option maxRecDepth 100000 in
theorem rx1_spec (v : SV) (l : List Tx) (ih : ∀ u ∈ l, Spec Tryz.prog 128 [xV u] [] [txsA u.v u.kids] (X := Unit) (fun _ => True) (fun _ => .bool (rX u)) (fun _ => []) (fun _ => [])) (u : Tx) (hu : u ∈ l) :
  Spec Tryz.prog 134 [xV u] [] [txsA v l] (X := Unit) (fun _ => True) (fun _ => .bool (!rX u)) (fun _ => []) (fun _ => []) := by
 refine r_enter Tryz.func134 rfl Tryz.ntmps134 rfl fun w0 M H => ?_
 refine r_more 0 7 rfl (txs_kid hu) ?_
 refine r_seq (r_region ?_)
 refine r_boxA rfl rfl fun b1 => ?_
 refine r_p (p_assign rfl) rfl (r_nil (r_seq (r_region ?_)))
 refine r_p (p_loadA t48 rfl rfl rfl (g_all (k := 1) rfl)) rfl ?_
 refine r_call (xs := [.tmp 3]) (ih u hu) cb128 [] [(false, 7)] [] [] rfl rfl rfl rfl rfl rfl rfl rfl (fun _ _ => rfl) (fun _ _ _ => rfl) rfl (fun _ _ => ?_)
 refine r_p (p_not rfl) rfl ?_
 refine r_p (p_assign rfl) rfl (r_nil (r_cret ?_))
 refine r_ret () trivial rfl (rs1 (rv_tmp rfl)) rfl [] [] rfl rfl rfl
set_option maxRecDepth 100000 in
theorem rx2_spec (v : SV) (l : List Tx) (ih : ∀ u ∈ l, Spec Tryz.prog 128 [xV u] [] [txsA u.v u.kids] (X := Unit) (fun _ => True) (fun _ => .bool (rX u)) (fun _ => []) (fun _ => [])) (u : Tx) (hu : u ∈ l) :
  Spec Tryz.prog 127 [xV u] [] [txsA v l] (X := Unit) (fun _ => True) (fun _ => .bool (!rX u)) (fun _ => []) (fun _ => []) := by
 refine r_enter Tryz.func127 rfl Tryz.ntmps127 rfl fun w0 M H => ?_
 refine r_more 0 7 rfl (txs_kid hu) ?_
 refine r_seq (r_region ?_)
 refine r_boxA rfl rfl fun b1 => ?_
 refine r_p (p_assign rfl) rfl (r_nil (r_seq (r_region ?_)))
 refine r_p (p_loadA t48 rfl rfl rfl (g_all (k := 1) rfl)) rfl ?_
 refine r_call (xs := [.tmp 3]) (ih u hu) cb128 [] [(false, 7)] [] [] rfl rfl rfl rfl rfl rfl rfl rfl (fun _ _ => rfl) (fun _ _ _ => rfl) rfl (fun _ _ => ?_)
 refine r_p (p_not rfl) rfl ?_
 refine r_p (p_assign rfl) rfl (r_nil (r_cret ?_))
 refine r_ret () trivial rfl (rs1 (rv_tmp rfl)) rfl [] [] rfl rfl rfl
set_option maxHeartbeats 4000000 in
set_option maxRecDepth 100000 in
theorem rx_step (t : Tx) (ht : GX t) (ih : ∀ u ∈ t.kids, Spec Tryz.prog 128 [xV u] [] [txsA u.v u.kids] (X := Unit) (fun _ => True) (fun _ => .bool (rX u)) (fun _ => []) (fun _ => [])) :
  Spec Tryz.prog 128 [xV t] [] [txsA t.v t.kids] (X := Unit) (fun _ => True) (fun _ => .bool (rX t)) (fun _ => []) (fun _ => []) := by
 refine r_enter Tryz.func128 rfl Tryz.ntmps128 rfl fun w0 M H => ?_
 refine r_more 0 1 rfl txs_sl ?_
 have hnm := GX_name ht
 have hkl := GX_len ht
 refine r_seq (r_region ?_)
 refine r_boxA rfl rfl fun b1 => ?_
 refine r_p (p_assign rfl) rfl (r_nil (r_seq (r_region (r_p (p_assign rfl) rfl (r_nil (r_seq ?_))))))
 refine r_drawM [0, 1, 2, 3, 4, 5, 6, 7, 8] [0, 1, 2, 3, 4, 5, 7, 6, 8] [7, 8, 9, 10, 6, 11, 12, 4, 5] _ rfl rfl rfl (stg_mem (V := [(1, 8, _), (2, 9, _)]) [1, 2] 0 [0] [3, 4, 5, 6, 7, 8] (fun bm => [(3, 10, _), (4, 6, _), (5, 11, _), (6, 12, _), (7, 4, _), (8, 5, _)]) rfl rfl (prs_cons (pri rfl (p_field0 fo48_2 rfl)) (prs_cons (pri rfl (p_load1 t9 rfl rfl (g_row1 (k := 1) rfl rfl))) prs_nil)) rfl rfl rfl rfl rfl rfl rfl rfl rfl rfl rfl (fun _ _ => rfl) rfl (ms_call (xs := []) levels_spec cb133 [] [] [60] [] rfl rfl rfl rfl rfl rfl rfl rfl (fun _ _ => rfl) (fun _ _ _ => rfl)) (fun bm _ => stg_end [3, 4, 5, 6, 7, 8, 1, 2] rfl rfl (prs_cons (pri rfl (p_lookup Tryz.underlying176 keyS t3 rfl rfl (hm_own (k := 60) rfl) rfl)) (prs_cons (pri rfl (p_move rfl)) (prs_cons (pri rfl (p_extract rfl rfl)) (prs_cons (pri rfl (p_extract rfl rfl)) (prs_cons (pri rfl (p_assign rfl)) (prs_cons (pri rfl (p_assign rfl)) (prs_cons (pri rfl (p_field0 fo48_2 rfl)) (prs_cons (pri rfl (p_load1 t9 rfl rfl (g_row1 (k := 1) rfl rfl))) prs_nil)))))))) rfl rfl rfl ?_))
 refine r_seq_cut (X := Unit) (fun _ => True) (fun _ => [(1, .pointer (some ⟨b1, 0, none⟩)), (3, .bool (okX t.kind t.name t.kids.length))]) (fun _ => [(1, row b1 48 (eTx t))]) (fun _ => [(0, txsA t.v t.kids), (1, sl 4 eTx (sv t.v) t.kids)]) ?_ (fun _ _ => ?_)
 ·refine r_seq (r_region ?_)
  refine r_p (p_field0 fo48_0 rfl) rfl ?_
  refine r_p (p_load1 t3 rfl rfl (g_row1 (k := 1) rfl rfl)) rfl ?_
  refine r_nil (r_block (r_seq (r_seq (r_region ?_))))
  refine r_p (p_bin rfl rfl b_eq) rfl ?_
  refine r_p (p_assign rfl) rfl (r_nil ?_)
  refine r_cond rfl (fun h1 => ?_) (fun h1 => ?_)
  ·have q1 : t.kind = 1 := of_decide_eq_true h1
   refine r_skip ?_
   refine r_cond rfl (fun h2 => ?_) (fun h2 => ?_)
   ·(try simp only [decide_eq_true_eq, decide_eq_false_iff_not, Bool.and_eq_true, Bool.or_eq_true, Bool.and_eq_false_iff, Bool.or_eq_false_iff, Bool.not_eq_true, Bool.not_eq_false, Bool.not_eq_true', Bool.not_eq_false', Bool.not_not, bne_iff_ne, beq_iff_eq] at h2)
    refine r_region ?_
    refine r_p (p_field0 fo48_2 rfl) rfl ?_
    refine r_p (p_load1 t9 rfl rfl (g_row1 (k := 1) rfl rfl)) rfl ?_
    refine r_p (p_bin rfl rfl b_seq) rfl ?_
    refine r_p (p_move rfl) rfl ?_
    refine r_gp [] rfl rfl trivial (fun hg3 => p_field0 fo48_3 rfl) rfl ?_
    refine r_gp [(22, _)] rfl rfl ⟨rfl, trivial⟩ (fun hg4 => p_load1 t46 rfl rfl (g_row1 (k := 1) rfl rfl)) rfl ?_
    refine r_gp [(22, _), (23, _)] rfl rfl ⟨rfl, rfl, trivial⟩ (fun hg5 => p_len_sl Tryz.underlying46 rfl (hs_sl (k := 1) rfl)) rfl ?_
    refine r_gp [(22, _), (23, _), (24, _)] rfl rfl ⟨rfl, rfl, rfl, trivial⟩ (fun hg6 => p_bin rfl rfl b_eq) rfl ?_
    refine r_p (p_pick rfl rfl rfl (by first | exact pick_and | exact pick_or |  rfl)) rfl ?_
    refine r_p (p_assign rfl) rfl (r_nil ?_)
    refine r_here () trivial (by rw [okX_1 (.inl q1)]; rfl) rfl rfl
   ·exact absurd (decide_eq_true q1) (by rw [h2]; simp)
  ·have q1 : ¬ t.kind = 1 := of_decide_eq_false h1
   refine r_region ?_
   refine r_p (p_bin rfl rfl b_eq) rfl ?_
   refine r_p (p_assign rfl) rfl (r_nil ?_)
   refine r_cond rfl (fun h7 => ?_) (fun h7 => ?_)
   ·have q5 : t.kind = 5 := of_decide_eq_true h7
    refine r_region ?_
    refine r_p (p_field0 fo48_2 rfl) rfl ?_
    refine r_p (p_load1 t9 rfl rfl (g_row1 (k := 1) rfl rfl)) rfl ?_
    refine r_p (p_bin rfl rfl b_seq) rfl ?_
    refine r_p (p_move rfl) rfl ?_
    refine r_gp [] rfl rfl trivial (fun hg8 => p_field0 fo48_3 rfl) rfl ?_
    refine r_gp [(22, _)] rfl rfl ⟨rfl, trivial⟩ (fun hg9 => p_load1 t46 rfl rfl (g_row1 (k := 1) rfl rfl)) rfl ?_
    refine r_gp [(22, _), (23, _)] rfl rfl ⟨rfl, rfl, trivial⟩ (fun hg10 => p_len_sl Tryz.underlying46 rfl (hs_sl (k := 1) rfl)) rfl ?_
    refine r_gp [(22, _), (23, _), (24, _)] rfl rfl ⟨rfl, rfl, rfl, trivial⟩ (fun hg11 => p_bin rfl rfl b_eq) rfl ?_
    refine r_p (p_pick rfl rfl rfl (by first | exact pick_and | exact pick_or |  rfl)) rfl ?_
    refine r_p (p_assign rfl) rfl (r_nil ?_)
    refine r_here () trivial (by rw [okX_1 (.inr q5)]; rfl) rfl rfl
   ·have q5 : ¬ t.kind = 5 := of_decide_eq_false h7
    refine r_seq (r_region ?_)
    refine r_p (p_bin rfl rfl b_eq) rfl ?_
    refine r_p (p_assign rfl) rfl (r_nil ?_)
    refine r_cond rfl (fun h12 => ?_) (fun h12 => ?_)
    ·have q2 : t.kind = 2 := of_decide_eq_true h12
     refine r_region ?_
     refine r_p (p_field0 fo48_2 rfl) rfl ?_
     refine r_p (p_load1 t9 rfl rfl (g_row1 (k := 1) rfl rfl)) rfl ?_
     refine r_call (xs := [.tmp 30]) (ident_spec t.name hnm.1 hnm.2) cb95 [] [] [] [] rfl rfl rfl rfl rfl rfl rfl rfl (fun _ _ => rfl) (fun _ _ _ => rfl) rfl (fun _ _ => ?_)
     refine r_p (p_move rfl) rfl ?_
     refine r_gp [] rfl rfl trivial (fun hg13 => p_field0 fo48_3 rfl) rfl ?_
     refine r_gp [(33, _)] rfl rfl ⟨rfl, trivial⟩ (fun hg14 => p_load1 t46 rfl rfl (g_row1 (k := 1) rfl rfl)) rfl ?_
     refine r_gp [(33, _), (34, _)] rfl rfl ⟨rfl, rfl, trivial⟩ (fun hg15 => p_len_sl Tryz.underlying46 rfl (hs_sl (k := 1) rfl)) rfl ?_
     refine r_gp [(33, _), (34, _), (35, _)] rfl rfl ⟨rfl, rfl, rfl, trivial⟩ (fun hg16 => p_bin rfl rfl b_eq) rfl ?_
     refine r_p (p_pick rfl rfl rfl (by first | exact pick_and | exact pick_or |  rfl)) rfl ?_
     refine r_p (p_assign rfl) rfl (r_nil ?_)
     refine r_here () trivial (by rw [okX_2 q2]; rfl) rfl rfl
    ·have q2 : ¬ t.kind = 2 := of_decide_eq_false h12
     refine r_seq (r_region ?_)
     refine r_p (p_bin rfl rfl b_eq) rfl ?_
     refine r_p (p_assign rfl) rfl (r_nil ?_)
     refine r_cond rfl (fun h17 => ?_) (fun h17 => ?_)
     ·have q3 : t.kind = 3 := of_decide_eq_true h17
      refine r_region ?_
      refine r_p (p_field0 fo48_2 rfl) rfl ?_
      refine r_p (p_load1 t9 rfl rfl (g_row1 (k := 1) rfl rfl)) rfl ?_
      refine r_call (xs := [.tmp 41]) (ident_spec t.name hnm.1 hnm.2) cb95 [] [] [] [] rfl rfl rfl rfl rfl rfl rfl rfl (fun _ _ => rfl) (fun _ _ _ => rfl) rfl (fun _ _ => ?_)
      refine r_p (p_assign rfl) rfl (r_nil ?_)
      refine r_here () trivial (by rw [okX_3 q3]; rfl) rfl rfl
     ·have q3 : ¬ t.kind = 3 := of_decide_eq_false h17
      refine r_seq (r_region ?_)
      refine r_p (p_bin rfl rfl b_eq) rfl ?_
      refine r_p (p_assign rfl) rfl (r_nil ?_)
      refine r_cond rfl (fun h18 => ?_) (fun h18 => ?_)
      ·have q4 : t.kind = 4 := of_decide_eq_true h18
       refine r_region ?_
       refine r_p (p_field0 fo48_2 rfl) rfl ?_
       refine r_p (p_load1 t9 rfl rfl (g_row1 (k := 1) rfl rfl)) rfl ?_
       refine r_p (p_bin rfl rfl b_seq) rfl ?_
       refine r_p (p_move rfl) rfl ?_
       refine r_gp [] rfl rfl trivial (fun hg19 => p_field0 fo48_3 rfl) rfl ?_
       refine r_gp [(49, _)] rfl rfl ⟨rfl, trivial⟩ (fun hg20 => p_load1 t46 rfl rfl (g_row1 (k := 1) rfl rfl)) rfl ?_
       refine r_gp [(49, _), (50, _)] rfl rfl ⟨rfl, rfl, trivial⟩ (fun hg21 => p_len_sl Tryz.underlying46 rfl (hs_sl (k := 1) rfl)) rfl ?_
       refine r_gp [(49, _), (50, _), (51, _)] rfl rfl ⟨rfl, rfl, rfl, trivial⟩ (fun hg22 => p_bin rfl rfl b_eq) rfl ?_
       refine r_p (p_pick rfl rfl rfl (by first | exact pick_and | exact pick_or |  rfl)) rfl ?_
       refine r_p (p_assign rfl) rfl (r_nil ?_)
       refine r_here () trivial (by rw [okX_4 q4]; rfl) rfl rfl
      ·have q4 : ¬ t.kind = 4 := of_decide_eq_false h18
       refine r_seq (r_region ?_)
       refine r_p (p_bin rfl rfl b_eq) rfl ?_
       refine r_p (p_assign rfl) rfl (r_nil ?_)
       refine r_cond rfl (fun h23 => ?_) (fun h23 => ?_)
       ·have q6 : t.kind = 6 := of_decide_eq_true h23
        refine r_region ?_
        refine r_bslice eS unL (parts := [(0, .const (.string (ByteArray.mk #[45]))), (1, .const (.string (ByteArray.mk #[126]))), (2, .const (.string (ByteArray.mk #[33])))]) Tryz.underlying58 t9 rfl (by decide) (by intro _; rfl) rfl (by decide) (by decide) rfl rfl rfl rfl fun v56 => ?_
        refine r_p (p_field0 fo48_2 rfl) rfl ?_
        refine r_p (p_load1 t9 rfl rfl (g_row1 (k := 1) rfl rfl)) rfl ?_
        refine r_freeze 56 21 rfl own_to_sl ?_
        refine r_call (xs := [.tmp 56, .tmp 58]) (contains_spec v56 unL (by decide) t.name) cb107 [] [(false, 21)] [] [] rfl rfl rfl rfl rfl rfl rfl rfl (fun _ _ => rfl) (fun _ _ _ => rfl) rfl (fun _ _ => ?_)
        refine r_p (p_move rfl) rfl ?_
        refine r_gp [] rfl rfl trivial (fun hg24 => p_field0 fo48_3 rfl) rfl ?_
        refine r_gp [(61, _)] rfl rfl ⟨rfl, trivial⟩ (fun hg25 => p_load1 t46 rfl rfl (g_row1 (k := 1) rfl rfl)) rfl ?_
        refine r_gp [(61, _), (62, _)] rfl rfl ⟨rfl, rfl, trivial⟩ (fun hg26 => p_len_sl Tryz.underlying46 rfl (hs_sl (k := 1) rfl)) rfl ?_
        refine r_gp [(61, _), (62, _), (63, _)] rfl rfl ⟨rfl, rfl, rfl, trivial⟩ (fun hg27 => p_bin rfl rfl b_eq) rfl ?_
        refine r_p (p_pick rfl rfl rfl (by first | exact pick_and | exact pick_or |  rfl)) rfl ?_
        refine r_p (p_assign rfl) rfl (r_nil ?_)
        refine r_here () trivial (by rw [okX_6 q6]; rfl) rfl rfl
       ·have q6 : ¬ t.kind = 6 := of_decide_eq_false h23
        refine r_seq (r_region ?_)
        refine r_p (p_bin rfl rfl b_eq) rfl ?_
        refine r_p (p_assign rfl) rfl (r_nil ?_)
        refine r_cond rfl (fun h28 => ?_) (fun h28 => ?_)
        ·have q7 : t.kind = 7 := of_decide_eq_true h28
         refine r_region (r_p (p_move rfl) rfl (r_p (p_move rfl) rfl ?_))
         refine r_gp [] rfl rfl trivial (fun hg29 => p_field0 fo48_3 rfl) rfl ?_
         refine r_gp [(70, _)] rfl rfl ⟨rfl, trivial⟩ (fun hg30 => p_load1 t46 rfl rfl (g_row1 (k := 1) rfl rfl)) rfl ?_
         refine r_gp [(70, _), (71, _)] rfl rfl ⟨rfl, rfl, trivial⟩ (fun hg31 => p_len_sl Tryz.underlying46 rfl (hs_sl (k := 1) rfl)) rfl ?_
         refine r_gp [(70, _), (71, _), (72, _)] rfl rfl ⟨rfl, rfl, rfl, trivial⟩ (fun hg32 => p_bin rfl rfl b_eq) rfl ?_
         refine r_p (p_pick rfl rfl rfl (by first | exact pick_and | exact pick_or |  rfl)) rfl ?_
         refine r_p (p_assign rfl) rfl (r_nil ?_)
         refine r_here () trivial (by rw [okX_7 q7]; rfl) rfl rfl
        ·have q7 : ¬ t.kind = 7 := of_decide_eq_false h28
         refine r_skip ?_
         refine r_here () trivial (by rw [okX_0 q1 q5 q2 q3 q4 q6 q7]; rfl) rfl rfl
 ·refine r_seq (r_region (r_p (p_move rfl) rfl (r_p (p_move rfl) rfl ?_)))
  refine r_gp [] rfl rfl trivial (fun hg33 => p_field0 fo48_0 rfl) rfl ?_
  refine r_gp [(77, _)] rfl rfl ⟨rfl, trivial⟩ (fun hg34 => p_load1 t3 rfl rfl (g_row1 (k := 1) rfl rfl)) rfl ?_
  refine r_gp [(77, _), (78, _)] rfl rfl ⟨rfl, rfl, trivial⟩ (fun hg35 => p_bin rfl rfl b_eq) rfl ?_
  refine r_gp [(77, _), (78, _), (79, _)] rfl rfl ⟨rfl, rfl, rfl, trivial⟩ (fun hg36 => p_move rfl) rfl ?_
  refine r_gp2 [] [(77, _), (78, _), (79, _), (80, _)] rfl rfl trivial ⟨rfl, rfl, rfl, rfl, trivial⟩ (fun hg37 hg37' => p_field0 fo48_1 rfl) rfl ?_
  refine r_gp2 [(81, _)] [(77, _), (78, _), (79, _), (80, _)] rfl rfl ⟨rfl, trivial⟩ ⟨rfl, rfl, rfl, rfl, trivial⟩ (fun hg38 hg38' => p_load1 t36 rfl rfl (g_row1 (k := 1) rfl rfl)) rfl ?_
  refine r_gp2 [(81, _), (82, _)] [(77, _), (78, _), (79, _), (80, _)] rfl rfl ⟨rfl, rfl, trivial⟩ ⟨rfl, rfl, rfl, rfl, trivial⟩ (fun hg39 hg39' => p_bin rfl rfl b_eq) rfl ?_
  refine r_gp [(77, _), (78, _), (79, _), (80, _)] rfl rfl ⟨rfl, rfl, rfl, rfl, trivial⟩ (fun hg40 => p_pick rfl rfl rfl (by first | exact pick_and | exact pick_or | exact pick_and2 hg40 | exact pick_or2 hg40 | rfl)) rfl ?_
  refine r_p (p_pick rfl rfl rfl (by first | exact pick_and | exact pick_or |  rfl)) rfl ?_
  refine r_p (p_move rfl) rfl ?_
  refine r_gp [] rfl rfl trivial (fun hg41 => p_field0 fo48_3 rfl) rfl ?_
  refine r_gp [(87, _)] rfl rfl ⟨rfl, trivial⟩ (fun hg42 => p_load1 t46 rfl rfl (g_row1 (k := 1) rfl rfl)) rfl ?_
  refine r_gms [(87, _), (88, _)] rfl rfl ⟨rfl, rfl, trivial⟩ (fun hg43 => ms_call (xs := [.tmp 88, .func 134]) (conx_spec t.v t.kids hkl 134 [] (txsA t.v t.kids) (fun u => !rX u) cb134 (fun u hu => rx1_spec t.v t.kids ih u hu)) cb126 [] [(false, 1), (false, 0)] [] [] rfl rfl rfl rfl rfl rfl rfl rfl (fun _ _ => rfl) (fun _ _ _ => rfl)) rfl ?_
  refine r_gp [(87, _), (88, _), (89, _)] rfl rfl ⟨rfl, rfl, rfl, trivial⟩ (fun hg44 => p_not rfl) rfl ?_
  refine r_p (p_pick rfl rfl rfl (by first | exact pick_and | exact pick_or |  rfl)) rfl ?_
  refine r_p (p_assign rfl) rfl (r_nil (r_cret ?_))
  refine r_ret () trivial rfl (rs1 (rv_tmp rfl)) (congrArg Value.bool (rX_eq t).symm) [] [] rfl rfl rfl
theorem rx_all : ∀ (n : Nat) (t : Tx), SizeOf.sizeOf t < n → GX t → Spec Tryz.prog 128 [xV t] [] [txsA t.v t.kids] (X := Unit) (fun _ => True) (fun _ => .bool (rX t)) (fun _ => []) (fun _ => [])
 | 0, _, h, _ => absurd h (Nat.not_lt_zero _)
 | n + 1, t, h, ht => rx_step t ht fun u hu => rx_all n u (by have := tx_lt hu; omega) ((GX_kids ht).mem u hu)
theorem rx_spec (t : Tx) (ht : GX t) : Spec Tryz.prog 128 [xV t] [] [txsA t.v t.kids] (X := Unit) (fun _ => True) (fun _ => .bool (rX t)) (fun _ => []) (fun _ => []) := rx_all _ t (Nat.lt_succ_self _) ht
theorem rY_eq (t : Ty) : rY t = (decide (t.kind ≥ 1) && decide (t.kind ≤ 8) && decide ((t.es.length : Int) = if t.kind = 3 then 2 else 1) && ((decide (t.kind = 1) || decide (t.kind = 2)) && identB t.name || !(decide (t.kind = 1) || decide (t.kind = 2)) && (t.name == ⟨#[]⟩)) &&
   (decide ((if t.kind = 4 then 2 else if t.kind = 5 then 1 else 0 : Int) > 0) || decide ((t.body.length : Int) = 0)) && (decide ((if t.kind = 4 then 2 else if t.kind = 5 then 1 else 0 : Int) > 1) || decide ((t.els.length : Int) = 0)) && !(t.es.any fun u => !rX u) && t.body.all rY && t.els.all rY) := by
 rw [not_any_not]
 have e1 : decide ((t.es.length : Int) = if t.kind = 3 then 2 else 1) = decide (t.es.length = if t.kind = 3 then 2 else 1) := decide_eq_decide.2 (by split <;> omega)
 have e2 : ((decide (t.kind = 1) || decide (t.kind = 2)) && identB t.name || !(decide (t.kind = 1) || decide (t.kind = 2)) && (t.name == ⟨#[]⟩)) = (if t.kind = 1 ∨ t.kind = 2 then identB t.name else decide (t.name = oNil)) := by
  rw [ba_eq]
  by_cases h : t.kind = 1 ∨ t.kind = 2
  ·rw [if_pos h]
   have : (decide (t.kind = 1) || decide (t.kind = 2)) = true := by simpa using h
   rw [this]
   simp
  ·rw [if_neg h]
   have : (decide (t.kind = 1) || decide (t.kind = 2)) = false := by simpa using h
   rw [this]
   simp only [Bool.false_and, Bool.not_false, Bool.true_and, Bool.false_or]
   rfl
 have e3 : (decide ((if t.kind = 4 then 2 else if t.kind = 5 then 1 else 0 : Int) > 0) || decide ((t.body.length : Int) = 0)) = (decide (t.kind = 4) || decide (t.kind = 5) || decide (t.body.length = 0)) := by
  rw [show decide ((t.body.length : Int) = 0) = decide (t.body.length = 0) from decide_eq_decide.2 (by omega)]
  congr 1
  by_cases h4 : t.kind = 4
  ·simp [h4]
  ·by_cases h5 : t.kind = 5
   ·simp [h5]
   ·simp [h4, h5]
 have e4 : (decide ((if t.kind = 4 then 2 else if t.kind = 5 then 1 else 0 : Int) > 1) || decide ((t.els.length : Int) = 0)) = (decide (t.kind = 4) || decide (t.els.length = 0)) := by
  rw [show decide ((t.els.length : Int) = 0) = decide (t.els.length = 0) from decide_eq_decide.2 (by omega)]
  congr 1
  by_cases h4 : t.kind = 4
  ·simp [h4]
  ·by_cases h5 : t.kind = 5
   ·simp [h5]
   ·simp [h4, h5]
 rw [e1, e2, e3, e4]
 cases t
 rw [rY, rXs_all, rYs_all, rYs_all]
 rfl
theorem rF_eq (f : Tf) : (f.ps.any (fun s => !identB s) || !identB f.name || !(f.body.all rY)) = !rF f := by
 unfold rF
 rw [rYs_all, ← not_any_not identB f.ps]
 cases f.ps.any (fun s => !identB s) <;> cases identB f.name <;> cases f.body.all rY <;> rfl
theorem tfs_fns {v : SV} {l : List Tf} : ∀ w G, (tfsA v l).pred w G → (∀ b, G b → b < w.heap.size) → ∃ G', (fnsA l).pred w G' ∧ ∀ b, G' b → G b := fun w G h _ => ⟨G, h.2, fun _ hb => hb⟩
set_option maxRecDepth 100000 in
theorem ry1_spec (v : SV) (l : List Ty) (ih : ∀ u ∈ l, Spec Tryz.prog 115 [yV u] [] [txsA u.ve u.es, tysA u.vb u.body, tysA u.vl u.els] (X := Unit) (fun _ => True) (fun _ => .bool (rY u)) (fun _ => []) (fun _ => [])) (u : Ty) (hu : u ∈ l) :
  Spec Tryz.prog 114 [yV u] [] [tysA v l] (X := Unit) (fun _ => True) (fun _ => .bool (!rY u)) (fun _ => []) (fun _ => []) := by
 refine r_enter Tryz.func114 rfl Tryz.ntmps114 rfl fun w0 M H => ?_
 refine r_more 0 7 rfl (tys_es hu) ?_
 refine r_more 0 8 rfl (tys_body hu) ?_
 refine r_more 0 9 rfl (tys_els hu) ?_
 refine r_seq (r_region ?_)
 refine r_boxA rfl rfl fun b1 => ?_
 refine r_p (p_assign rfl) rfl (r_nil (r_seq (r_region ?_)))
 refine r_p (p_loadA t53 rfl rfl rfl (g_all (k := 1) rfl)) rfl ?_
 refine r_call (xs := [.tmp 3]) (ih u hu) cb115 [] [(false, 7), (false, 8), (false, 9)] [] [] rfl rfl rfl rfl rfl rfl rfl rfl (fun _ _ => rfl) (fun _ _ _ => rfl) rfl (fun _ _ => ?_)
 refine r_p (p_not rfl) rfl ?_
 refine r_p (p_assign rfl) rfl (r_nil (r_cret ?_))
 refine r_ret () trivial rfl (rs1 (rv_tmp rfl)) rfl [] [] rfl rfl rfl
set_option maxRecDepth 100000 in
theorem rblk_spec (v : SV) (l : List Ty) (hl : l.length ≤ 1000000) (ih : ∀ u ∈ l, Spec Tryz.prog 115 [yV u] [] [txsA u.ve u.es, tysA u.vb u.body, tysA u.vl u.els] (X := Unit) (fun _ => True) (fun _ => .bool (rY u)) (fun _ => []) (fun _ => [])) :
  Spec Tryz.prog 96 [sv v] [] [tysA v l] (X := Unit) (fun _ => True) (fun _ => .bool (l.all rY)) (fun _ => []) (fun _ => []) := by
 refine r_enter Tryz.func96 rfl Tryz.ntmps96 rfl fun w0 M H => ?_
 refine r_more 0 1 rfl tys_sl ?_
 refine r_seq (r_region (r_p (p_assign rfl) rfl (r_nil (r_seq (r_region (r_p (p_move rfl) rfl ?_))))))
 refine r_call (xs := [.tmp 3, .func 114]) (cony_spec v l hl 114 [] (tysA v l) (fun u => !rY u) cb114 (fun u hu => ry1_spec v l ih u hu)) cb113 [] [(false, 1), (false, 0)] [] [] rfl rfl rfl rfl rfl rfl rfl rfl (fun _ _ => rfl) (fun _ _ _ => rfl) rfl (fun _ _ => ?_)
 refine r_p (p_not rfl) rfl ?_
 refine r_p (p_assign rfl) rfl (r_nil (r_cret ?_))
 refine r_ret () trivial rfl (rs1 (rv_tmp rfl)) (congrArg Value.bool (not_any_not rY l)) [] [] rfl rfl rfl
set_option maxHeartbeats 8000000 in
set_option maxRecDepth 100000 in
theorem ry_step (t : Ty) (ht : GY t) (ihb : ∀ u ∈ t.body, Spec Tryz.prog 115 [yV u] [] [txsA u.ve u.es, tysA u.vb u.body, tysA u.vl u.els] (X := Unit) (fun _ => True) (fun _ => .bool (rY u)) (fun _ => []) (fun _ => [])) (ihl : ∀ u ∈ t.els, Spec Tryz.prog 115 [yV u] [] [txsA u.ve u.es, tysA u.vb u.body, tysA u.vl u.els] (X := Unit) (fun _ => True) (fun _ => .bool (rY u)) (fun _ => []) (fun _ => [])) :
  Spec Tryz.prog 115 [yV t] [] [txsA t.ve t.es, tysA t.vb t.body, tysA t.vl t.els] (X := Unit) (fun _ => True) (fun _ => .bool (rY t)) (fun _ => []) (fun _ => []) := by
 refine r_enter Tryz.func115 rfl Tryz.ntmps115 rfl fun w0 M H => ?_
 refine r_more 0 3 rfl txs_sl ?_
 refine r_more 1 4 rfl tys_sl ?_
 refine r_more 2 5 rfl tys_sl ?_
 have hnm := GY_name ht
 obtain ⟨hel, heg⟩ := GY_es ht
 obtain ⟨hbl, hbg⟩ := GY_body ht
 obtain ⟨hll, hlg⟩ := GY_els ht
 refine r_seq (r_region ?_)
 refine r_boxA rfl rfl fun b1 => ?_
 refine r_p (p_assign rfl) rfl (r_nil (r_seq (r_region ?_)))
 refine r_p (p_field0 fo53_0 rfl) rfl ?_
 refine r_p (p_load1 t3 rfl rfl (g_row1 (k := 1) rfl rfl)) rfl ?_
 refine r_p (p_bin rfl rfl b_eq) rfl ?_
 refine r_p (p_move rfl) rfl ?_
 refine r_gp [] rfl rfl trivial (fun hg1 => p_field0 fo53_0 rfl) rfl ?_
 refine r_gp [(10, _)] rfl rfl ⟨rfl, trivial⟩ (fun hg2 => p_load1 t3 rfl rfl (g_row1 (k := 1) rfl rfl)) rfl ?_
 refine r_gp [(10, _), (11, _)] rfl rfl ⟨rfl, rfl, trivial⟩ (fun hg3 => p_bin rfl rfl b_eq) rfl ?_
 refine r_p (p_pick rfl rfl rfl (by first | exact pick_and | exact pick_or |  rfl)) rfl ?_
 refine r_p (p_assign rfl) rfl (r_nil (r_seq (r_region (r_p (p_assign rfl) rfl (r_nil ?_)))))
 refine r_seq_cut (X := Unit) (fun _ => True) (fun _ => [(1, .pointer (some ⟨b1, 0, none⟩)), (3, .bool (decide (t.kind = 1) || decide (t.kind = 2))), (4, .int .i64 (if t.kind = 3 then 2 else 1))]) (fun _ => [(1, row b1 53 (eTy t))]) (fun _ => [(0, txsA t.ve t.es), (1, tysA t.vb t.body), (2, tysA t.vl t.els), (3, sl 4 eTx (sv t.ve) t.es), (4, sl 5 eTy (sv t.vb) t.body), (5, sl 5 eTy (sv t.vl) t.els)]) ?_ (fun _ _ => ?_)
 ·refine r_seq (r_region ?_)
  refine r_p (p_field0 fo53_0 rfl) rfl ?_
  refine r_p (p_load1 t3 rfl rfl (g_row1 (k := 1) rfl rfl)) rfl ?_
  refine r_p (p_bin rfl rfl b_eq) rfl ?_
  refine r_nil ?_
  refine r_cond rfl (fun h4 => ?_) (fun h4 => ?_)
  ·have q3 : t.kind = 3 := of_decide_eq_true h4
   refine r_region (r_p (p_assign rfl) rfl (r_nil ?_))
   refine r_here () trivial (by rw [if_pos q3]; rfl) rfl rfl
  ·have q3 : ¬ t.kind = 3 := of_decide_eq_false h4
   refine r_skip ?_
   refine r_here () trivial (by rw [if_neg q3]; rfl) rfl rfl
 ·refine r_seq (r_region (r_p (p_assign rfl) rfl (r_nil ?_)))
  refine r_seq_cut (X := Unit) (fun _ => True) (fun _ => [(1, .pointer (some ⟨b1, 0, none⟩)), (3, .bool (decide (t.kind = 1) || decide (t.kind = 2))), (4, .int .i64 (if t.kind = 3 then 2 else 1)), (5, .int .i64 (if t.kind = 4 then 2 else if t.kind = 5 then 1 else 0))]) (fun _ => [(1, row b1 53 (eTy t))]) (fun _ => [(0, txsA t.ve t.es), (1, tysA t.vb t.body), (2, tysA t.vl t.els), (3, sl 4 eTx (sv t.ve) t.es), (4, sl 5 eTy (sv t.vb) t.body), (5, sl 5 eTy (sv t.vl) t.els)]) ?_ (fun _ _ => ?_)
  ·refine r_seq (r_region ?_)
   refine r_p (p_field0 fo53_0 rfl) rfl ?_
   refine r_p (p_load1 t3 rfl rfl (g_row1 (k := 1) rfl rfl)) rfl ?_
   refine r_nil (r_block (r_seq (r_region ?_)))
   refine r_p (p_bin rfl rfl b_eq) rfl ?_
   refine r_p (p_assign rfl) rfl (r_nil ?_)
   refine r_cond rfl (fun h5 => ?_) (fun h5 => ?_)
   ·have q4 : t.kind = 4 := of_decide_eq_true h5
    refine r_region (r_p (p_assign rfl) rfl (r_nil ?_))
    refine r_here () trivial (by rw [if_pos q4]; rfl) rfl rfl
   ·have q4 : ¬ t.kind = 4 := of_decide_eq_false h5
    refine r_seq (r_region ?_)
    refine r_p (p_bin rfl rfl b_eq) rfl ?_
    refine r_p (p_assign rfl) rfl (r_nil ?_)
    refine r_cond rfl (fun h6 => ?_) (fun h6 => ?_)
    ·have q5 : t.kind = 5 := of_decide_eq_true h6
     refine r_region (r_p (p_assign rfl) rfl (r_nil ?_))
     refine r_here () trivial (by rw [if_neg q4, if_pos q5]; rfl) rfl rfl
    ·have q5 : ¬ t.kind = 5 := of_decide_eq_false h6
     refine r_skip ?_
     refine r_here () trivial (by rw [if_neg q4, if_neg q5]; rfl) rfl rfl
  ·refine r_seq (r_region ?_)
   refine r_p (p_field0 fo53_0 rfl) rfl ?_
   refine r_p (p_load1 t3 rfl rfl (g_row1 (k := 1) rfl rfl)) rfl ?_
   refine r_p (p_bin rfl rfl b_ge) rfl ?_
   refine r_p (p_move rfl) rfl ?_
   refine r_gp [] rfl rfl trivial (fun hg7 => p_field0 fo53_0 rfl) rfl ?_
   refine r_gp [(27, _)] rfl rfl ⟨rfl, trivial⟩ (fun hg8 => p_load1 t3 rfl rfl (g_row1 (k := 1) rfl rfl)) rfl ?_
   refine r_gp [(27, _), (28, _)] rfl rfl ⟨rfl, rfl, trivial⟩ (fun hg9 => p_bin rfl rfl b_le) rfl ?_
   refine r_p (p_pick rfl rfl rfl (by first | exact pick_and | exact pick_or |  rfl)) rfl ?_
   refine r_p (p_move rfl) rfl ?_
   refine r_gp [] rfl rfl trivial (fun hg10 => p_field0 fo53_2 rfl) rfl ?_
   refine r_gp [(32, _)] rfl rfl ⟨rfl, trivial⟩ (fun hg11 => p_load1 t46 rfl rfl (g_row1 (k := 1) rfl rfl)) rfl ?_
   refine r_gp [(32, _), (33, _)] rfl rfl ⟨rfl, rfl, trivial⟩ (fun hg12 => p_len_sl Tryz.underlying46 rfl (hs_sl (k := 3) rfl)) rfl ?_
   refine r_gp [(32, _), (33, _), (34, _)] rfl rfl ⟨rfl, rfl, rfl, trivial⟩ (fun hg13 => p_move rfl) rfl ?_
   refine r_gp [(32, _), (33, _), (34, _), (35, _)] rfl rfl ⟨rfl, rfl, rfl, rfl, trivial⟩ (fun hg14 => p_bin rfl rfl b_eq) rfl ?_
   refine r_p (p_pick rfl rfl rfl (by first | exact pick_and | exact pick_or |  rfl)) rfl ?_
   refine r_p (p_move rfl) rfl ?_
   refine r_gp [] rfl rfl trivial (fun hg15 => p_move rfl) rfl ?_
   refine r_gp [(39, _)] rfl rfl ⟨rfl, trivial⟩ (fun hg16 => p_move rfl) rfl ?_
   refine r_gp2 [] [(39, _), (40, _)] rfl rfl trivial ⟨rfl, rfl, trivial⟩ (fun hg17 hg17' => p_field0 fo53_1 rfl) rfl ?_
   refine r_gp2 [(41, _)] [(39, _), (40, _)] rfl rfl ⟨rfl, trivial⟩ ⟨rfl, rfl, trivial⟩ (fun hg18 hg18' => p_load1 t9 rfl rfl (g_row1 (k := 1) rfl rfl)) rfl ?_
   refine r_gms2 [(41, _), (42, _)] [(39, _), (40, _)] rfl rfl ⟨rfl, rfl, trivial⟩ ⟨rfl, rfl, trivial⟩ (fun hg19 hg19' => ms_call (xs := [.tmp 42]) (ident_spec t.name hnm.1 hnm.2) cb95 [] [] [] [] rfl rfl rfl rfl rfl rfl rfl rfl (fun _ _ => rfl) (fun _ _ _ => rfl)) rfl ?_
   refine r_gp [(39, _), (40, _)] rfl rfl ⟨rfl, rfl, trivial⟩ (fun hg20 => p_pick rfl rfl rfl (by first | exact pick_and | exact pick_or | exact pick_and2 hg20 | exact pick_or2 hg20 | rfl)) rfl ?_
   refine r_gp [(39, _), (40, _), (44, _)] rfl rfl ⟨rfl, rfl, rfl, trivial⟩ (fun hg21 => p_move rfl) rfl ?_
   refine r_gp2 [] [(39, _), (40, _), (44, _), (45, _)] rfl rfl trivial ⟨rfl, rfl, rfl, rfl, trivial⟩ (fun hg22 hg22' => p_move rfl) rfl ?_
   refine r_gp2 [(46, _)] [(39, _), (40, _), (44, _), (45, _)] rfl rfl ⟨rfl, trivial⟩ ⟨rfl, rfl, rfl, rfl, trivial⟩ (fun hg23 hg23' => p_not rfl) rfl ?_
   refine r_gp2 [(46, _), (47, _)] [(39, _), (40, _), (44, _), (45, _)] rfl rfl ⟨rfl, rfl, trivial⟩ ⟨rfl, rfl, rfl, rfl, trivial⟩ (fun hg24 hg24' => p_move rfl) rfl ?_
   refine r_gp2 [] [(46, _), (47, _), (48, _)] rfl rfl trivial ⟨rfl, rfl, rfl, trivial⟩ (fun hg25 hg25' => p_field0 fo53_1 rfl) rfl ?_
   refine r_gp2 [(49, _)] [(46, _), (47, _), (48, _)] rfl rfl ⟨rfl, trivial⟩ ⟨rfl, rfl, rfl, trivial⟩ (fun hg26 hg26' => p_load1 t9 rfl rfl (g_row1 (k := 1) rfl rfl)) rfl ?_
   refine r_gp2 [(49, _), (50, _)] [(46, _), (47, _), (48, _)] rfl rfl ⟨rfl, rfl, trivial⟩ ⟨rfl, rfl, rfl, trivial⟩ (fun hg27 hg27' => p_bin rfl rfl b_seq) rfl ?_
   refine r_gp2 [(46, _), (47, _), (48, _)] [(39, _), (40, _), (44, _), (45, _)] rfl rfl ⟨rfl, rfl, rfl, trivial⟩ ⟨rfl, rfl, rfl, rfl, trivial⟩ (fun hg28 hg28' => p_pick rfl rfl rfl (by first | exact pick_and | exact pick_or | exact pick_and2 hg28 | exact pick_or2 hg28 |exact pick_and2 (band2 hg28 hg28') | exact pick_or2 (band2 hg28 hg28') | rfl)) rfl ?_
   refine r_gp [(39, _), (40, _), (44, _), (45, _)] rfl rfl ⟨rfl, rfl, rfl, rfl, trivial⟩ (fun hg29 => p_pick rfl rfl rfl (by first | exact pick_and | exact pick_or | exact pick_and2 hg29 | exact pick_or2 hg29 | rfl)) rfl ?_
   refine r_p (p_pick rfl rfl rfl (by first | exact pick_and | exact pick_or |  rfl)) rfl ?_
   refine r_p (p_move rfl) rfl ?_
   refine r_gp [] rfl rfl trivial (fun hg30 => p_move rfl) rfl ?_
   refine r_gp [(56, _)] rfl rfl ⟨rfl, trivial⟩ (fun hg31 => p_bin rfl rfl b_gt) rfl ?_
   refine r_gp [(56, _), (57, _)] rfl rfl ⟨rfl, rfl, trivial⟩ (fun hg32 => p_move rfl) rfl ?_
   refine r_gp2 [] [(56, _), (57, _), (58, _)] rfl rfl trivial ⟨rfl, rfl, rfl, trivial⟩ (fun hg33 hg33' => p_field0 fo53_3 rfl) rfl ?_
   refine r_gp2 [(59, _)] [(56, _), (57, _), (58, _)] rfl rfl ⟨rfl, trivial⟩ ⟨rfl, rfl, rfl, trivial⟩ (fun hg34 hg34' => p_load1 t51 rfl rfl (g_row1 (k := 1) rfl rfl)) rfl ?_
   refine r_gp2 [(59, _), (60, _)] [(56, _), (57, _), (58, _)] rfl rfl ⟨rfl, rfl, trivial⟩ ⟨rfl, rfl, rfl, trivial⟩ (fun hg35 hg35' => p_len_sl Tryz.underlying51 rfl (hs_sl (k := 4) rfl)) rfl ?_
   refine r_gp2 [(59, _), (60, _), (61, _)] [(56, _), (57, _), (58, _)] rfl rfl ⟨rfl, rfl, rfl, trivial⟩ ⟨rfl, rfl, rfl, trivial⟩ (fun hg36 hg36' => p_bin rfl rfl b_eq) rfl ?_
   refine r_gp [(56, _), (57, _), (58, _)] rfl rfl ⟨rfl, rfl, rfl, trivial⟩ (fun hg37 => p_pick rfl rfl rfl (by first | exact pick_and | exact pick_or | exact pick_and2 hg37 | exact pick_or2 hg37 | rfl)) rfl ?_
   refine r_p (p_pick rfl rfl rfl (by first | exact pick_and | exact pick_or |  rfl)) rfl ?_
   refine r_p (p_move rfl) rfl ?_
   refine r_gp [] rfl rfl trivial (fun hg38 => p_move rfl) rfl ?_
   refine r_gp [(66, _)] rfl rfl ⟨rfl, trivial⟩ (fun hg39 => p_bin rfl rfl b_gt) rfl ?_
   refine r_gp [(66, _), (67, _)] rfl rfl ⟨rfl, rfl, trivial⟩ (fun hg40 => p_move rfl) rfl ?_
   refine r_gp2 [] [(66, _), (67, _), (68, _)] rfl rfl trivial ⟨rfl, rfl, rfl, trivial⟩ (fun hg41 hg41' => p_field0 fo53_4 rfl) rfl ?_
   refine r_gp2 [(69, _)] [(66, _), (67, _), (68, _)] rfl rfl ⟨rfl, trivial⟩ ⟨rfl, rfl, rfl, trivial⟩ (fun hg42 hg42' => p_load1 t51 rfl rfl (g_row1 (k := 1) rfl rfl)) rfl ?_
   refine r_gp2 [(69, _), (70, _)] [(66, _), (67, _), (68, _)] rfl rfl ⟨rfl, rfl, trivial⟩ ⟨rfl, rfl, rfl, trivial⟩ (fun hg43 hg43' => p_len_sl Tryz.underlying51 rfl (hs_sl (k := 5) rfl)) rfl ?_
   refine r_gp2 [(69, _), (70, _), (71, _)] [(66, _), (67, _), (68, _)] rfl rfl ⟨rfl, rfl, rfl, trivial⟩ ⟨rfl, rfl, rfl, trivial⟩ (fun hg44 hg44' => p_bin rfl rfl b_eq) rfl ?_
   refine r_gp [(66, _), (67, _), (68, _)] rfl rfl ⟨rfl, rfl, rfl, trivial⟩ (fun hg45 => p_pick rfl rfl rfl (by first | exact pick_and | exact pick_or | exact pick_and2 hg45 | exact pick_or2 hg45 | rfl)) rfl ?_
   refine r_p (p_pick rfl rfl rfl (by first | exact pick_and | exact pick_or |  rfl)) rfl ?_
   refine r_p (p_move rfl) rfl ?_
   refine r_gp [] rfl rfl trivial (fun hg46 => p_field0 fo53_2 rfl) rfl ?_
   refine r_gp [(76, _)] rfl rfl ⟨rfl, trivial⟩ (fun hg47 => p_load1 t46 rfl rfl (g_row1 (k := 1) rfl rfl)) rfl ?_
   refine r_gms [(76, _), (77, _)] rfl rfl ⟨rfl, rfl, trivial⟩ (fun hg48 => ms_call (xs := [.tmp 77, .func 127]) (conx_spec t.ve t.es hel 127 [] (txsA t.ve t.es) (fun u => !rX u) cb127 (fun u hu => rx2_spec t.ve t.es (fun u hu => rx_spec u (heg.mem u hu)) u hu)) cb126 [] [(false, 3), (false, 0)] [] [] rfl rfl rfl rfl rfl rfl rfl rfl (fun _ _ => rfl) (fun _ _ _ => rfl)) rfl ?_
   refine r_gp [(76, _), (77, _), (78, _)] rfl rfl ⟨rfl, rfl, rfl, trivial⟩ (fun hg49 => p_not rfl) rfl ?_
   refine r_p (p_pick rfl rfl rfl (by first | exact pick_and | exact pick_or |  rfl)) rfl ?_
   refine r_p (p_move rfl) rfl ?_
   refine r_gp [] rfl rfl trivial (fun hg50 => p_field0 fo53_3 rfl) rfl ?_
   refine r_gp [(82, _)] rfl rfl ⟨rfl, trivial⟩ (fun hg51 => p_load1 t51 rfl rfl (g_row1 (k := 1) rfl rfl)) rfl ?_
   refine r_gms [(82, _), (83, _)] rfl rfl ⟨rfl, rfl, trivial⟩ (fun hg52 => ms_call (xs := [.tmp 83]) (rblk_spec t.vb t.body hbl ihb) cb96 [] [(false, 1)] [] [] rfl rfl rfl rfl rfl rfl rfl rfl (fun _ _ => rfl) (fun _ _ _ => rfl)) rfl ?_
   refine r_p (p_pick rfl rfl rfl (by first | exact pick_and | exact pick_or |  rfl)) rfl ?_
   refine r_p (p_move rfl) rfl ?_
   refine r_gp [] rfl rfl trivial (fun hg53 => p_field0 fo53_4 rfl) rfl ?_
   refine r_gp [(87, _)] rfl rfl ⟨rfl, trivial⟩ (fun hg54 => p_load1 t51 rfl rfl (g_row1 (k := 1) rfl rfl)) rfl ?_
   refine r_gms [(87, _), (88, _)] rfl rfl ⟨rfl, rfl, trivial⟩ (fun hg55 => ms_call (xs := [.tmp 88]) (rblk_spec t.vl t.els hll ihl) cb96 [] [(false, 2)] [] [] rfl rfl rfl rfl rfl rfl rfl rfl (fun _ _ => rfl) (fun _ _ _ => rfl)) rfl ?_
   refine r_p (p_pick rfl rfl rfl (by first | exact pick_and | exact pick_or |  rfl)) rfl ?_
   refine r_p (p_assign rfl) rfl (r_nil (r_cret ?_))
   refine r_ret () trivial rfl (rs1 (rv_tmp rfl)) (congrArg Value.bool (rY_eq t).symm) [] [] rfl rfl rfl
theorem ry_all : ∀ (n : Nat) (t : Ty), SizeOf.sizeOf t < n → GY t → Spec Tryz.prog 115 [yV t] [] [txsA t.ve t.es, tysA t.vb t.body, tysA t.vl t.els] (X := Unit) (fun _ => True) (fun _ => .bool (rY t)) (fun _ => []) (fun _ => [])
 | 0, _, h, _ => absurd h (Nat.not_lt_zero _)
 | n + 1, t, h, ht => ry_step t ht (fun u hu => ry_all n u (by have := ty_lt (.inl hu); omega) ((GY_body ht).2.mem u hu)) (fun u hu => ry_all n u (by have := ty_lt (.inr hu); omega) ((GY_els ht).2.mem u hu))
theorem ry_spec (t : Ty) (ht : GY t) : Spec Tryz.prog 115 [yV t] [] [txsA t.ve t.es, tysA t.vb t.body, tysA t.vl t.els] (X := Unit) (fun _ => True) (fun _ => .bool (rY t)) (fun _ => []) (fun _ => []) := ry_all _ t (Nat.lt_succ_self _) ht
set_option maxRecDepth 100000 in
theorem right11_spec (s : ByteArray) (hs : nmB s) :
  Spec Tryz.prog 94 [.string s] [] [] (X := Unit) (fun _ => True) (fun _ => .bool (!identB s)) (fun _ => []) (fun _ => []) := by
 refine r_enter Tryz.func94 rfl Tryz.ntmps94 rfl fun w0 M H => ?_
 refine r_seq (r_region (r_p (p_assign rfl) rfl (r_nil (r_seq (r_region (r_p (p_move rfl) rfl ?_))))))
 refine r_call (xs := [.tmp 3]) (ident_spec s hs.1 hs.2) cb95 [] [] [] [] rfl rfl rfl rfl rfl rfl rfl rfl (fun _ _ => rfl) (fun _ _ _ => rfl) rfl (fun _ _ => ?_)
 refine r_p (p_not rfl) rfl ?_
 refine r_p (p_assign rfl) rfl (r_nil (r_cret ?_))
 refine r_ret () trivial rfl (rs1 (rv_tmp rfl)) rfl [] [] rfl rfl rfl
set_option maxHeartbeats 1000000 in
set_option maxRecDepth 100000 in
theorem right1_spec (f : Tf) (fs : List Tf) (hf : f ∈ fs) (hg : GF f) :
  Spec Tryz.prog 92 [tfV f] [] [fnsA fs] (X := Unit) (fun _ => True) (fun _ => .bool (!rF f)) (fun _ => []) (fun _ => []) := by
 refine r_enter Tryz.func92 rfl Tryz.ntmps92 rfl fun w0 M H => ?_
 refine r_more 0 1 rfl (fns_f hf) ?_
 refine r_more 1 2 rfl tf_ps ?_
 refine r_more 1 3 rfl tf_body ?_
 obtain ⟨g1, g2, g3, g4, g5, g6⟩ := hg
 refine r_seq (r_region ?_)
 refine r_boxA rfl rfl fun b1 => ?_
 refine r_p (p_assign rfl) rfl (r_nil (r_seq (r_region ?_)))
 refine r_p (p_field0 fo63_1 rfl) rfl ?_
 refine r_p (p_load1 t58 rfl rfl (g_row1 (k := 1) rfl rfl)) rfl ?_
 refine r_call (xs := [.tmp 5, .func 94]) (cons_spec f.vp f.ps g3 94 (fun s => !identB s) cb94 (fun s hs => right11_spec s (g2 s hs))) cb93 [] [(false, 2)] [] [] rfl rfl rfl rfl rfl rfl rfl rfl (fun _ _ => rfl) (fun _ _ _ => rfl) rfl (fun _ _ => ?_)
 refine r_p (p_assign rfl) rfl (r_nil (r_seq (r_region (r_p (p_move rfl) rfl (r_p (p_move rfl) rfl ?_)))))
 refine r_gp [] rfl rfl trivial (fun hg1 => p_field0 fo63_0 rfl) rfl ?_
 refine r_gp [(9, _)] rfl rfl ⟨rfl, trivial⟩ (fun hg2 => p_load1 t9 rfl rfl (g_row1 (k := 1) rfl rfl)) rfl ?_
 refine r_gms [(9, _), (10, _)] rfl rfl ⟨rfl, rfl, trivial⟩ (fun hg3 => ms_call (xs := [.tmp 10]) (ident_spec f.name g1.1 g1.2) cb95 [] [] [] [] rfl rfl rfl rfl rfl rfl rfl rfl (fun _ _ => rfl) (fun _ _ _ => rfl)) rfl ?_
 refine r_gp [(9, _), (10, _), (11, _)] rfl rfl ⟨rfl, rfl, rfl, trivial⟩ (fun hg4 => p_not rfl) rfl ?_
 refine r_p (p_pick rfl rfl rfl (by first | exact pick_and | exact pick_or |  rfl)) rfl ?_
 refine r_p (p_move rfl) rfl ?_
 refine r_gp [] rfl rfl trivial (fun hg5 => p_field0 fo63_2 rfl) rfl ?_
 refine r_gp [(15, _)] rfl rfl ⟨rfl, trivial⟩ (fun hg6 => p_load1 t51 rfl rfl (g_row1 (k := 1) rfl rfl)) rfl ?_
 refine r_gms [(15, _), (16, _)] rfl rfl ⟨rfl, rfl, trivial⟩ (fun hg7 => ms_call (xs := [.tmp 16]) (rblk_spec f.vb f.body g4 (fun u hu => ry_spec u (g5.mem u hu))) cb96 [] [(false, 3)] [] [] rfl rfl rfl rfl rfl rfl rfl rfl (fun _ _ => rfl) (fun _ _ _ => rfl)) rfl ?_
 refine r_gp [(15, _), (16, _), (17, _)] rfl rfl ⟨rfl, rfl, rfl, trivial⟩ (fun hg8 => p_not rfl) rfl ?_
 refine r_p (p_pick rfl rfl rfl (by first | exact pick_and | exact pick_or |  rfl)) rfl ?_
 refine r_p (p_assign rfl) rfl (r_nil (r_cret ?_))
 refine r_ret () trivial rfl (rs1 (rv_tmp rfl)) (congrArg Value.bool (rF_eq f)) [] [] rfl rfl rfl
set_option maxRecDepth 100000 in
theorem right_spec (vp : SV) (fs : List Tf) (hg : GP fs) :
  Spec Tryz.prog 56 [.agg #[sv vp]] [] [tfsA vp fs] (X := Unit) (fun _ => True) (fun _ => .bool (rP fs)) (fun _ => []) (fun _ => []) := by
 refine r_enter Tryz.func56 rfl Tryz.ntmps56 rfl fun w0 M H => ?_
 refine r_more 0 1 rfl tfs_sl ?_
 refine r_more 0 2 rfl tfs_fns ?_
 refine r_seq (r_region ?_)
 refine r_boxA rfl rfl fun b1 => ?_
 refine r_p (p_assign rfl) rfl (r_nil (r_seq (r_region ?_)))
 refine r_p (p_field0 fo29_0 rfl) rfl ?_
 refine r_p (p_load1 t27 rfl rfl (g_row1 (k := 1) rfl rfl)) rfl ?_
 refine r_call (xs := [.tmp 4, .func 92]) (conf_spec vp fs hg.1 92 [] (fnsA fs) (fun f => !rF f) cb92 (fun f hf => right1_spec f fs hf (hg.2 f hf))) cb91 [] [(false, 1), (false, 2)] [] [] rfl rfl rfl rfl rfl rfl rfl rfl (fun _ _ => rfl) (fun _ _ _ => rfl) rfl (fun _ _ => ?_)
 refine r_p (p_not rfl) rfl ?_
 refine r_p (p_assign rfl) rfl (r_nil (r_cret ?_))
 refine r_ret () trivial rfl (rs1 (rv_tmp rfl)) (congrArg Value.bool (not_any_not rF fs)) [] [] rfl rfl rfl
/-- The checker's cells. -/
def cR (vp vn : SV) (nd va : Int) (dp : Bool) (er : Int) : List Value := [sv vp, sv vn, .int .i64 nd, .int .i64 va, .bool dp, .int .i64 er]
theorem take_snoc {α : Type} {l : List α} {i : Nat} {k : α} (h : l[i]? = some k) : l.take (i + 1) = l.take i ++ [k] := by
 obtain ⟨hi, hk⟩ := List.getElem?_eq_some_iff.1 h
 rw [List.take_add_one, List.getElem?_eq_getElem hi, hk]
 rfl
theorem nXs_app : ∀ (a b : List Tx), nXs (a ++ b) = nXs a + nXs b
 | [], b => by simp [nXs]
 | t :: r, b => by simp [nXs, nXs_app r b, Nat.add_assoc]
theorem dXs_app : ∀ (a b : List Tx), dXs (a ++ b) = max (dXs a) (dXs b)
 | [], b => by simp [dXs]
 | t :: r, b => by simp [dXs, dXs_app r b, Nat.max_assoc]
theorem nYs_app : ∀ (a b : List Ty), nYs (a ++ b) = nYs a + nYs b
 | [], b => by simp [nYs]
 | t :: r, b => by simp [nYs, nYs_app r b, Nat.add_assoc]
theorem vYs_app : ∀ (a b : List Ty), vYs (a ++ b) = vYs a + vYs b
 | [], b => by simp [vYs]
 | t :: r, b => by simp [vYs, vYs_app r b, Nat.add_assoc]
theorem dpYs_app (d : Nat) : ∀ (a b : List Ty), dpYs d (a ++ b) = (dpYs d a || dpYs d b)
 | [], b => by simp [dpYs]
 | t :: r, b => by simp [dpYs, dpYs_app d r b, Bool.or_assoc]
theorem nXs_one (t : Tx) : nXs [t] = nX t := by simp [nXs]
theorem dXs_one (t : Tx) : dXs [t] = dX t := by simp [dXs]
theorem nYs_one (t : Ty) : nYs [t] = nY t := by simp [nYs]
theorem vYs_one (t : Ty) : vYs [t] = vY t := by simp [vYs]
theorem dpYs_one (d : Nat) (t : Ty) : dpYs d [t] = dpY d t := by simp [dpYs]
theorem nX_eq (t : Tx) : nX t = nXs t.kids + 1 := by cases t; rfl
theorem dX_eq (t : Tx) : dX t = dXs t.kids + 1 := by cases t; rfl
theorem nY_eq (t : Ty) : nY t = 1 + nXs t.es + nYs t.body + nYs t.els := by cases t; rfl
theorem vY_eq (t : Ty) : vY t = (if t.kind = 1 then 1 else 0) + vYs t.body + vYs t.els := by cases t; rfl
theorem dpY_eq (d : Nat) (t : Ty) : dpY d t = (decide (d > 8) || decide (dXs t.es > 8) || dpYs (d + 1) t.body || dpYs (d + 1) t.els) := by cases t; rfl
theorem nXs_take {l : List Tx} {i : Nat} {k : Tx} (h : l[i]? = some k) : nXs (l.take (i + 1)) = nXs (l.take i) + nX k := by rw [take_snoc h, nXs_app, nXs_one]
theorem dXs_take {l : List Tx} {i : Nat} {k : Tx} (h : l[i]? = some k) : dXs (l.take (i + 1)) = max (dXs (l.take i)) (dX k) := by rw [take_snoc h, dXs_app, dXs_one]
theorem nXs_le : ∀ (l : List Tx) (i : Nat), nXs (l.take i) ≤ nXs l := fun l i => by
 have h := nXs_app (l.take i) (l.drop i)
 rw [List.take_append_drop] at h
 omega
theorem nYs_le : ∀ (l : List Ty) (i : Nat), nYs (l.take i) ≤ nYs l := fun l i => by
 have h := nYs_app (l.take i) (l.drop i)
 rw [List.take_append_drop] at h
 omega
theorem nYs_take {l : List Ty} {i : Nat} {k : Ty} (h : l[i]? = some k) : nYs (l.take (i + 1)) = nYs (l.take i) + nY k := by rw [take_snoc h, nYs_app, nYs_one]
theorem vYs_take {l : List Ty} {i : Nat} {k : Ty} (h : l[i]? = some k) : vYs (l.take (i + 1)) = vYs (l.take i) + vY k := by rw [take_snoc h, vYs_app, vYs_one]
theorem dpYs_take {d : Nat} {l : List Ty} {i : Nat} {k : Ty} (h : l[i]? = some k) : dpYs d (l.take (i + 1)) = (dpYs d (l.take i) || dpY d k) := by rw [take_snoc h, dpYs_app, dpYs_one]
mutual
theorem dX_le : ∀ t : Tx, dX t ≤ nX t
 | .mk _ _ _ _ kids => by
  have := dXs_le kids
  rw [dX, nX]
  omega
theorem dXs_le : ∀ l : List Tx, dXs l ≤ nXs l
 | [] => Nat.le_refl _
 | t :: r => by
  have h1 := dX_le t
  have h2 := dXs_le r
  rw [dXs, nXs]
  omega
end
mutual
theorem vY_le : ∀ t : Ty, vY t ≤ nY t
 | .mk k _ _ _ _ body _ els => by
  have h1 := vYs_le body
  have h2 := vYs_le els
  rw [vY, nY]
  split <;> omega
theorem vYs_le : ∀ l : List Ty, vYs l ≤ nYs l
 | [] => Nat.le_refl _
 | t :: r => by
  have h1 := vY_le t
  have h2 := vYs_le r
  rw [vYs, nYs]
  omega
end
theorem cast_max (a b : Nat) : ((max a b : Nat) : Int) = max (a : Int) (b : Int) := by omega
theorem dec_max {a b : Nat} : (decide (a > 8) || decide (b > 8)) = decide (max a b > 8) := by
 by_cases h : a > 8
 ·have : max a b > 8 := by omega
  simp [h, this]
 ·by_cases h2 : b > 8
  ·have : max a b > 8 := by omega
   simp [h2, this]
  ·have : ¬ max a b > 8 := by omega
   simp [h, h2, this]
set_option maxRecDepth 100000 in
theorem cfail_spec (c : Nat) (vp vn : SV) (nd va : Int) (dp : Bool) (er : Int) (e : Int) :
  Spec Tryz.prog 100 [.pointer (some ⟨c, 0, none⟩), .int .i64 e] [row c 127 (cR vp vn nd va dp er)] [] (X := Unit) (fun _ => True) (fun _ => .tuple #[]) (fun _ => [row c 127 (cR vp vn nd va dp (fst er e))]) (fun _ => []) := by
 refine r_enter Tryz.func100 rfl Tryz.ntmps100 rfl fun w0 M H => ?_
 refine r_seq (r_region (r_p (p_move rfl) rfl (r_p (p_nilCheck rfl) rfl ?_)))
 refine r_p (p_field0 fo127_5 rfl) rfl ?_
 refine r_p (p_load1 t40 rfl rfl (g_row1 (k := 0) rfl rfl)) rfl ?_
 refine r_p (p_bin rfl rfl b_eq) rfl ?_
 refine r_nil ?_
 refine r_cond rfl (fun h1 => ?_) (fun h1 => ?_)
 ·have h0 : er = 0 := of_decide_eq_true h1
  have hfs : fst er e = e := if_pos h0
  refine r_region (r_p (p_move rfl) rfl (r_p (p_move rfl) rfl (r_p (p_nilCheck rfl) rfl ?_)))
  refine r_p (p_field0 fo127_5 rfl) rfl ?_
  refine r_store_row (k := 0) t40 rfl rfl rfl rfl rfl rfl rfl rfl ?_
  refine r_nil ?_
  rw [hfs]
  refine r_end () trivial rfl rs0 rfl [0] [] rfl rfl rfl
 ·have h0 : ¬ er = 0 := of_decide_eq_false h1
  have hfs : fst er e = er := if_neg h0
  refine r_skip ?_
  rw [hfs]
  refine r_end () trivial rfl rs0 rfl [0] [] rfl rfl rfl
theorem fst_if (er z : Int) (b : Bool) (h : b = true) : fst er (if b = true then z else 0) = fst er z := by rw [if_pos h]
theorem fst_ifn (er z : Int) (b : Bool) (h : b = false) : fst er (if b = true then z else 0) = er := by rw [if_neg (by rw [h]; simp), fst_zero]
theorem fst_if' (er z : Int) (b : Bool) (h : b = true) : fst er (if b = true then 0 else z) = er := by rw [if_pos h, fst_zero]
theorem fst_ifn' (er z : Int) (b : Bool) (h : b = false) : fst er (if b = true then 0 else z) = fst er z := by rw [if_neg (by rw [h]; simp)]
set_option maxRecDepth 100000 in
theorem cvar_spec (c : Nat) (vp vn : SV) (nd va : Int) (dp : Bool) (er : Int) (ns : List ByteArray) (hn : ns.length ≤ 1000000) (s : ByteArray) :
  Spec Tryz.prog 117 [.pointer (some ⟨c, 0, none⟩), .string s] [row c 127 (cR vp vn nd va dp er), own 9 1 eS (sv vn) ns] [] (X := Unit) (fun _ => True) (fun _ => .tuple #[]) (fun _ => [row c 127 (cR vp vn nd va dp (fst er (if memB s ns = true then 0 else 21))), own 9 1 eS (sv vn) ns]) (fun _ => []) := by
 refine r_enter Tryz.func117 rfl Tryz.ntmps117 rfl fun w0 M H => ?_
 refine r_seq (r_region (r_p (p_move rfl) rfl (r_p (p_nilCheck rfl) rfl ?_)))
 refine r_p (p_field0 fo127_1 rfl) rfl ?_
 refine r_p (p_load1 t58 rfl rfl (g_row1 (k := 0) rfl rfl)) rfl ?_
 refine r_p (p_move rfl) rfl ?_
 refine r_call (xs := [.tmp 7, .tmp 8]) (Spec.ro1 (contains_spec vn ns (by omega) s) own_to_sl) cb107 [] [(true, 1)] [] [] rfl rfl rfl rfl rfl rfl rfl rfl (fun _ _ => rfl) (fun _ _ _ => rfl) rfl (fun _ _ => ?_)
 refine r_p (p_not rfl) rfl ?_
 refine r_nil ?_
 refine r_cond rfl (fun h1 => ?_) (fun h1 => ?_)
 ·have h0 : memB s ns = false := by simpa using h1
  rw [fst_ifn' _ _ _ h0]
  refine r_region (r_p (p_move rfl) rfl ?_)
  refine r_call (xs := [.tmp 11, .const (.int .i64 21)]) (cfail_spec c vp vn nd va dp er 21) cb100 [0] [] [0] [] rfl rfl rfl rfl rfl rfl rfl rfl (fun _ _ => rfl) (fun _ _ _ => rfl) rfl (fun _ _ => ?_)
  refine r_nil ?_
  refine r_end () trivial rfl rs0 rfl [0, 1] [] rfl rfl rfl
 ·have h0 : memB s ns = true := by simpa using h1
  rw [fst_if' _ _ _ h0]
  refine r_skip ?_
  refine r_end () trivial rfl rs0 rfl [0, 1] [] rfl rfl rfl
set_option maxHeartbeats 1000000 in
set_option maxRecDepth 100000 in
theorem cdecl_spec (c : Nat) (vp vn : SV) (nd va : Int) (dp : Bool) (er : Int) (ns : List ByteArray) (hn : ns.length ≤ 1000000) (s : ByteArray) :
  Spec Tryz.prog 101 [.pointer (some ⟨c, 0, none⟩), .string s] [row c 127 (cR vp vn nd va dp er), own 9 1 eS (sv vn) ns] [] (X := SV) (fun _ => True) (fun _ => .tuple #[]) (fun v => [row c 127 (cR vp v nd va dp (fst er (if memB s ns = true then 22 else 0))), own 9 1 eS (sv v) (ns ++ [s])]) (fun _ => []) := by
 refine r_enter Tryz.func101 rfl Tryz.ntmps101 rfl fun w0 M H => ?_
 refine r_seq_cut (X := Unit) (fun _ => True) (fun _ => [(0, .pointer (some ⟨c, 0, none⟩)), (1, .string s)]) (fun _ => [(0, row c 127 (cR vp vn nd va dp (fst er (if memB s ns = true then 22 else 0)))), (1, own 9 1 eS (sv vn) ns)]) (fun _ => []) ?_ (fun _ _ => ?_)
 ·refine r_seq (r_region (r_p (p_move rfl) rfl (r_p (p_nilCheck rfl) rfl ?_)))
  refine r_p (p_field0 fo127_1 rfl) rfl ?_
  refine r_p (p_load1 t58 rfl rfl (g_row1 (k := 0) rfl rfl)) rfl ?_
  refine r_p (p_move rfl) rfl ?_
  refine r_call (xs := [.tmp 7, .tmp 8]) (Spec.ro1 (contains_spec vn ns (by omega) s) own_to_sl) cb107 [] [(true, 1)] [] [] rfl rfl rfl rfl rfl rfl rfl rfl (fun _ _ => rfl) (fun _ _ _ => rfl) rfl (fun _ _ => ?_)
  refine r_nil ?_
  refine r_cond rfl (fun h1 => ?_) (fun h1 => ?_)
  ·have h0 : memB s ns = true := h1
   rw [fst_if _ _ _ h0]
   refine r_region (r_p (p_move rfl) rfl ?_)
   refine r_call (xs := [.tmp 10, .const (.int .i64 22)]) (cfail_spec c vp vn nd va dp er 22) cb100 [0] [] [0] [] rfl rfl rfl rfl rfl rfl rfl rfl (fun _ _ => rfl) (fun _ _ _ => rfl) rfl (fun _ _ => ?_)
   refine r_nil ?_
   refine r_here () trivial rfl rfl rfl
  ·have h0 : memB s ns = false := h1
   rw [fst_ifn _ _ _ h0]
   refine r_skip ?_
   refine r_here () trivial rfl rfl rfl
 ·refine r_region (r_p (p_move rfl) rfl (r_p (p_move rfl) rfl (r_p (p_nilCheck rfl) rfl ?_)))
  refine r_p (p_field0 fo127_1 rfl) rfl ?_
  refine r_p (p_load1 t58 rfl rfl (g_row1 (k := 0) rfl rfl)) rfl ?_
  refine r_p (p_move rfl) rfl ?_
  refine r_bslice1 eS _ Tryz.underlying58 t9 rfl (by decide) (by decide) rfl rfl rfl rfl fun v18 => ?_
  refine r_append 1 Tryz.underlying58 t9 rfl (by decide) (fun _ => rfl) (fun _ => rfl) rfl rfl rfl (hs_own (k := 18) rfl) (by first | omega | (simp; done) | (simp; omega)) (by unfold maxLen; first | omega | (simp; done) | (simp; omega)) rfl fun v19 => ?_
  refine r_p (p_nilCheck rfl) rfl ?_
  refine r_p (p_field0 fo127_1 rfl) rfl ?_
  refine r_store_row (k := 0) t58 rfl rfl rfl rfl rfl rfl rfl rfl ?_
  refine r_nil ?_
  refine r_end v19 trivial rfl rs0 rfl [0, 1] [] rfl rfl rfl
set_option maxRecDepth 100000 in
theorem find1_spec (f : Tf) (b : Nat) (s : ByteArray) :
  Spec Tryz.prog 98 [tfV f, .pointer (some ⟨b, 0, none⟩)] [] [row b 9 [.string s]] (X := Unit) (fun _ => True) (fun _ => .bool (decide (f.name = s))) (fun _ => []) (fun _ => []) := by
 refine r_enter Tryz.func98 rfl Tryz.ntmps98 rfl fun w0 M H => ?_
 refine r_seq (r_region ?_)
 refine r_boxA rfl rfl fun b2 => ?_
 refine r_p (p_assign rfl) rfl (r_nil (r_seq (r_region ?_)))
 refine r_p (p_field0 fo63_0 rfl) rfl ?_
 refine r_p (p_load1 t9 rfl rfl (g_row1 (k := 2) rfl rfl)) rfl ?_
 refine r_p (p_load1 t9 rfl rfl (g_row1R (k := 0) rfl rfl)) rfl ?_
 refine r_p (p_bin rfl rfl b_seq) rfl ?_
 refine r_p (p_assign rfl) rfl (r_nil (r_cret ?_))
 refine r_ret () trivial rfl (rs1 (rv_tmp rfl)) (congrArg Value.bool (ba_eq _ _)) [] [] rfl rfl rfl
set_option maxRecDepth 100000 in
theorem cfind_spec (c : Nat) (vp vn : SV) (nd va : Int) (dp : Bool) (er : Int) (s : ByteArray) (fs : List Tf) (hf : fs.length ≤ 1000000) :
  Spec Tryz.prog 57 [.pointer (some ⟨c, 0, none⟩), .string s] [row c 127 (cR vp vn nd va dp er)] [sl 3 eTf (sv vp) fs] (X := Unit) (fun _ => True) (fun _ => .int .i64 (fix fs s)) (fun _ => [row c 127 (cR vp vn nd va dp er)]) (fun _ => []) := by
 refine r_enter Tryz.func57 rfl Tryz.ntmps57 rfl fun w0 M H => ?_
 refine r_seq (r_region ?_)
 refine r_box1 rfl rfl rfl fun b3 => ?_
 refine r_p (p_assign rfl) rfl (r_nil (r_seq (r_region (r_p (p_move rfl) rfl (r_p (p_nilCheck rfl) rfl ?_)))))
 refine r_p (p_field0 fo127_0 rfl) rfl ?_
 refine r_p (p_field0 fo29_0 rfl) rfl ?_
 refine r_p (p_load1 t27 rfl rfl (g_row1 (k := 0) rfl rfl)) rfl ?_
 refine r_p (p_makeFunc (first := []) (cap := [.tmp 3]) rfl rfl) rfl ?_
 refine r_call (xs := [.tmp 9, .tmp 10]) (ixf_spec vp fs hf 98 [.pointer (some ⟨b3, 0, none⟩)] (row b3 9 [.string s]) (fun f => decide (f.name = s)) cb98 (fun f _ => find1_spec f b3 s)) cb97 [] [(false, 0), (true, 3)] [] [] rfl rfl rfl rfl rfl rfl rfl rfl (fun _ _ => rfl) (fun _ _ _ => rfl) rfl (fun _ _ => ?_)
 refine r_p (p_assign rfl) rfl (r_nil (r_cret ?_))
 refine r_ret () trivial rfl (rs1 (rv_tmp rfl)) rfl [0] [] rfl rfl rfl
set_option maxHeartbeats 2000000 in
set_option maxRecDepth 100000 in
theorem meas_step (c : Nat) (vp vn : SV) (va er : Int) (t : Tx) (ht : GX t) (ih : ∀ u ∈ t.kids, ∀ (nd : Int) (dp : Bool), 0 ≤ nd → nd + (nX u : Int) ≤ 1000000000000 → Spec Tryz.prog 116 [.pointer (some ⟨c, 0, none⟩), xV u] [row c 127 (cR vp vn nd va dp er)] [txsA u.v u.kids] (X := Unit) (fun _ => True) (fun _ => .int .i64 (dX u : Int)) (fun _ => [row c 127 (cR vp vn (nd + (nX u : Int)) va (dp || decide (dX u > 8)) er)]) (fun _ => [])) (nd : Int) (dp : Bool) (h0 : 0 ≤ nd) (hn : nd + (nX t : Int) ≤ 1000000000000) :
  Spec Tryz.prog 116 [.pointer (some ⟨c, 0, none⟩), xV t] [row c 127 (cR vp vn nd va dp er)] [txsA t.v t.kids] (X := Unit) (fun _ => True) (fun _ => .int .i64 (dX t : Int)) (fun _ => [row c 127 (cR vp vn (nd + (nX t : Int)) va (dp || decide (dX t > 8)) er)]) (fun _ => []) := by
 refine r_enter Tryz.func116 rfl Tryz.ntmps116 rfl fun w0 M H => ?_
 have hkl := GX_len ht
 have hnx := nX_eq t
 have hdx := dX_eq t
 have hdn := dX_le t
 refine r_more 0 1 rfl txs_sl ?_
 refine r_seq (r_region ?_)
 refine r_boxA rfl rfl fun b3 => ?_
 refine r_p (p_assign rfl) rfl (r_nil (r_seq (r_region (r_p (p_move rfl) rfl (r_p (p_nilCheck rfl) rfl ?_)))))
 refine r_p (p_field0 fo127_2 rfl) rfl ?_
 refine r_p (p_load1 t3 rfl rfl (g_row1 (k := 0) rfl rfl)) rfl ?_
 refine r_p (p_bin rfl rfl (b_add (by first | exact w_i64 (by omega) (by omega) | rfl))) rfl ?_
 refine r_p (p_nilCheck rfl) rfl ?_
 refine r_p (p_field0 fo127_2 rfl) rfl ?_
 refine r_store_row (k := 0) t3 rfl rfl rfl rfl rfl rfl rfl rfl ?_
 refine r_nil (r_seq (r_region (r_p (p_assign rfl) rfl (r_nil (r_seq (r_seq (r_region ?_)))))))
 refine r_p (p_field0 fo48_3 rfl) rfl ?_
 refine r_p (p_load1 t46 rfl rfl (g_row1 (k := 3) rfl rfl)) rfl ?_
 refine r_p (p_len_sl Tryz.underlying46 rfl (hs_sl (k := 1) rfl)) rfl ?_
 refine r_p (p_move rfl) rfl (r_nil (r_block ?_))
 refine r_loop (X := Nat) (fun i => i ≤ t.kids.length) (fun i => [(0, .pointer (some ⟨c, 0, none⟩)), (3, .pointer (some ⟨b3, 0, none⟩)), (5, .int .i64 (dXs (t.kids.take i) : Int)), (16, sv t.v), (17, .int .i64 (t.kids.length : Int)), (18, .int .i64 (i : Int))]) (fun i => [(0, row c 127 (cR vp vn (nd + 1 + (nXs (t.kids.take i) : Int)) va (dp || decide (dXs (t.kids.take i) > 8)) er)), (3, row b3 48 (eTx t))]) (fun i => [(0, txsA t.v t.kids), (1, sl 4 eTx (sv t.v) t.kids)]) (fun i => t.kids.length - i) 0 (Nat.zero_le _) rfl (by rw [show (dp || decide (dXs (t.kids.take 0) > 8)) = dp by simp [dXs], show nd + 1 + (nXs (t.kids.take 0) : Int) = nd + 1 by simp [nXs]]; rfl) rfl (fun i n1 => ?_)
 refine r_seq (r_region ?_)
 refine r_p (p_bin rfl rfl b_lt) rfl ?_
 refine r_nil (r_seq ?_)
 refine r_cond rfl (fun h1 => ?_) (fun h1 => ?_)
 ·(try simp only [decide_eq_true_eq, decide_eq_false_iff_not, Bool.and_eq_true, Bool.or_eq_true, Bool.and_eq_false_iff, Bool.or_eq_false_iff, Bool.not_eq_true, Bool.not_eq_false, Bool.not_eq_true', Bool.not_eq_false', Bool.not_not, bne_iff_ne, beq_iff_eq] at h1)
  have hi : i < t.kids.length := by omega
  obtain ⟨kid, hkid⟩ : ∃ k, t.kids[i]? = some k := ⟨_, List.getElem?_eq_getElem hi⟩
  have hkm := List.mem_of_getElem? hkid
  have hle := nXs_le t.kids (i + 1)
  rw [nXs_take hkid] at hle
  refine r_skip (r_seq (r_block (r_seq (r_region ?_))))
  refine r_p (p_idx_sl (j := i) Tryz.underlying46 t48 rfl rfl (hs_sl (k := 1) rfl) (by first | rfl | omega) (by first | omega | (simp; done) | (simp; omega))) rfl ?_
  refine r_p (p_loadA t48 rfl rfl rfl (g_el' (hs_sl (k := 1) rfl) (by intro _; rfl) hkid (by rfl))) rfl ?_
  refine r_alloc t48 rfl rfl fun b7 => ?_
  refine r_store_all (k := 7) t48 rfl rfl rfl rfl rfl rfl ?_
  refine r_nil (r_region (r_p (p_move rfl) rfl (r_p (p_move rfl) rfl ?_)))
  refine r_p (p_loadA t48 rfl rfl rfl (g_all (k := 7) rfl)) rfl ?_
  refine r_more 0 8 rfl (txs_kid hkm) ?_
  refine r_call (xs := [.tmp 23, .tmp 24]) (ih kid hkm (nd + 1 + (nXs (t.kids.take i) : Int)) (dp || decide (dXs (t.kids.take i) > 8)) (by omega) (by omega)) cb116 [0] [(false, 8)] [0] [] rfl rfl rfl rfl rfl rfl rfl rfl (fun _ _ => rfl) (fun _ _ _ => rfl) rfl (fun _ _ => ?_)
  refine r_p (p_max rfl rfl rfl) rfl ?_
  refine r_p (p_assign rfl) rfl (r_nil (r_region ?_))
  refine r_p (p_bin rfl rfl (b_add (by first | exact w_i64 (by omega) (by omega) | rfl))) rfl ?_
  refine r_p (p_move rfl) rfl (r_nil ?_)
  refine r_here (i + 1) ⟨by omega, by omega⟩ (by rw [dXs_take hkid, cast_max]; rfl) (by rw [dXs_take hkid, nXs_take hkid, ← dec_max, ← Bool.or_assoc, Int.natCast_add, ← Int.add_assoc]; rfl) rfl
 ·(try simp only [decide_eq_true_eq, decide_eq_false_iff_not, Bool.and_eq_true, Bool.or_eq_true, Bool.and_eq_false_iff, Bool.or_eq_false_iff, Bool.not_eq_true, Bool.not_eq_false, Bool.not_eq_true', Bool.not_eq_false', Bool.not_not, bne_iff_ne, beq_iff_eq] at h1)
  have hi : i = t.kids.length := by omega
  subst hi
  rw [List.take_length]
  refine r_exit (r_seq (r_region (r_p (p_move rfl) rfl (r_p (p_move rfl) rfl (r_p (p_nilCheck rfl) rfl ?_)))))
  refine r_p (p_field0 fo127_4 rfl) rfl ?_
  refine r_p (p_load1 t4 rfl rfl (g_row1 (k := 0) rfl rfl)) rfl ?_
  refine r_p (p_move rfl) rfl ?_
  refine r_gp [] rfl rfl trivial (fun hg2 => p_move rfl) rfl ?_
  refine r_gp [(34, _)] rfl rfl ⟨rfl, trivial⟩ (fun hg3 => p_bin rfl rfl (b_add (by first | exact w_i64 (by omega) (by omega) | rfl))) rfl ?_
  refine r_gp [(34, _), (35, _)] rfl rfl ⟨rfl, rfl, trivial⟩ (fun hg4 => p_bin rfl rfl b_gt) rfl ?_
  refine r_p (p_pick rfl rfl rfl (by first | exact pick_and | exact pick_or |  rfl)) rfl ?_
  refine r_p (p_nilCheck rfl) rfl ?_
  refine r_p (p_field0 fo127_4 rfl) rfl ?_
  refine r_store_row (k := 0) t4 rfl rfl rfl rfl rfl rfl rfl rfl ?_
  refine r_nil (r_seq (r_region (r_p (p_move rfl) rfl ?_)))
  refine r_p (p_bin rfl rfl (b_add (by first | exact w_i64 (by omega) (by omega) | rfl))) rfl ?_
  refine r_p (p_assign rfl) rfl (r_nil (r_cret ?_))
  have hfin : cR vp vn (nd + 1 + (nXs t.kids : Int)) va (dp || decide (dXs t.kids > 8) || decide ((dXs t.kids : Int) + 1 > 8)) er = cR vp vn (nd + (nX t : Int)) va (dp || decide (dX t > 8)) er := by
   rw [hnx, hdx]
   have e1 : nd + 1 + (nXs t.kids : Int) = nd + ((nXs t.kids + 1 : Nat) : Int) := by omega
   have e2 : (dp || decide (dXs t.kids > 8) || decide ((dXs t.kids : Int) + 1 > 8)) = (dp || decide (dXs t.kids + 1 > 8)) := by
    rw [Bool.or_assoc]
    congr 1
    by_cases h : dXs t.kids + 1 > 8
    ·have h2 : (dXs t.kids : Int) + 1 > 8 := by omega
     simp [h, h2]
    ·have h2 : ¬ (dXs t.kids : Int) + 1 > 8 := by omega
     have h3 : ¬ dXs t.kids > 8 := by omega
     simp [h, h2, h3]
   rw [e1, e2]
  rw [← hfin]
  refine r_ret () trivial rfl (rs1 (rv_tmp rfl)) (by rw [hdx]; rfl) [0] [] rfl rfl rfl
theorem meas_all (c : Nat) (vp vn : SV) (va er : Int) : ∀ (n : Nat) (t : Tx), SizeOf.sizeOf t < n → GX t → ∀ (nd : Int) (dp : Bool), 0 ≤ nd → nd + (nX t : Int) ≤ 1000000000000 → Spec Tryz.prog 116 [.pointer (some ⟨c, 0, none⟩), xV t] [row c 127 (cR vp vn nd va dp er)] [txsA t.v t.kids] (X := Unit) (fun _ => True) (fun _ => .int .i64 (dX t : Int)) (fun _ => [row c 127 (cR vp vn (nd + (nX t : Int)) va (dp || decide (dX t > 8)) er)]) (fun _ => [])
 | 0, _, h, _ => absurd h (Nat.not_lt_zero _)
 | n + 1, t, h, ht => fun nd dp h0 hn => meas_step c vp vn va er t ht (fun u hu => meas_all c vp vn va er n u (by have := tx_lt hu; omega) ((GX_kids ht).mem u hu)) nd dp h0 hn
theorem meas_spec (c : Nat) (vp vn : SV) (va er : Int) (t : Tx) (ht : GX t) (nd : Int) (dp : Bool) (h0 : 0 ≤ nd) (hn : nd + (nX t : Int) ≤ 1000000000000) : Spec Tryz.prog 116 [.pointer (some ⟨c, 0, none⟩), xV t] [row c 127 (cR vp vn nd va dp er)] [txsA t.v t.kids] (X := Unit) (fun _ => True) (fun _ => .int .i64 (dX t : Int)) (fun _ => [row c 127 (cR vp vn (nd + (nX t : Int)) va (dp || decide (dX t > 8)) er)]) (fun _ => []) := meas_all c vp vn va er _ t (Nat.lt_succ_self _) ht nd dp h0 hn
/-- The contract of count. -/
def HCt (c : Nat) (vp vn : SV) (er : Int) (v : SV) (l : List Ty) : Prop := ∀ (d : Nat) (nd va : Int) (dp : Bool), d + nYs l ≤ 1000000000000 → 0 ≤ nd → nd + (nYs l : Int) ≤ 1000000000000 → 0 ≤ va → va + (vYs l : Int) ≤ 1000000000000 →
 Spec Tryz.prog 99 [.pointer (some ⟨c, 0, none⟩), sv v, .int .i64 (d : Int)] [row c 127 (cR vp vn nd va dp er)] [tysA v l] (X := Unit) (fun _ => True) (fun _ => .tuple #[]) (fun _ => [row c 127 (cR vp vn (nd + (nYs l : Int)) (va + (vYs l : Int)) (dp || dpYs d l) er)]) (fun _ => [])
theorem or_mv2 (p q a b c d : Bool) : (p || q || a || b || c || d) = (p || (q || (a || b || c || d))) := by cases p <;> cases q <;> rfl
set_option maxHeartbeats 4000000 in
set_option maxRecDepth 100000 in
theorem count_step (c : Nat) (vp vn : SV) (er : Int) (v : SV) (l : List Ty) (hl : l.length ≤ 1000000) (hg : GYs l) (ih : ∀ u ∈ l, HCt c vp vn er u.vb u.body ∧ HCt c vp vn er u.vl u.els) (d : Nat) (nd va : Int) (dp : Bool) (hd : d + nYs l ≤ 1000000000000) (h0 : 0 ≤ nd) (hn : nd + (nYs l : Int) ≤ 1000000000000) (h1 : 0 ≤ va) (hv : va + (vYs l : Int) ≤ 1000000000000) :
  Spec Tryz.prog 99 [.pointer (some ⟨c, 0, none⟩), sv v, .int .i64 (d : Int)] [row c 127 (cR vp vn nd va dp er)] [tysA v l] (X := Unit) (fun _ => True) (fun _ => .tuple #[]) (fun _ => [row c 127 (cR vp vn (nd + (nYs l : Int)) (va + (vYs l : Int)) (dp || dpYs d l) er)]) (fun _ => []) := by
 refine r_enter Tryz.func99 rfl Tryz.ntmps99 rfl fun w0 M H => ?_
 refine r_more 0 1 rfl tys_sl ?_
 refine r_seq (r_region (r_p (p_move rfl) rfl ?_))
 refine r_p (p_len_sl Tryz.underlying51 rfl (hs_sl (k := 1) rfl)) rfl ?_
 refine r_p (p_move rfl) rfl (r_nil (r_block ?_))
 refine r_loop (X := Nat) (fun i => i ≤ l.length) (fun i => [(0, .pointer (some ⟨c, 0, none⟩)), (2, .int .i64 (d : Int)), (10, sv v), (11, .int .i64 (l.length : Int)), (12, .int .i64 (i : Int))]) (fun i => [(0, row c 127 (cR vp vn (nd + (nYs (l.take i) : Int)) (va + (vYs (l.take i) : Int)) (dp || dpYs d (l.take i)) er))]) (fun i => [(0, tysA v l), (1, sl 5 eTy (sv v) l)]) (fun i => l.length - i) 0 (Nat.zero_le _) rfl (by rw [show (dp || dpYs d (l.take 0)) = dp by simp [dpYs], show nd + (nYs (l.take 0) : Int) = nd by simp [nYs], show va + (vYs (l.take 0) : Int) = va by simp [vYs]]; rfl) rfl (fun i n1 => ?_)
 refine r_seq (r_region ?_)
 refine r_p (p_bin rfl rfl b_lt) rfl ?_
 refine r_nil (r_seq ?_)
 refine r_cond rfl (fun h1 => ?_) (fun h1 => ?_)
 ·(try simp only [decide_eq_true_eq, decide_eq_false_iff_not, Bool.and_eq_true, Bool.or_eq_true, Bool.and_eq_false_iff, Bool.or_eq_false_iff, Bool.not_eq_true, Bool.not_eq_false, Bool.not_eq_true', Bool.not_eq_false', Bool.not_not, bne_iff_ne, beq_iff_eq] at h1)
  have hi : i < l.length := by omega
  obtain ⟨st, hst⟩ : ∃ k, l[i]? = some k := ⟨_, List.getElem?_eq_getElem hi⟩
  have hsm := List.mem_of_getElem? hst
  have hsy := hg.mem st hsm
  have hsg := GY_es hsy
  have hle := nYs_le l (i + 1)
  rw [nYs_take hst] at hle
  have hny := nY_eq st
  have hvy := vY_le st
  have hvl := vYs_le l
  have hva := vYs_le (l.take i)
  have hvb := vYs_le st.body
  have hvs := vYs_le st.els
  have hnl := nYs_le l i
  have hvy2 : (vY st : Int) = (if st.kind = 1 then 1 else 0 : Int) + (vYs st.body : Int) + (vYs st.els : Int) := by
   rw [vY_eq]
   split <;> omega
  have hki : 0 ≤ (if st.kind = 1 then 1 else 0 : Int) ∧ (if st.kind = 1 then 1 else 0 : Int) ≤ 1 := by split <;> omega
  have hvv : (vYs (l.take i) : Int) + (vY st : Int) ≤ (vYs l : Int) := by
   have h := vYs_app (l.take (i + 1)) (l.drop (i + 1))
   rw [List.take_append_drop, vYs_take hst] at h
   omega
  refine r_more 0 7 rfl (tys_es hsm) ?_
  refine r_more 0 8 rfl (tys_body hsm) ?_
  refine r_more 0 9 rfl (tys_els hsm) ?_
  refine r_more 7 10 rfl txs_sl ?_
  refine r_skip (r_seq (r_block (r_seq (r_region ?_))))
  refine r_p (p_idx_sl (j := i) Tryz.underlying51 t53 rfl rfl (hs_sl (k := 1) rfl) (by first | rfl | omega) (by first | omega | (simp; done) | (simp; omega))) rfl ?_
  refine r_p (p_loadA t53 rfl rfl rfl (g_el' (hs_sl (k := 1) rfl) (by intro _; rfl) hst (by rfl))) rfl ?_
  refine r_alloc t53 rfl rfl fun b7 => ?_
  refine r_store_all (k := 7) t53 rfl rfl rfl rfl rfl rfl ?_
  refine r_nil (r_seq (r_region (r_p (p_move rfl) rfl (r_p (p_nilCheck rfl) rfl ?_))))
  refine r_p (p_field0 fo127_2 rfl) rfl ?_
  refine r_p (p_load1 t3 rfl rfl (g_row1 (k := 0) rfl rfl)) rfl ?_
  refine r_p (p_bin rfl rfl (b_add (by first | exact w_i64 (by omega) (by omega) | rfl))) rfl ?_
  refine r_p (p_nilCheck rfl) rfl ?_
  refine r_p (p_field0 fo127_2 rfl) rfl ?_
  refine r_store_row (k := 0) t3 rfl rfl rfl rfl rfl rfl rfl rfl ?_
  refine r_nil (r_seq (r_region (r_p (p_move rfl) rfl (r_p (p_move rfl) rfl (r_p (p_nilCheck rfl) rfl ?_)))))
  refine r_p (p_field0 fo127_4 rfl) rfl ?_
  refine r_p (p_load1 t4 rfl rfl (g_row1 (k := 0) rfl rfl)) rfl ?_
  refine r_p (p_move rfl) rfl ?_
  refine r_gp [] rfl rfl trivial (fun hg2 => p_move rfl) rfl ?_
  refine r_gp [(29, _)] rfl rfl ⟨rfl, trivial⟩ (fun hg3 => p_bin rfl rfl b_gt) rfl ?_
  refine r_p (p_pick rfl rfl rfl (by first | exact pick_and | exact pick_or |  rfl)) rfl ?_
  refine r_p (p_nilCheck rfl) rfl ?_
  refine r_p (p_field0 fo127_4 rfl) rfl ?_
  refine r_store_row (k := 0) t4 rfl rfl rfl rfl rfl rfl rfl rfl ?_
  refine r_nil ?_
  refine r_seq_cut (X := Unit) (fun _ => True) (fun _ => [(0, .pointer (some ⟨c, 0, none⟩)), (2, .int .i64 (d : Int)), (10, sv v), (11, .int .i64 (l.length : Int)), (12, .int .i64 (i : Int)), (7, .pointer (some ⟨b7, 0, none⟩))]) (fun _ => [(0, row c 127 (cR vp vn (nd + (nYs (l.take i) : Int) + 1) (va + (vYs (l.take i) : Int) + (if st.kind = 1 then 1 else 0 : Int)) (dp || dpYs d (l.take i) || decide (d > 8)) er)), (7, row b7 53 (eTy st))]) (fun _ => [(0, tysA v l), (1, sl 5 eTy (sv v) l), (7, txsA st.ve st.es), (8, tysA st.vb st.body), (9, tysA st.vl st.els), (10, sl 4 eTx (sv st.ve) st.es)]) ?_ (fun _ _ => ?_)
  ·refine r_seq (r_region ?_)
   refine r_p (p_field0 fo53_0 rfl) rfl ?_
   refine r_p (p_load1 t3 rfl rfl (g_row1 (k := 7) rfl rfl)) rfl ?_
   refine r_p (p_bin rfl rfl b_eq) rfl ?_
   refine r_nil ?_
   refine r_cond rfl (fun h4 => ?_) (fun h4 => ?_)
   ·have q1 : st.kind = 1 := of_decide_eq_true h4
    refine r_region (r_p (p_move rfl) rfl (r_p (p_nilCheck rfl) rfl ?_))
    refine r_p (p_field0 fo127_3 rfl) rfl ?_
    refine r_p (p_load1 t3 rfl rfl (g_row1 (k := 0) rfl rfl)) rfl ?_
    refine r_p (p_bin rfl rfl (b_add (by first | exact w_i64 (by omega) (by omega) | rfl))) rfl ?_
    refine r_p (p_nilCheck rfl) rfl ?_
    refine r_p (p_field0 fo127_3 rfl) rfl ?_
    refine r_store_row (k := 0) t3 rfl rfl rfl rfl rfl rfl rfl rfl ?_
    refine r_nil ?_
    refine r_here () trivial rfl (by rw [show decide (d > 8) = decide ((d : Int) > 8) from decide_eq_decide.2 (by omega), if_pos q1]; rfl) rfl
   ·have q1 : ¬ st.kind = 1 := of_decide_eq_false h4
    refine r_skip ?_
    refine r_here () trivial rfl (by rw [show decide (d > 8) = decide ((d : Int) > 8) from decide_eq_decide.2 (by omega), if_neg q1, Int.add_zero]; rfl) rfl
  ·refine r_seq (r_seq (r_region ?_))
   refine r_p (p_field0 fo53_2 rfl) rfl ?_
   refine r_p (p_load1 t46 rfl rfl (g_row1 (k := 7) rfl rfl)) rfl ?_
   refine r_p (p_len_sl Tryz.underlying46 rfl (hs_sl (k := 10) rfl)) rfl ?_
   refine r_p (p_move rfl) rfl (r_nil (r_block ?_))
   refine r_loop (X := Nat) (fun j => j ≤ st.es.length) (fun j => [(0, .pointer (some ⟨c, 0, none⟩)), (2, .int .i64 (d : Int)), (10, sv v), (11, .int .i64 (l.length : Int)), (12, .int .i64 (i : Int)), (7, .pointer (some ⟨b7, 0, none⟩)), (45, sv st.ve), (46, .int .i64 (st.es.length : Int)), (47, .int .i64 (j : Int))]) (fun j => [(0, row c 127 (cR vp vn (nd + (nYs (l.take i) : Int) + 1 + (nXs (st.es.take j) : Int)) (va + (vYs (l.take i) : Int) + (if st.kind = 1 then 1 else 0 : Int)) (dp || dpYs d (l.take i) || decide (d > 8) || decide (dXs (st.es.take j) > 8)) er)), (7, row b7 53 (eTy st))]) (fun j => [(0, tysA v l), (1, sl 5 eTy (sv v) l), (7, txsA st.ve st.es), (8, tysA st.vb st.body), (9, tysA st.vl st.els), (10, sl 4 eTx (sv st.ve) st.es)]) (fun j => st.es.length - j) 0 (Nat.zero_le _) rfl (by rw [show (dp || dpYs d (l.take i) || decide (d > 8) || decide (dXs (st.es.take 0) > 8)) = (dp || dpYs d (l.take i) || decide (d > 8)) by simp [dXs], show nd + (nYs (l.take i) : Int) + 1 + (nXs (st.es.take 0) : Int) = nd + (nYs (l.take i) : Int) + 1 by simp [nXs]]; rfl) rfl (fun j n2 => ?_)
   refine r_seq (r_region ?_)
   refine r_p (p_bin rfl rfl b_lt) rfl ?_
   refine r_nil (r_seq ?_)
   refine r_cond rfl (fun h5 => ?_) (fun h5 => ?_)
   ·(try simp only [decide_eq_true_eq, decide_eq_false_iff_not, Bool.and_eq_true, Bool.or_eq_true, Bool.and_eq_false_iff, Bool.or_eq_false_iff, Bool.not_eq_true, Bool.not_eq_false, Bool.not_eq_true', Bool.not_eq_false', Bool.not_not, bne_iff_ne, beq_iff_eq] at h5)
    have hj : j < st.es.length := by omega
    obtain ⟨kid, hkid⟩ : ∃ k, st.es[j]? = some k := ⟨_, List.getElem?_eq_getElem hj⟩
    have hkm := List.mem_of_getElem? hkid
    have hlx := nXs_le st.es (j + 1)
    rw [nXs_take hkid] at hlx
    have hdx := dX_le kid
    refine r_skip (r_seq (r_block (r_seq (r_region ?_))))
    refine r_p (p_idx_sl (j := j) Tryz.underlying46 t48 rfl rfl (hs_sl (k := 10) rfl) (by first | rfl | omega) (by first | omega | (simp; done) | (simp; omega))) rfl ?_
    refine r_p (p_loadA t48 rfl rfl rfl (g_el' (hs_sl (k := 10) rfl) (by intro _; rfl) hkid (by rfl))) rfl ?_
    refine r_alloc t48 rfl rfl fun b9 => ?_
    refine r_store_all (k := 9) t48 rfl rfl rfl rfl rfl rfl ?_
    refine r_nil (r_region (r_p (p_move rfl) rfl ?_))
    refine r_p (p_loadA t48 rfl rfl rfl (g_all (k := 9) rfl)) rfl ?_
    refine r_more 7 12 rfl (txs_kid hkm) ?_
    refine r_call (xs := [.tmp 51, .tmp 52]) (meas_spec c vp vn (va + (vYs (l.take i) : Int) + (if st.kind = 1 then 1 else 0 : Int)) er kid (hsg.2.mem kid hkm) (nd + (nYs (l.take i) : Int) + 1 + (nXs (st.es.take j) : Int)) (dp || dpYs d (l.take i) || decide (d > 8) || decide (dXs (st.es.take j) > 8)) (by omega) (by omega)) cb116 [0] [(false, 12)] [0] [] rfl rfl rfl rfl rfl rfl rfl rfl (fun _ _ => rfl) (fun _ _ _ => rfl) rfl (fun _ _ => ?_)
    refine r_nil (r_region ?_)
    refine r_p (p_bin rfl rfl (b_add (by first | exact w_i64 (by omega) (by omega) | rfl))) rfl ?_
    refine r_p (p_move rfl) rfl (r_nil ?_)
    refine r_here (j + 1) ⟨by omega, by omega⟩ rfl (by rw [dXs_take hkid, nXs_take hkid, ← dec_max, ← Bool.or_assoc, Int.natCast_add, ← Int.add_assoc]; rfl) rfl
   ·(try simp only [decide_eq_true_eq, decide_eq_false_iff_not, Bool.and_eq_true, Bool.or_eq_true, Bool.and_eq_false_iff, Bool.or_eq_false_iff, Bool.not_eq_true, Bool.not_eq_false, Bool.not_eq_true', Bool.not_eq_false', Bool.not_not, bne_iff_ne, beq_iff_eq] at h5)
    have hj : j = st.es.length := by omega
    subst hj
    rw [List.take_length]
    refine r_exit (r_seq (r_region (r_p (p_move rfl) rfl ?_)))
    refine r_p (p_field0 fo53_3 rfl) rfl ?_
    refine r_p (p_load1 t51 rfl rfl (g_row1 (k := 7) rfl rfl)) rfl ?_
    refine r_p (p_move rfl) rfl ?_
    refine r_p (p_bin rfl rfl (b_add (by first | exact w_i64 (by omega) (by omega) | rfl))) rfl ?_
    refine r_call (xs := [.tmp 55, .tmp 57, .tmp 59]) ((ih st hsm).1 (d + 1) (nd + (nYs (l.take i) : Int) + 1 + (nXs st.es : Int)) (va + (vYs (l.take i) : Int) + (if st.kind = 1 then 1 else 0 : Int)) (dp || dpYs d (l.take i) || decide (d > 8) || decide (dXs st.es > 8)) (by omega) (by omega) (by omega) (by omega) (by omega)) cb99 [0] [(false, 8)] [0] [] rfl rfl rfl rfl rfl rfl rfl rfl (fun _ _ => rfl) (fun _ _ _ => rfl) rfl (fun _ _ => ?_)
    refine r_nil (r_region (r_p (p_move rfl) rfl ?_))
    refine r_p (p_field0 fo53_4 rfl) rfl ?_
    refine r_p (p_load1 t51 rfl rfl (g_row1 (k := 7) rfl rfl)) rfl ?_
    refine r_p (p_move rfl) rfl ?_
    refine r_p (p_bin rfl rfl (b_add (by first | exact w_i64 (by omega) (by omega) | rfl))) rfl ?_
    refine r_call (xs := [.tmp 61, .tmp 63, .tmp 65]) ((ih st hsm).2 (d + 1) (nd + (nYs (l.take i) : Int) + 1 + (nXs st.es : Int) + (nYs st.body : Int)) (va + (vYs (l.take i) : Int) + (if st.kind = 1 then 1 else 0 : Int) + (vYs st.body : Int)) (dp || dpYs d (l.take i) || decide (d > 8) || decide (dXs st.es > 8) || dpYs (d + 1) st.body) (by omega) (by omega) (by omega) (by omega) (by omega)) cb99 [0] [(false, 9)] [0] [] rfl rfl rfl rfl rfl rfl rfl rfl (fun _ _ => rfl) (fun _ _ _ => rfl) rfl (fun _ _ => ?_)
    refine r_nil (r_region ?_)
    refine r_p (p_bin rfl rfl (b_add (by first | exact w_i64 (by omega) (by omega) | rfl))) rfl ?_
    refine r_p (p_move rfl) rfl (r_nil ?_)
    have hfin : cR vp vn (nd + (nYs (l.take i) : Int) + 1 + (nXs st.es : Int) + (nYs st.body : Int) + (nYs st.els : Int)) (va + (vYs (l.take i) : Int) + (if st.kind = 1 then 1 else 0 : Int) + (vYs st.body : Int) + (vYs st.els : Int)) (dp || dpYs d (l.take i) || decide (d > 8) || decide (dXs st.es > 8) || dpYs (d + 1) st.body || dpYs (d + 1) st.els) er = cR vp vn (nd + (nYs (l.take (i + 1)) : Int)) (va + (vYs (l.take (i + 1)) : Int)) (dp || dpYs d (l.take (i + 1))) er := by
     rw [nYs_take hst, vYs_take hst, dpYs_take hst, dpY_eq, or_mv2]
     congr 1
     ·omega
     ·rw [Int.natCast_add, hvy2]
      omega
    refine r_here (i + 1) ⟨by omega, by omega⟩ rfl (by rw [← hfin]; rfl) rfl
 ·(try simp only [decide_eq_true_eq, decide_eq_false_iff_not, Bool.and_eq_true, Bool.or_eq_true, Bool.and_eq_false_iff, Bool.or_eq_false_iff, Bool.not_eq_true, Bool.not_eq_false, Bool.not_eq_true', Bool.not_eq_false', Bool.not_not, bne_iff_ne, beq_iff_eq] at h1)
  have hi : i = l.length := by omega
  subst hi
  rw [List.take_length]
  refine r_exit ?_
  refine r_end () trivial rfl rs0 rfl [0] [] rfl rfl rfl
theorem count_all (c : Nat) (vp vn : SV) (er : Int) : ∀ (n : Nat) (v : SV) (l : List Ty), SizeOf.sizeOf l < n → l.length ≤ 1000000 → GYs l → HCt c vp vn er v l
 | 0, _, _, h, _, _ => absurd h (Nat.not_lt_zero _)
 | n + 1, v, l, h, hl, hg => count_step c vp vn er v l hl hg fun u hu => by
  have h1 := List.sizeOf_lt_of_mem hu
  have h2 : SizeOf.sizeOf u.body < SizeOf.sizeOf u ∧ SizeOf.sizeOf u.els < SizeOf.sizeOf u := by
   cases u
   simp only [Ty.mk.sizeOf_spec, Ty.body, Ty.els]
   omega
  have h3 := hg.mem u hu
  exact ⟨count_all c vp vn er n u.vb u.body (by omega) (GY_body h3).1 (GY_body h3).2, count_all c vp vn er n u.vl u.els (by omega) (GY_els h3).1 (GY_els h3).2⟩
theorem count_spec (c : Nat) (vp vn : SV) (er : Int) (v : SV) (l : List Ty) (hl : l.length ≤ 1000000) (hg : GYs l) : HCt c vp vn er v l := count_all c vp vn er _ v l (Nat.lt_succ_self _) hl hg
/-- The error of an expression itself. -/
def nE (fs : List Tf) (ns : List ByteArray) (t : Tx) : Int := if t.kind = 2 then (if memB t.name ns = true then 0 else 21) else if t.kind = 3 then (match ffind fs t.name with
   | none => 21
   | some f => if f.ps.length = t.kids.length then 0 else 23) else 0
theorem eX_eq (fs : List Tf) (ns : List ByteArray) (t : Tx) : eX fs ns t = fst (nE fs ns t) (eXs fs ns t.kids) := by cases t; rfl
theorem eXs_app (fs : List Tf) (ns : List ByteArray) : ∀ a b : List Tx, eXs fs ns (a ++ b) = fst (eXs fs ns a) (eXs fs ns b)
 | [], b => rfl
 | t :: r, b => by rw [List.cons_append, eXs, eXs_app fs ns r b, eXs, fst_assoc]
theorem eXs_take {fs : List Tf} {ns : List ByteArray} {l : List Tx} {i : Nat} {k : Tx} (h : l[i]? = some k) : eXs fs ns (l.take (i + 1)) = fst (eXs fs ns (l.take i)) (eX fs ns k) := by
 rw [take_snoc h, eXs_app]
 show fst _ (fst (eX fs ns k) 0) = _
 rw [fst_zero]
theorem nE_2 {fs : List Tf} {ns : List ByteArray} {t : Tx} (h : t.kind = 2) : nE fs ns t = if memB t.name ns = true then 0 else 21 := if_pos h
theorem nE_none {fs : List Tf} {ns : List ByteArray} {t : Tx} (h : t.kind = 3) (hf : ffind fs t.name = none) : nE fs ns t = 21 := by
 unfold nE
 rw [if_neg (by omega), if_pos h, hf]
theorem nE_some {fs : List Tf} {ns : List ByteArray} {t : Tx} {f : Tf} (h : t.kind = 3) (hf : ffind fs t.name = some f) : nE fs ns t = if f.ps.length = t.kids.length then 0 else 23 := by
 unfold nE
 rw [if_neg (by omega), if_pos h, hf]
theorem nE_0 {fs : List Tf} {ns : List ByteArray} {t : Tx} (h2 : ¬ t.kind = 2) (h3 : ¬ t.kind = 3) : nE fs ns t = 0 := by
 unfold nE
 rw [if_neg h2, if_neg h3]
/-- The error of an assignment, and of a declaration. -/
def aE (ns : List ByteArray) (t : Ty) : Int := if t.kind = 2 then (if memB t.name ns = true then 0 else 21) else 0
def dE (ns : List ByteArray) (t : Ty) : Int := if t.kind = 1 then (if memB t.name ns = true then 22 else 0) else 0
def dN (ns : List ByteArray) (t : Ty) : List ByteArray := if t.kind = 1 then ns ++ [t.name] else ns
theorem bY_eq (fs : List Tf) (ns : List ByteArray) (t : Ty) : bY fs ns t = ((bYs fs (bYs fs (dN ns t) t.body).1 t.els).1, fst (aE ns t) (fst (eXs fs ns t.es) (fst (dE ns t) (fst (bYs fs (dN ns t) t.body).2 (bYs fs (bYs fs (dN ns t) t.body).1 t.els).2)))) := by cases t; rfl
theorem bYs_app (fs : List Tf) : ∀ (ns : List ByteArray) (a b : List Ty), bYs fs ns (a ++ b) = ((bYs fs (bYs fs ns a).1 b).1, fst (bYs fs ns a).2 (bYs fs (bYs fs ns a).1 b).2)
 | ns, [], b => rfl
 | ns, t :: r, b => by
  rw [List.cons_append, bYs, bYs_app fs _ r b, bYs]
  simp only [fst_assoc]
theorem bYs_take {fs : List Tf} {ns : List ByteArray} {l : List Ty} {i : Nat} {k : Ty} (h : l[i]? = some k) : bYs fs ns (l.take (i + 1)) = ((bY fs (bYs fs ns (l.take i)).1 k).1, fst (bYs fs ns (l.take i)).2 (bY fs (bYs fs ns (l.take i)).1 k).2) := by
 rw [take_snoc h, bYs_app]
 show ((bY fs _ k).1, fst _ (fst (bY fs _ k).2 0)) = _
 rw [fst_zero]
mutual
theorem bY_len (fs : List Tf) : ∀ (ns : List ByteArray) (t : Ty), (bY fs ns t).1.length = ns.length + vY t
 | ns, .mk k nm _ es _ body _ els => by
  show (bYs fs (bYs fs (if k = 1 then ns ++ [nm] else ns) body).1 els).1.length = _
  rw [bYs_len fs _ els, bYs_len fs _ body, vY]
  split <;> simp <;> omega
theorem bYs_len (fs : List Tf) : ∀ (ns : List ByteArray) (l : List Ty), (bYs fs ns l).1.length = ns.length + vYs l
 | ns, [] => by simp [bYs, vYs]
 | ns, t :: r => by
  show (bYs fs (bY fs ns t).1 r).1.length = _
  rw [bYs_len fs _ r, bY_len fs ns t, vYs]
  omega
end
theorem vYs_take_le {l : List Ty} {i : Nat} {k : Ty} (h : l[i]? = some k) : vYs (l.take i) + vY k ≤ vYs l := by
 have h2 := vYs_app (l.take (i + 1)) (l.drop (i + 1))
 rw [List.take_append_drop, vYs_take h] at h2
 omega
theorem dN_len (ns : List ByteArray) (t : Ty) : (dN ns t).length = ns.length + if t.kind = 1 then 1 else 0 := by
 unfold dN
 split
 ·simp
 ·rfl
set_option maxHeartbeats 4000000 in
set_option maxRecDepth 100000 in
theorem cexpr_step (c : Nat) (vp vn : SV) (nd va : Int) (dp : Bool) (fs : List Tf) (hfl : fs.length ≤ 1000000) (ns : List ByteArray) (hns : ns.length ≤ 1000000) (t : Tx) (ht : GX t) (ih : ∀ u ∈ t.kids, ∀ er : Int, Spec Tryz.prog 118 [.pointer (some ⟨c, 0, none⟩), xV u] [row c 127 (cR vp vn nd va dp er), own 9 1 eS (sv vn) ns] [txsA u.v u.kids, tfsA vp fs] (X := Unit) (fun _ => True) (fun _ => .tuple #[]) (fun _ => [row c 127 (cR vp vn nd va dp (fst er (eX fs ns u))), own 9 1 eS (sv vn) ns]) (fun _ => [])) (er : Int) :
  Spec Tryz.prog 118 [.pointer (some ⟨c, 0, none⟩), xV t] [row c 127 (cR vp vn nd va dp (er)), own 9 1 eS (sv vn) (ns)] [txsA t.v t.kids, tfsA vp fs] (X := Unit) (fun _ => True) (fun _ => .tuple #[]) (fun _ => [row c 127 (cR vp vn nd va dp (fst er (eX fs ns t))), own 9 1 eS (sv vn) (ns)]) (fun _ => []) := by
 refine r_enter Tryz.func118 rfl Tryz.ntmps118 rfl fun w0 M H => ?_
 have hkl := GX_len ht
 refine r_more 0 2 rfl txs_sl ?_
 refine r_more 1 3 rfl tfs_sl ?_
 refine r_seq (r_region ?_)
 refine r_boxA rfl rfl fun b3 => ?_
 refine r_nil ?_
 refine r_seq_cut (X := Unit) (fun _ => True) (fun _ => [(0, .pointer (some ⟨c, 0, none⟩)), (3, .pointer (some ⟨b3, 0, none⟩))]) (fun _ => [(0, row c 127 (cR vp vn nd va dp (fst er (nE fs ns t)))), (1, own 9 1 eS (sv vn) (ns)), (3, row b3 48 (eTx t))]) (fun _ => [(0, txsA t.v t.kids), (1, tfsA vp fs), (2, sl 4 eTx (sv t.v) t.kids), (3, sl 3 eTf (sv vp) fs)]) ?_ (fun _ _ => ?_)
 ·refine r_seq (r_region ?_)
  refine r_p (p_field0 fo48_0 rfl) rfl ?_
  refine r_p (p_load1 t3 rfl rfl (g_row1 (k := 3) rfl rfl)) rfl ?_
  refine r_nil (r_block (r_seq (r_region ?_)))
  refine r_p (p_bin rfl rfl b_eq) rfl ?_
  refine r_p (p_assign rfl) rfl (r_nil ?_)
  refine r_cond rfl (fun h1 => ?_) (fun h1 => ?_)
  ·have q2 : t.kind = 2 := of_decide_eq_true h1
   refine r_region (r_p (p_move rfl) rfl ?_)
   refine r_p (p_field0 fo48_2 rfl) rfl ?_
   refine r_p (p_load1 t9 rfl rfl (g_row1 (k := 3) rfl rfl)) rfl ?_
   refine r_call (xs := [.tmp 11, .tmp 13]) (cvar_spec c vp vn nd va dp er ns hns t.name) cb117 [0, 1] [] [0, 1] [] rfl rfl rfl rfl rfl rfl rfl rfl (fun _ _ => rfl) (fun _ _ _ => rfl) rfl (fun _ _ => ?_)
   refine r_nil ?_
   refine r_here () trivial rfl (by rw [nE_2 q2]; rfl) rfl
  ·have q2 : ¬ t.kind = 2 := of_decide_eq_false h1
   refine r_seq (r_region ?_)
   refine r_p (p_bin rfl rfl b_eq) rfl ?_
   refine r_p (p_assign rfl) rfl (r_nil ?_)
   refine r_cond rfl (fun h2 => ?_) (fun h2 => ?_)
   ·have q3 : t.kind = 3 := of_decide_eq_true h2
    refine r_seq (r_region (r_p (p_move rfl) rfl ?_))
    refine r_p (p_field0 fo48_2 rfl) rfl ?_
    refine r_p (p_load1 t9 rfl rfl (g_row1 (k := 3) rfl rfl)) rfl ?_
    refine r_call (xs := [.tmp 17, .tmp 19]) (cfind_spec c vp vn nd va dp er t.name fs hfl) cb57 [0] [(false, 3)] [0] [] rfl rfl rfl rfl rfl rfl rfl rfl (fun _ _ => rfl) (fun _ _ _ => rfl) rfl (fun _ _ => ?_)
    refine r_p (p_assign rfl) rfl (r_nil (r_seq (r_region (r_p (p_move rfl) rfl ?_))))
    refine r_p (p_bin rfl rfl b_lt) rfl ?_
    refine r_nil ?_
    refine r_cond rfl (fun h3 => ?_) (fun h3 => ?_)
    ·have hff : ffind fs t.name = none := ffind_fix.1.1 (of_decide_eq_true h3)
     refine r_region (r_p (p_move rfl) rfl ?_)
     refine r_call (xs := [.tmp 23, .const (.int .i64 21)]) (cfail_spec c vp vn nd va dp er 21) cb100 [0] [] [0] [] rfl rfl rfl rfl rfl rfl rfl rfl (fun _ _ => rfl) (fun _ _ _ => rfl) rfl (fun _ _ => ?_)
     refine r_nil ?_
     refine r_here () trivial rfl (by rw [nE_none q3 hff]; rfl) rfl
    ·obtain ⟨f, hff⟩ : ∃ f, ffind fs t.name = some f := by
      cases hf : ffind fs t.name with
      | none => exact absurd (ffind_fix.1.2 hf) (of_decide_eq_false h3)
      | some f => exact ⟨f, rfl⟩
     obtain ⟨j, hj1, hj2⟩ := ffind_fix.2 f hff
     have hjl := (List.getElem?_eq_some_iff.1 hj2).1
     rw [hj1]
     refine r_more 1 7 rfl (tfs_f (ffind_mem hff)) ?_
     refine r_more 7 9 rfl tf_ps ?_
     refine r_seq ?_
     refine r_draw [25, 26, 27, 28, 29, 30, 31, 32, 33, 34, 35, 36, 37, 38] _ rfl (stg_end (V := [(0, 25, _), (1, 26, _), (2, 27, _), (3, 28, _), (4, 29, _), (5, 30, _), (6, 31, _), (7, 32, _), (8, 33, _), (9, 34, _), (10, 35, _), (11, 36, _), (12, 37, _), (13, 38, _)]) [0, 1, 2, 3, 4, 5, 6, 7, 8, 9, 10, 11, 12, 13] rfl rfl (prs_cons (pri rfl (p_move rfl)) (prs_cons (pri rfl (p_nilCheck rfl)) (prs_cons (pri rfl (p_field0 fo127_0 rfl)) (prs_cons (pri rfl (p_field0 fo29_0 rfl)) (prs_cons (pri rfl (p_load1 t27 rfl rfl (g_row1 (k := 0) rfl rfl))) (prs_cons (pri rfl (p_move rfl)) (prs_cons (pri rfl (p_idx_sl (j := j) Tryz.underlying27 t63 rfl rfl (hs_sl (k := 3) rfl) rfl hjl)) (prs_cons (pri rfl (p_field fo63_1 rfl)) (prs_cons (pri rfl (p_load1 t58 rfl rfl (g_elp (hs_sl (k := 3) rfl) (by intro _; rfl) hj2 rfl))) (prs_cons (pri rfl (p_len_sl Tryz.underlying58 rfl (hs_sl (k := 9) rfl))) (prs_cons (pri rfl (p_field0 fo48_3 rfl)) (prs_cons (pri rfl (p_load1 t46 rfl rfl (g_row1 (k := 3) rfl rfl))) (prs_cons (pri rfl (p_len_sl Tryz.underlying46 rfl (hs_sl (k := 2) rfl))) (prs_cons (pri rfl (p_bin rfl rfl b_ne)) prs_nil)))))))))))))) rfl rfl rfl ?_)
     refine r_cond rfl (fun h4 => ?_) (fun h4 => ?_)
     ·have hne : ¬ f.ps.length = t.kids.length := fun e => by rw [e] at h4; simp at h4
      refine r_region (r_p (p_move rfl) rfl ?_)
      refine r_call (xs := [.tmp 39, .const (.int .i64 23)]) (cfail_spec c vp vn nd va dp er 23) cb100 [0] [] [0] [] rfl rfl rfl rfl rfl rfl rfl rfl (fun _ _ => rfl) (fun _ _ _ => rfl) rfl (fun _ _ => ?_)
      refine r_nil ?_
      refine r_here () trivial rfl (by rw [nE_some q3 hff, if_neg hne]; rfl) rfl
     ·have hne : f.ps.length = t.kids.length := by
       have := h4
       simp only [Bool.not_eq_false', decide_eq_true_eq] at this
       omega
      refine r_skip ?_
      refine r_here () trivial rfl (by rw [nE_some q3 hff, if_pos hne, fst_zero]; rfl) rfl
   ·have q3 : ¬ t.kind = 3 := of_decide_eq_false h2
    refine r_skip ?_
    refine r_here () trivial rfl (by rw [nE_0 q2 q3, fst_zero]; rfl) rfl
 ·refine r_seq (r_region ?_)
  refine r_p (p_field0 fo48_3 rfl) rfl ?_
  refine r_p (p_load1 t46 rfl rfl (g_row1 (k := 3) rfl rfl)) rfl ?_
  refine r_p (p_len_sl Tryz.underlying46 rfl (hs_sl (k := 2) rfl)) rfl ?_
  refine r_p (p_move rfl) rfl (r_nil (r_block ?_))
  refine r_loop (X := Nat) (fun i => i ≤ t.kids.length) (fun i => [(0, .pointer (some ⟨c, 0, none⟩)), (3, .pointer (some ⟨b3, 0, none⟩)), (42, sv t.v), (43, .int .i64 (t.kids.length : Int)), (44, .int .i64 (i : Int))]) (fun i => [(0, row c 127 (cR vp vn nd va dp (fst er (fst (nE fs ns t) (eXs fs ns (t.kids.take i)))))), (1, own 9 1 eS (sv vn) (ns)), (3, row b3 48 (eTx t))]) (fun i => [(0, txsA t.v t.kids), (1, tfsA vp fs), (2, sl 4 eTx (sv t.v) t.kids), (3, sl 3 eTf (sv vp) fs)]) (fun i => t.kids.length - i) 0 (Nat.zero_le _) rfl (by rw [show eXs fs ns (t.kids.take 0) = 0 by simp [eXs], fst_zero]; rfl) rfl (fun i n1 => ?_)
  refine r_seq (r_region ?_)
  refine r_p (p_bin rfl rfl b_lt) rfl ?_
  refine r_nil (r_seq ?_)
  refine r_cond rfl (fun h5 => ?_) (fun h5 => ?_)
  ·(try simp only [decide_eq_true_eq, decide_eq_false_iff_not, Bool.and_eq_true, Bool.or_eq_true, Bool.and_eq_false_iff, Bool.or_eq_false_iff, Bool.not_eq_true, Bool.not_eq_false, Bool.not_eq_true', Bool.not_eq_false', Bool.not_not, bne_iff_ne, beq_iff_eq] at h5)
   have hi : i < t.kids.length := by omega
   obtain ⟨kid, hkid⟩ : ∃ k, t.kids[i]? = some k := ⟨_, List.getElem?_eq_getElem hi⟩
   have hkm := List.mem_of_getElem? hkid
   refine r_skip (r_seq (r_block (r_seq (r_region ?_))))
   refine r_p (p_idx_sl (j := i) Tryz.underlying46 t48 rfl rfl (hs_sl (k := 2) rfl) (by first | rfl | omega) (by first | omega | (simp; done) | (simp; omega))) rfl ?_
   refine r_p (p_loadA t48 rfl rfl rfl (g_el' (hs_sl (k := 2) rfl) (by intro _; rfl) hkid (by rfl))) rfl ?_
   refine r_alloc t48 rfl rfl fun b6 => ?_
   refine r_store_all (k := 6) t48 rfl rfl rfl rfl rfl rfl ?_
   refine r_nil (r_region (r_p (p_move rfl) rfl ?_))
   refine r_p (p_loadA t48 rfl rfl rfl (g_all (k := 6) rfl)) rfl ?_
   refine r_more 0 8 rfl (txs_kid hkm) ?_
   refine r_call (xs := [.tmp 48, .tmp 49]) (ih kid hkm (fst er (fst (nE fs ns t) (eXs fs ns (t.kids.take i))))) cb118 [0, 1] [(false, 8), (false, 1)] [0, 1] [] rfl rfl rfl rfl rfl rfl rfl rfl (fun _ _ => rfl) (fun _ _ _ => rfl) rfl (fun _ _ => ?_)
   refine r_nil (r_region ?_)
   refine r_p (p_bin rfl rfl (b_add (by first | exact w_i64 (by omega) (by omega) | rfl))) rfl ?_
   refine r_p (p_move rfl) rfl (r_nil ?_)
   refine r_here (i + 1) ⟨by omega, by omega⟩ rfl (by rw [eXs_take hkid]; simp only [fst_assoc]; rfl) rfl
  ·(try simp only [decide_eq_true_eq, decide_eq_false_iff_not, Bool.and_eq_true, Bool.or_eq_true, Bool.and_eq_false_iff, Bool.or_eq_false_iff, Bool.not_eq_true, Bool.not_eq_false, Bool.not_eq_true', Bool.not_eq_false', Bool.not_not, bne_iff_ne, beq_iff_eq] at h5)
   have hi : i = t.kids.length := by omega
   subst hi
   rw [List.take_length, ← eX_eq]
   refine r_exit ?_
   refine r_end () trivial rfl rs0 rfl [0, 1] [] rfl rfl rfl
theorem cexpr_all (c : Nat) (vp vn : SV) (nd va : Int) (dp : Bool) (fs : List Tf) (hfl : fs.length ≤ 1000000) (ns : List ByteArray) (hns : ns.length ≤ 1000000) : ∀ (n : Nat) (t : Tx), SizeOf.sizeOf t < n → GX t → ∀ er : Int, Spec Tryz.prog 118 [.pointer (some ⟨c, 0, none⟩), xV t] [row c 127 (cR vp vn nd va dp er), own 9 1 eS (sv vn) ns] [txsA t.v t.kids, tfsA vp fs] (X := Unit) (fun _ => True) (fun _ => .tuple #[]) (fun _ => [row c 127 (cR vp vn nd va dp (fst er (eX fs ns t))), own 9 1 eS (sv vn) ns]) (fun _ => [])
 | 0, _, h, _ => absurd h (Nat.not_lt_zero _)
 | n + 1, t, h, ht => cexpr_step c vp vn nd va dp fs hfl ns hns t ht fun u hu => cexpr_all c vp vn nd va dp fs hfl ns hns n u (by have := tx_lt hu; omega) ((GX_kids ht).mem u hu)
theorem cexpr_spec (c : Nat) (vp vn : SV) (nd va : Int) (dp : Bool) (fs : List Tf) (hfl : fs.length ≤ 1000000) (ns : List ByteArray) (hns : ns.length ≤ 1000000) (t : Tx) (ht : GX t) (er : Int) : Spec Tryz.prog 118 [.pointer (some ⟨c, 0, none⟩), xV t] [row c 127 (cR vp vn nd va dp er), own 9 1 eS (sv vn) ns] [txsA t.v t.kids, tfsA vp fs] (X := Unit) (fun _ => True) (fun _ => .tuple #[]) (fun _ => [row c 127 (cR vp vn nd va dp (fst er (eX fs ns t))), own 9 1 eS (sv vn) ns]) (fun _ => []) := cexpr_all c vp vn nd va dp fs hfl ns hns _ t (Nat.lt_succ_self _) ht er
set_option maxHeartbeats 8000000 in
set_option maxRecDepth 100000 in
theorem cblock_step (c : Nat) (vp vn : SV) (nd va : Int) (dp : Bool) (fs : List Tf) (hfl : fs.length ≤ 1000000) (v : SV) (l : List Ty) (hl : l.length ≤ 1000000) (hg : GYs l) (ihb : ∀ u ∈ l, (∀ (vn : SV) (ns : List ByteArray) (er : Int), ns.length + vYs u.body ≤ 1000000 → Spec Tryz.prog 102 [.pointer (some ⟨c, 0, none⟩), sv u.vb] [row c 127 (cR vp vn nd va dp er), own 9 1 eS (sv vn) ns] [tysA u.vb u.body, tfsA vp fs] (X := SV) (fun _ => True) (fun _ => .tuple #[]) (fun x => [row c 127 (cR vp x nd va dp (fst er (bYs fs ns u.body).2)), own 9 1 eS (sv x) (bYs fs ns u.body).1]) (fun _ => []))) (ihe : ∀ u ∈ l, (∀ (vn : SV) (ns : List ByteArray) (er : Int), ns.length + vYs u.els ≤ 1000000 → Spec Tryz.prog 102 [.pointer (some ⟨c, 0, none⟩), sv u.vl] [row c 127 (cR vp vn nd va dp er), own 9 1 eS (sv vn) ns] [tysA u.vl u.els, tfsA vp fs] (X := SV) (fun _ => True) (fun _ => .tuple #[]) (fun x => [row c 127 (cR vp x nd va dp (fst er (bYs fs ns u.els).2)), own 9 1 eS (sv x) (bYs fs ns u.els).1]) (fun _ => []))) (ns : List ByteArray) (er : Int) (hnv : ns.length + vYs l ≤ 1000000) :
  Spec Tryz.prog 102 [.pointer (some ⟨c, 0, none⟩), sv v] [row c 127 (cR vp vn nd va dp (er)), own 9 1 eS (sv vn) (ns)] [tysA v l, tfsA vp fs] (X := SV) (fun _ => True) (fun _ => .tuple #[]) (fun x => [row c 127 (cR vp x nd va dp (fst er (bYs fs ns l).2)), own 9 1 eS (sv x) ((bYs fs ns l).1)]) (fun _ => []) := by
 refine r_enter Tryz.func102 rfl Tryz.ntmps102 rfl fun w0 M H => ?_
 refine r_more 0 2 rfl tys_sl ?_
 refine r_seq (r_region (r_p (p_move rfl) rfl ?_))
 refine r_p (p_len_sl Tryz.underlying51 rfl (hs_sl (k := 2) rfl)) rfl ?_
 refine r_p (p_move rfl) rfl (r_nil (r_block ?_))
 refine r_loop (X := Nat × SV) (fun x => x.1 ≤ l.length) (fun x => [(0, .pointer (some ⟨c, 0, none⟩)), (8, sv v), (9, .int .i64 (l.length : Int)), (10, .int .i64 (x.1 : Int))]) (fun x => [(0, row c 127 (cR vp x.2 nd va dp (fst er (bYs fs ns (l.take x.1)).2))), (1, own 9 1 eS (sv x.2) ((bYs fs ns (l.take x.1)).1))]) (fun x => [(0, tysA v l), (1, tfsA vp fs), (2, sl 5 eTy (sv v) l)]) (fun x => l.length - x.1) (0, vn) (Nat.zero_le _) rfl (by rw [show fst er (bYs fs ns (l.take (0, vn).1)).2 = er from fst_zero er]; rfl) rfl (fun x n1 => ?_)
 obtain ⟨i, vx⟩ := x
 dsimp only at n1 ⊢
 refine r_seq (r_region ?_)
 refine r_p (p_bin rfl rfl b_lt) rfl ?_
 refine r_nil (r_seq ?_)
 refine r_cond rfl (fun h1 => ?_) (fun h1 => ?_)
 ·(try simp only [decide_eq_true_eq, decide_eq_false_iff_not, Bool.and_eq_true, Bool.or_eq_true, Bool.and_eq_false_iff, Bool.or_eq_false_iff, Bool.not_eq_true, Bool.not_eq_false, Bool.not_eq_true', Bool.not_eq_false', Bool.not_not, bne_iff_ne, beq_iff_eq] at h1)
  have hi : i < l.length := by omega
  obtain ⟨st, hst⟩ : ∃ k, l[i]? = some k := ⟨_, List.getElem?_eq_getElem hi⟩
  have hsm := List.mem_of_getElem? hst
  have hsy := hg.mem st hsm
  have hsg := GY_es hsy
  have hbl := bYs_len fs ns (l.take i)
  have hvt := vYs_take_le hst
  have hve := vY_eq st
  have hni : (bYs fs ns (l.take i)).1.length ≤ 1000000 := by omega
  refine r_more 0 7 rfl (tys_es hsm) ?_
  refine r_more 0 8 rfl (tys_body hsm) ?_
  refine r_more 0 9 rfl (tys_els hsm) ?_
  refine r_more 7 10 rfl txs_sl ?_
  refine r_skip (r_seq (r_block (r_seq (r_region ?_))))
  refine r_p (p_idx_sl (j := i) Tryz.underlying51 t53 rfl rfl (hs_sl (k := 2) rfl) (by first | rfl | omega) (by first | omega | (simp; done) | (simp; omega))) rfl ?_
  refine r_p (p_loadA t53 rfl rfl rfl (g_el' (hs_sl (k := 2) rfl) (by intro _; rfl) hst (by rfl))) rfl ?_
  refine r_alloc t53 rfl rfl fun b5 => ?_
  refine r_store_all (k := 5) t53 rfl rfl rfl rfl rfl rfl ?_
  refine r_nil ?_
  refine r_seq_cut (X := Unit) (fun _ => True) (fun _ => [(0, .pointer (some ⟨c, 0, none⟩)), (8, sv v), (9, .int .i64 (l.length : Int)), (10, .int .i64 (i : Int)), (5, .pointer (some ⟨b5, 0, none⟩))]) (fun _ => [(0, row c 127 (cR vp vx nd va dp (fst (fst er (bYs fs ns (l.take i)).2) (aE ((bYs fs ns (l.take i)).1) st)))), (1, own 9 1 eS (sv vx) ((bYs fs ns (l.take i)).1)), (5, row b5 53 (eTy st))]) (fun _ => [(0, tysA v l), (1, tfsA vp fs), (2, sl 5 eTy (sv v) l), (7, txsA st.ve st.es), (8, tysA st.vb st.body), (9, tysA st.vl st.els), (10, sl 4 eTx (sv st.ve) st.es)]) ?_ (fun _ _ => ?_)
  ·refine r_seq (r_region ?_)
   refine r_p (p_field0 fo53_0 rfl) rfl ?_
   refine r_p (p_load1 t3 rfl rfl (g_row1 (k := 5) rfl rfl)) rfl ?_
   refine r_p (p_bin rfl rfl b_eq) rfl ?_
   refine r_nil ?_
   refine r_cond rfl (fun h2 => ?_) (fun h2 => ?_)
   ·have q2 : st.kind = 2 := of_decide_eq_true h2
    refine r_region (r_p (p_move rfl) rfl ?_)
    refine r_p (p_field0 fo53_1 rfl) rfl ?_
    refine r_p (p_load1 t9 rfl rfl (g_row1 (k := 5) rfl rfl)) rfl ?_
    refine r_call (xs := [.tmp 17, .tmp 19]) (cvar_spec c vp vx nd va dp (fst er (bYs fs ns (l.take i)).2) ((bYs fs ns (l.take i)).1) hni st.name) cb117 [0, 1] [] [0, 1] [] rfl rfl rfl rfl rfl rfl rfl rfl (fun _ _ => rfl) (fun _ _ _ => rfl) rfl (fun _ _ => ?_)
    refine r_nil ?_
    refine r_here () trivial rfl (by unfold aE; rw [if_pos q2]; rfl) rfl
   ·have q2 : ¬ st.kind = 2 := of_decide_eq_false h2
    refine r_skip ?_
    refine r_here () trivial rfl (by unfold aE; rw [if_neg q2, fst_zero]; rfl) rfl
  ·refine r_seq (r_seq (r_region ?_))
   refine r_p (p_field0 fo53_2 rfl) rfl ?_
   refine r_p (p_load1 t46 rfl rfl (g_row1 (k := 5) rfl rfl)) rfl ?_
   refine r_p (p_len_sl Tryz.underlying46 rfl (hs_sl (k := 10) rfl)) rfl ?_
   refine r_p (p_move rfl) rfl (r_nil (r_block ?_))
   refine r_loop (X := Nat) (fun j => j ≤ st.es.length) (fun j => [(0, .pointer (some ⟨c, 0, none⟩)), (8, sv v), (9, .int .i64 (l.length : Int)), (10, .int .i64 (i : Int)), (5, .pointer (some ⟨b5, 0, none⟩)), (22, sv st.ve), (23, .int .i64 (st.es.length : Int)), (24, .int .i64 (j : Int))]) (fun j => [(0, row c 127 (cR vp vx nd va dp (fst (fst (fst er (bYs fs ns (l.take i)).2) (aE ((bYs fs ns (l.take i)).1) st)) (eXs fs ((bYs fs ns (l.take i)).1) (st.es.take j))))), (1, own 9 1 eS (sv vx) ((bYs fs ns (l.take i)).1)), (5, row b5 53 (eTy st))]) (fun j => [(0, tysA v l), (1, tfsA vp fs), (2, sl 5 eTy (sv v) l), (7, txsA st.ve st.es), (8, tysA st.vb st.body), (9, tysA st.vl st.els), (10, sl 4 eTx (sv st.ve) st.es)]) (fun j => st.es.length - j) 0 (Nat.zero_le _) rfl (by rw [show eXs fs ((bYs fs ns (l.take i)).1) (st.es.take 0) = 0 by simp [eXs], fst_zero]; rfl) rfl (fun j n2 => ?_)
   refine r_seq (r_region ?_)
   refine r_p (p_bin rfl rfl b_lt) rfl ?_
   refine r_nil (r_seq ?_)
   refine r_cond rfl (fun h3 => ?_) (fun h3 => ?_)
   ·(try simp only [decide_eq_true_eq, decide_eq_false_iff_not, Bool.and_eq_true, Bool.or_eq_true, Bool.and_eq_false_iff, Bool.or_eq_false_iff, Bool.not_eq_true, Bool.not_eq_false, Bool.not_eq_true', Bool.not_eq_false', Bool.not_not, bne_iff_ne, beq_iff_eq] at h3)
    have hj : j < st.es.length := by omega
    obtain ⟨kid, hkid⟩ : ∃ k, st.es[j]? = some k := ⟨_, List.getElem?_eq_getElem hj⟩
    have hkm := List.mem_of_getElem? hkid
    refine r_skip (r_seq (r_block (r_seq (r_region ?_))))
    refine r_p (p_idx_sl (j := j) Tryz.underlying46 t48 rfl rfl (hs_sl (k := 10) rfl) (by first | rfl | omega) (by first | omega | (simp; done) | (simp; omega))) rfl ?_
    refine r_p (p_loadA t48 rfl rfl rfl (g_el' (hs_sl (k := 10) rfl) (by intro _; rfl) hkid (by rfl))) rfl ?_
    refine r_alloc t48 rfl rfl fun b7 => ?_
    refine r_store_all (k := 7) t48 rfl rfl rfl rfl rfl rfl ?_
    refine r_nil (r_region (r_p (p_move rfl) rfl ?_))
    refine r_p (p_loadA t48 rfl rfl rfl (g_all (k := 7) rfl)) rfl ?_
    refine r_more 7 12 rfl (txs_kid hkm) ?_
    refine r_call (xs := [.tmp 28, .tmp 29]) (cexpr_spec c vp vx nd va dp fs hfl ((bYs fs ns (l.take i)).1) hni kid (hsg.2.mem kid hkm) (fst (fst (fst er (bYs fs ns (l.take i)).2) (aE ((bYs fs ns (l.take i)).1) st)) (eXs fs ((bYs fs ns (l.take i)).1) (st.es.take j)))) cb118 [0, 1] [(false, 12), (false, 1)] [0, 1] [] rfl rfl rfl rfl rfl rfl rfl rfl (fun _ _ => rfl) (fun _ _ _ => rfl) rfl (fun _ _ => ?_)
    refine r_nil (r_region ?_)
    refine r_p (p_bin rfl rfl (b_add (by first | exact w_i64 (by omega) (by omega) | rfl))) rfl ?_
    refine r_p (p_move rfl) rfl (r_nil ?_)
    refine r_here (j + 1) ⟨by omega, by omega⟩ rfl (by rw [eXs_take hkid]; simp only [fst_assoc]; rfl) rfl
   ·(try simp only [decide_eq_true_eq, decide_eq_false_iff_not, Bool.and_eq_true, Bool.or_eq_true, Bool.and_eq_false_iff, Bool.or_eq_false_iff, Bool.not_eq_true, Bool.not_eq_false, Bool.not_eq_true', Bool.not_eq_false', Bool.not_not, bne_iff_ne, beq_iff_eq] at h3)
    have hj : j = st.es.length := by omega
    subst hj
    rw [List.take_length]
    refine r_exit ?_
    refine r_seq_cut (X := SV) (fun _ => True) (fun vd => [(0, .pointer (some ⟨c, 0, none⟩)), (8, sv v), (9, .int .i64 (l.length : Int)), (10, .int .i64 (i : Int)), (5, .pointer (some ⟨b5, 0, none⟩))]) (fun vd => [(0, row c 127 (cR vp vd nd va dp (fst (fst (fst (fst er (bYs fs ns (l.take i)).2) (aE ((bYs fs ns (l.take i)).1) st)) (eXs fs ((bYs fs ns (l.take i)).1) (st.es))) (dE ((bYs fs ns (l.take i)).1) st)))), (1, own 9 1 eS (sv vd) (dN ((bYs fs ns (l.take i)).1) st)), (5, row b5 53 (eTy st))]) (fun vd => [(0, tysA v l), (1, tfsA vp fs), (2, sl 5 eTy (sv v) l), (7, txsA st.ve st.es), (8, tysA st.vb st.body), (9, tysA st.vl st.els), (10, sl 4 eTx (sv st.ve) st.es)]) ?_ (fun vd _ => ?_)
    ·refine r_seq (r_region ?_)
     refine r_p (p_field0 fo53_0 rfl) rfl ?_
     refine r_p (p_load1 t3 rfl rfl (g_row1 (k := 5) rfl rfl)) rfl ?_
     refine r_p (p_bin rfl rfl b_eq) rfl ?_
     refine r_nil ?_
     refine r_cond rfl (fun h4 => ?_) (fun h4 => ?_)
     ·have q1 : st.kind = 1 := of_decide_eq_true h4
      refine r_region (r_p (p_move rfl) rfl ?_)
      refine r_p (p_field0 fo53_1 rfl) rfl ?_
      refine r_p (p_load1 t9 rfl rfl (g_row1 (k := 5) rfl rfl)) rfl ?_
      refine r_call (xs := [.tmp 35, .tmp 37]) (cdecl_spec c vp vx nd va dp (fst (fst (fst er (bYs fs ns (l.take i)).2) (aE ((bYs fs ns (l.take i)).1) st)) (eXs fs ((bYs fs ns (l.take i)).1) (st.es))) ((bYs fs ns (l.take i)).1) hni st.name) cb101 [0, 1] [] [0, 1] [] rfl rfl rfl rfl rfl rfl rfl rfl (fun _ _ => rfl) (fun _ _ _ => rfl) rfl (fun vd _ => ?_)
      refine r_nil ?_
      refine r_here vd trivial rfl (by unfold dE dN; rw [if_pos q1, if_pos q1]; rfl) rfl
     ·have q1 : ¬ st.kind = 1 := of_decide_eq_false h4
      refine r_skip ?_
      refine r_here vx trivial rfl (by unfold dE dN; rw [if_neg q1, if_neg q1, fst_zero]; rfl) rfl
    ·refine r_seq (r_region (r_p (p_move rfl) rfl ?_))
     refine r_p (p_field0 fo53_3 rfl) rfl ?_
     refine r_p (p_load1 t51 rfl rfl (g_row1 (k := 5) rfl rfl)) rfl ?_
     refine r_call (xs := [.tmp 39, .tmp 41]) (ihb st hsm vd (dN ((bYs fs ns (l.take i)).1) st) (fst (fst (fst (fst er (bYs fs ns (l.take i)).2) (aE ((bYs fs ns (l.take i)).1) st)) (eXs fs ((bYs fs ns (l.take i)).1) (st.es))) (dE ((bYs fs ns (l.take i)).1) st)) (by rw [dN_len]; omega)) cb102 [0, 1] [(false, 8), (false, 1)] [0, 1] [] rfl rfl rfl rfl rfl rfl rfl rfl (fun _ _ => rfl) (fun _ _ _ => rfl) rfl (fun v1 _ => ?_)
     refine r_nil (r_region (r_p (p_move rfl) rfl ?_))
     refine r_p (p_field0 fo53_4 rfl) rfl ?_
     refine r_p (p_load1 t51 rfl rfl (g_row1 (k := 5) rfl rfl)) rfl ?_
     refine r_call (xs := [.tmp 43, .tmp 45]) (ihe st hsm v1 (bYs fs (dN ((bYs fs ns (l.take i)).1) st) st.body).1 (fst (fst (fst (fst (fst er (bYs fs ns (l.take i)).2) (aE ((bYs fs ns (l.take i)).1) st)) (eXs fs ((bYs fs ns (l.take i)).1) (st.es))) (dE ((bYs fs ns (l.take i)).1) st)) (bYs fs (dN ((bYs fs ns (l.take i)).1) st) st.body).2) (by rw [bYs_len, dN_len]; omega)) cb102 [0, 1] [(false, 9), (false, 1)] [0, 1] [] rfl rfl rfl rfl rfl rfl rfl rfl (fun _ _ => rfl) (fun _ _ _ => rfl) rfl (fun v2 _ => ?_)
     refine r_nil (r_region ?_)
     refine r_p (p_bin rfl rfl (b_add (by first | exact w_i64 (by omega) (by omega) | rfl))) rfl ?_
     refine r_p (p_move rfl) rfl (r_nil ?_)
     refine r_here (i + 1, v2) ⟨by dsimp only; omega, by dsimp only; omega⟩ rfl (by dsimp only; rw [bYs_take hst, bY_eq]; simp only [fst_assoc]; rfl) rfl
 ·(try simp only [decide_eq_true_eq, decide_eq_false_iff_not, Bool.and_eq_true, Bool.or_eq_true, Bool.and_eq_false_iff, Bool.or_eq_false_iff, Bool.not_eq_true, Bool.not_eq_false, Bool.not_eq_true', Bool.not_eq_false', Bool.not_not, bne_iff_ne, beq_iff_eq] at h1)
  have hi : i = l.length := by omega
  subst hi
  rw [List.take_length]
  refine r_exit ?_
  refine r_end vx trivial rfl rs0 rfl [0, 1] [] rfl rfl rfl
theorem cblock_all (c : Nat) (vp : SV) (nd va : Int) (dp : Bool) (fs : List Tf) (hfl : fs.length ≤ 1000000) : ∀ (n : Nat) (v : SV) (l : List Ty), SizeOf.sizeOf l < n → l.length ≤ 1000000 → GYs l → (∀ (vn : SV) (ns : List ByteArray) (er : Int), ns.length + vYs l ≤ 1000000 → Spec Tryz.prog 102 [.pointer (some ⟨c, 0, none⟩), sv v] [row c 127 (cR vp vn nd va dp er), own 9 1 eS (sv vn) ns] [tysA v l, tfsA vp fs] (X := SV) (fun _ => True) (fun _ => .tuple #[]) (fun x => [row c 127 (cR vp x nd va dp (fst er (bYs fs ns l).2)), own 9 1 eS (sv x) (bYs fs ns l).1]) (fun _ => []))
 | 0, _, _, h, _, _ => absurd h (Nat.not_lt_zero _)
 | n + 1, v, l, h, hl, hg => fun vn ns er hnv => by
  have key : ∀ u ∈ l, SizeOf.sizeOf u.body < n ∧ SizeOf.sizeOf u.els < n := fun u hu => by
   have h1 := List.sizeOf_lt_of_mem hu
   have h2 : SizeOf.sizeOf u.body < SizeOf.sizeOf u ∧ SizeOf.sizeOf u.els < SizeOf.sizeOf u := by
    cases u
    simp only [Ty.mk.sizeOf_spec, Ty.body, Ty.els]
    omega
   omega
  exact cblock_step c vp vn nd va dp fs hfl v l hl hg (fun u hu => cblock_all c vp nd va dp fs hfl n u.vb u.body (key u hu).1 (GY_body (hg.mem u hu)).1 (GY_body (hg.mem u hu)).2) (fun u hu => cblock_all c vp nd va dp fs hfl n u.vl u.els (key u hu).2 (GY_els (hg.mem u hu)).1 (GY_els (hg.mem u hu)).2) ns er hnv
theorem cblock_spec (c : Nat) (vp : SV) (nd va : Int) (dp : Bool) (fs : List Tf) (hfl : fs.length ≤ 1000000) (v : SV) (l : List Ty) (hl : l.length ≤ 1000000) (hg : GYs l) : (∀ (vn : SV) (ns : List ByteArray) (er : Int), ns.length + vYs l ≤ 1000000 → Spec Tryz.prog 102 [.pointer (some ⟨c, 0, none⟩), sv v] [row c 127 (cR vp vn nd va dp er), own 9 1 eS (sv vn) ns] [tysA v l, tfsA vp fs] (X := SV) (fun _ => True) (fun _ => .tuple #[]) (fun x => [row c 127 (cR vp x nd va dp (fst er (bYs fs ns l).2)), own 9 1 eS (sv x) (bYs fs ns l).1]) (fun _ => [])) := cblock_all c vp nd va dp fs hfl _ v l (Nat.lt_succ_self _) hl hg
theorem dcl_app : ∀ (ns a b : List ByteArray), dcl ns (a ++ b) = fst (dcl ns a) (dcl (ns ++ a) b)
 | ns, [], b => by simp [dcl, fst]
 | ns, x :: r, b => by
  rw [List.cons_append, dcl, dcl_app (ns ++ [x]) r b, dcl, fst_assoc, List.append_assoc]
  rfl
theorem dcl_take {l : List ByteArray} {i : Nat} {x : ByteArray} (h : l[i]? = some x) : dcl [] (l.take (i + 1)) = fst (dcl [] (l.take i)) (if memB x (l.take i) = true then 22 else 0) := by
 rw [take_snoc h, dcl_app]
 show fst _ (fst (if memB x ([] ++ l.take i) = true then 22 else 0) 0) = _
 rw [fst_zero, List.nil_append]
/-- Whether a function is too large. -/
def big (f : Tf) : Prop := f.ps.length > 4 ∨ f.ps.length + vYs f.body > 12 ∨ nYs f.body > 400 ∨ dpYs 1 f.body = true
instance (f : Tf) : Decidable (big f) := by unfold big; exact inferInstance
theorem chkF_eq (fs : List Tf) (f : Tf) : chkF fs f = fst (if big f then 2 else 0) (fst (dcl [] f.ps) (bYs fs f.ps f.body).2) := rfl
theorem big_T {f : Tf} {er : Int} {dp : Bool} (hdp : dp = true → er ≠ 0) (h : (decide ((f.ps.length : Int) > 4) || decide ((f.ps.length : Int) + (vYs f.body : Int) > 12) || decide (0 + (nYs f.body : Int) > 400) || (dp || dpYs 1 f.body)) = true) : fst er 2 = fst er (if big f then 2 else 0) := by
 by_cases hb : big f
 ·rw [if_pos hb]
 ·rw [if_neg hb, fst_zero]
  unfold big at hb
  have hd : dp = true := by
   cases hd : dp with
   | true => rfl
   | false =>
    exfalso
    apply hb
    rw [hd, Bool.false_or] at h
    simp only [Bool.or_eq_true, decide_eq_true_eq] at h
    rcases h with ((h | h) | h) | h
    ·exact .inl (by omega)
    ·exact .inr (.inl (by omega))
    ·exact .inr (.inr (.inl (by omega)))
    ·exact .inr (.inr (.inr h))
  exact if_neg (hdp hd)
theorem big_F {f : Tf} {er : Int} {dp : Bool} (h : (decide ((f.ps.length : Int) > 4) || decide ((f.ps.length : Int) + (vYs f.body : Int) > 12) || decide (0 + (nYs f.body : Int) > 400) || (dp || dpYs 1 f.body)) = false) : er = fst er (if big f then 2 else 0) := by
 simp only [Bool.or_eq_false_iff, decide_eq_false_iff_not] at h
 have hb : ¬ big f := by
  unfold big
  rintro (h1 | h1 | h1 | h1)
  ·omega
  ·omega
  ·omega
  ·rw [h.2.2] at h1; cases h1
 rw [if_neg hb, fst_zero]
theorem deep_err {fs : List Tf} {f : Tf} {er : Int} {dp : Bool} (hdp : dp = true → er ≠ 0) (h : (dp || dpYs 1 f.body) = true) : fst er (chkF fs f) ≠ 0 := by
 intro h2
 obtain ⟨h3, h4⟩ := fst_eq_zero.1 h2
 rw [chkF_eq] at h4
 have h5 := (fst_eq_zero.1 h4).1
 have hb : ¬ big f := fun hb => by rw [if_pos hb] at h5; cases h5
 cases hd : dp with
 | true => exact hdp hd h3
 | false =>
  rw [hd, Bool.false_or] at h
  exact hb (.inr (.inr (.inr h)))
theorem chkFs_app (fs : List Tf) : ∀ a b : List Tf, chkFs fs (a ++ b) = fst (chkFs fs a) (chkFs fs b)
 | [], b => rfl
 | t :: r, b => by rw [List.cons_append, chkFs, chkFs_app fs r b, chkFs, fst_assoc]
theorem chkFs_take {fs l : List Tf} {i : Nat} {f : Tf} (h : l[i]? = some f) : chkFs fs (l.take (i + 1)) = fst (chkFs fs (l.take i)) (chkF fs f) := by
 rw [take_snoc h, chkFs_app]
 show fst _ (fst (chkF fs f) 0) = _
 rw [fst_zero]
theorem once_iff {fs : List Tf} : once fs = true ↔ ∀ (i : Nat) (f : Tf), fs[i]? = some f → fix fs f.name = (i : Int) := by
 unfold once
 rw [List.all_eq_true]
 constructor
 ·intro h i f hf
  obtain ⟨hi, hf2⟩ := List.getElem?_eq_some_iff.1 hf
  have := h i (List.mem_range.2 hi)
  rw [List.getD_eq_getElem?_getD, hf] at this
  simpa using this
 ·intro h i hi
  have hi := List.mem_range.1 hi
  have h2 := List.getElem?_eq_getElem hi
  have := h i _ h2
  rw [List.getD_eq_getElem?_getD, h2]
  simpa using this
theorem once_no {fs : List Tf} {i : Nat} {f : Tf} (hf : fs[i]? = some f) (h : ¬ fix fs f.name = (i : Int)) : once fs = false := by
 rw [Bool.eq_false_iff]
 exact fun h2 => h (once_iff.1 h2 i f hf)
theorem chk_1 {fs : List Tf} (h : rP fs = false) : chk fs = 1 := if_pos h
theorem chk_2 {fs : List Tf} (h : rP fs = true) (h2 : fs.length > 16) : chk fs = 2 := by
 unfold chk
 rw [if_neg (by rw [h]; simp), if_pos h2]
theorem chk_22 {fs : List Tf} (h : rP fs = true) (h2 : ¬ fs.length > 16) (h3 : once fs = false) : chk fs = 22 := by
 unfold chk
 rw [if_neg (by rw [h]; simp), if_neg h2, if_pos h3]
theorem chk_21 {fs : List Tf} (h : rP fs = true) (h2 : ¬ fs.length > 16) (h3 : once fs = true) (h4 : ffind fs nMain = none) : chk fs = 21 := by
 unfold chk
 rw [if_neg (by rw [h]; simp), if_neg h2, if_neg (by rw [h3]; simp), h4]
theorem chk_23 {fs : List Tf} {f : Tf} (h : rP fs = true) (h2 : ¬ fs.length > 16) (h3 : once fs = true) (h4 : ffind fs nMain = some f) (h5 : f.ps.length > 0) : chk fs = 23 := by
 unfold chk
 rw [if_neg (by rw [h]; simp), if_neg h2, if_neg (by rw [h3]; simp), h4]
 exact if_pos h5
theorem chk_0 {fs : List Tf} {f : Tf} (h : rP fs = true) (h2 : ¬ fs.length > 16) (h3 : once fs = true) (h4 : ffind fs nMain = some f) (h5 : ¬ f.ps.length > 0) : chk fs = chkFs fs fs := by
 unfold chk
 rw [if_neg (by rw [h]; simp), if_neg h2, if_neg (by rw [h3]; simp), h4]
 exact if_neg h5
set_option maxHeartbeats 4000000 in
set_option maxRecDepth 100000 in
theorem cfunc_spec (c : Nat) (vp vn : SV) (nd va : Int) (dp : Bool) (er : Int) (ns : List ByteArray) (fs : List Tf) (hfl : fs.length ≤ 1000000) (f : Tf) (hg : GF f) (hdp : dp = true → er ≠ 0) :
  Spec Tryz.prog 58 [.pointer (some ⟨c, 0, none⟩), tfV f] [row c 127 (cR vp (vn) (nd) (va) (dp) (er)), own 9 1 eS (sv vn) (ns)] [tfA f, tfsA vp fs] (X := SV) (fun _ => True) (fun _ => .tuple #[]) (fun x => [row c 127 (cR vp (x) (0 + (nYs f.body : Int)) ((f.ps.length : Int) + (vYs f.body : Int)) (dp || dpYs 1 f.body) (fst er (chkF fs f))), own 9 1 eS (sv x) ((bYs fs f.ps f.body).1)]) (fun _ => []) := by
 refine r_enter Tryz.func58 rfl Tryz.ntmps58 rfl fun w0 M H => ?_
 obtain ⟨g1, g2, g3, g4, g5, g6⟩ := hg
 have hvl := vYs_le f.body
 refine r_more 0 2 rfl tf_ps ?_
 refine r_more 0 3 rfl tf_body ?_
 refine r_seq (r_region ?_)
 refine r_boxA rfl rfl fun b3 => ?_
 refine r_nil (r_seq ?_)
 refine r_drawM [0, 1, 2, 3, 4, 5, 6, 7, 8, 9, 10, 11, 12, 13, 14] [0, 7, 11, 1, 2, 3, 4, 5, 6, 8, 9, 10, 12, 13, 14] [6, 7, 8, 9, 10, 11, 12, 13, 14, 15, 16, 17] _ rfl rfl rfl (stg_mem0 (V := [(0, 6, _), (1, 7, _), (2, 8, _), (3, 9, _), (4, 10, _), (5, 11, _), (6, 12, _), (7, 13, _)]) [0, 1, 2, 3, 4, 5, 6, 7] 8 [8, 7, 6, 0] [9, 10] (fun _ => [(9, 14, _), (10, 15, _)]) rfl rfl (prs_cons (pri rfl (p_move rfl)) (prs_cons (pri rfl (p_move rfl)) (prs_cons (pri rfl (p_move rfl)) (prs_cons (pri rfl (p_field0 fo63_1 rfl)) (prs_cons (pri rfl (p_load1 t58 rfl rfl (g_row1 (k := 3) rfl rfl))) (prs_cons (pri rfl (p_len_sl Tryz.underlying58 rfl (hs_sl (k := 2) rfl))) (prs_cons (pri rfl (p_nilCheck rfl)) (prs_cons (pri rfl (p_field0 fo127_1 rfl)) prs_nil)))))))) rfl rfl rfl rfl rfl rfl rfl rfl rfl (fun _ _ => rfl) rfl (ms_store_row (k := 0) t58 rfl rfl rfl rfl rfl rfl rfl rfl) (fun _ _ => stg_mem0 [9, 10, 1, 2, 3, 4, 5] 11 [11, 10, 9, 8, 7, 6, 1, 0] [12, 13] (fun _ => [(12, 16, _), (13, 17, _)]) rfl rfl (prs_cons (pri rfl (p_nilCheck rfl)) (prs_cons (pri rfl (p_field0 fo127_2 rfl)) (prs_cons (pri rfl (p_move rfl)) (prs_cons (pri rfl (p_move rfl)) (prs_cons (pri rfl (p_field0 fo63_1 rfl)) (prs_cons (pri rfl (p_load1 t58 rfl rfl (g_row1 (k := 3) rfl rfl))) (prs_cons (pri rfl (p_len_sl Tryz.underlying58 rfl (hs_sl (k := 2) rfl))) prs_nil))))))) rfl rfl rfl rfl rfl rfl rfl rfl rfl (fun _ _ => rfl) rfl (ms_store_row (k := 0) t3 rfl rfl rfl rfl rfl rfl rfl rfl) (fun _ _ => stg_mem0 [12, 13, 2, 3, 4, 5] 14 [14, 13, 12, 11, 10, 9, 8, 7, 6, 5, 4, 3, 2, 1, 0] [] (fun _ => []) rfl rfl (prs_cons (pri rfl (p_nilCheck rfl)) (prs_cons (pri rfl (p_field0 fo127_3 rfl)) (prs_cons (pri rfl (p_move rfl)) (prs_cons (pri rfl (p_field0 fo63_1 rfl)) (prs_cons (pri rfl (p_load1 t58 rfl rfl (g_row1 (k := 3) rfl rfl))) (prs_cons (pri rfl (p_len_sl Tryz.underlying58 rfl (hs_sl (k := 2) rfl))) prs_nil)))))) rfl rfl rfl rfl rfl rfl rfl rfl rfl (fun _ _ => rfl) rfl (ms_store_row (k := 0) t3 rfl rfl rfl rfl rfl rfl rfl rfl) (fun _ _ => stg_end [] rfl rfl prs_nil rfl rfl rfl ?_))))
 refine r_nilown 1 (α := ByteArray) (S := 9) (s := 1) (enc := eS) ?_
 refine r_seq (r_region (r_p (p_move rfl) rfl ?_))
 refine r_p (p_field0 fo63_2 rfl) rfl ?_
 refine r_p (p_load1 t51 rfl rfl (g_row1 (k := 3) rfl rfl)) rfl ?_
 refine r_call (xs := [.tmp 18, .tmp 20, .const (.int .i64 1)]) (count_spec c vp nilS er f.vb f.body g4 g5 1 0 (f.ps.length : Int) dp (by omega) (by omega) (by omega) (by omega) (by omega)) cb99 [0] [(false, 3)] [0] [] rfl rfl rfl rfl rfl rfl rfl rfl (fun _ _ => rfl) (fun _ _ _ => rfl) rfl (fun _ _ => ?_)
 refine r_nil ?_
 refine r_seq_cut (X := Unit) (fun _ => True) (fun _ => [(0, .pointer (some ⟨c, 0, none⟩)), (3, .pointer (some ⟨b3, 0, none⟩))]) (fun _ => [(0, row c 127 (cR vp (nilS) (0 + (nYs f.body : Int)) ((f.ps.length : Int) + (vYs f.body : Int)) (dp || dpYs 1 f.body) (fst er (if big f then 2 else 0)))), (1, own 9 1 eS (sv nilS) ([])), (3, row b3 63 (eTf f))]) (fun _ => [(0, tfA f), (1, tfsA vp fs), (2, sl 1 eS (sv f.vp) f.ps), (3, tysA f.vb f.body)]) ?_ (fun _ _ => ?_)
 ·refine r_seq (r_region ?_)
  refine r_p (p_field0 fo63_1 rfl) rfl ?_
  refine r_p (p_load1 t58 rfl rfl (g_row1 (k := 3) rfl rfl)) rfl ?_
  refine r_p (p_len_sl Tryz.underlying58 rfl (hs_sl (k := 2) rfl)) rfl ?_
  refine r_p (p_bin rfl rfl b_gt) rfl ?_
  refine r_p (p_move rfl) rfl ?_
  refine r_gp [] rfl rfl trivial (fun hg1 => p_move rfl) rfl ?_
  refine r_gp [(27, _)] rfl rfl ⟨rfl, trivial⟩ (fun hg2 => p_nilCheck rfl) rfl ?_
  refine r_gp [(27, _), (28, _)] rfl rfl ⟨rfl, rfl, trivial⟩ (fun hg3 => p_field0 fo127_3 rfl) rfl ?_
  refine r_gp [(27, _), (28, _), (29, _)] rfl rfl ⟨rfl, rfl, rfl, trivial⟩ (fun hg4 => p_load1 t3 rfl rfl (g_row1 (k := 0) rfl rfl)) rfl ?_
  refine r_gp [(27, _), (28, _), (29, _), (30, _)] rfl rfl ⟨rfl, rfl, rfl, rfl, trivial⟩ (fun hg5 => p_bin rfl rfl b_gt) rfl ?_
  refine r_p (p_pick rfl rfl rfl (by first | exact pick_and | exact pick_or |  rfl)) rfl ?_
  refine r_p (p_move rfl) rfl ?_
  refine r_gp [] rfl rfl trivial (fun hg6 => p_move rfl) rfl ?_
  refine r_gp [(34, _)] rfl rfl ⟨rfl, trivial⟩ (fun hg7 => p_nilCheck rfl) rfl ?_
  refine r_gp [(34, _), (35, _)] rfl rfl ⟨rfl, rfl, trivial⟩ (fun hg8 => p_field0 fo127_2 rfl) rfl ?_
  refine r_gp [(34, _), (35, _), (36, _)] rfl rfl ⟨rfl, rfl, rfl, trivial⟩ (fun hg9 => p_load1 t3 rfl rfl (g_row1 (k := 0) rfl rfl)) rfl ?_
  refine r_gp [(34, _), (35, _), (36, _), (37, _)] rfl rfl ⟨rfl, rfl, rfl, rfl, trivial⟩ (fun hg10 => p_bin rfl rfl b_gt) rfl ?_
  refine r_p (p_pick rfl rfl rfl (by first | exact pick_and | exact pick_or |  rfl)) rfl ?_
  refine r_p (p_move rfl) rfl ?_
  refine r_gp [] rfl rfl trivial (fun hg11 => p_move rfl) rfl ?_
  refine r_gp [(41, _)] rfl rfl ⟨rfl, trivial⟩ (fun hg12 => p_nilCheck rfl) rfl ?_
  refine r_gp [(41, _), (42, _)] rfl rfl ⟨rfl, rfl, trivial⟩ (fun hg13 => p_field0 fo127_4 rfl) rfl ?_
  refine r_gp [(41, _), (42, _), (43, _)] rfl rfl ⟨rfl, rfl, rfl, trivial⟩ (fun hg14 => p_load1 t4 rfl rfl (g_row1 (k := 0) rfl rfl)) rfl ?_
  refine r_p (p_pick rfl rfl rfl (by first | exact pick_and | exact pick_or |  rfl)) rfl ?_
  refine r_nil ?_
  refine r_cond rfl (fun h15 => ?_) (fun h15 => ?_)
  ·have hq := h15
   refine r_region (r_p (p_move rfl) rfl ?_)
   refine r_call (xs := [.tmp 46, .const (.int .i64 2)]) (cfail_spec c vp nilS (0 + (nYs f.body : Int)) ((f.ps.length : Int) + (vYs f.body : Int)) (dp || dpYs 1 f.body) er 2) cb100 [0] [] [0] [] rfl rfl rfl rfl rfl rfl rfl rfl (fun _ _ => rfl) (fun _ _ _ => rfl) rfl (fun _ _ => ?_)
   refine r_nil ?_
   refine r_here () trivial rfl (by rw [← big_T hdp hq]; rfl) rfl
  ·have hq := h15
   refine r_skip ?_
   refine r_here () trivial rfl (by rw [← big_F hq]; rfl) rfl
 ·refine r_seq (r_seq (r_region ?_))
  refine r_p (p_field0 fo63_1 rfl) rfl ?_
  refine r_p (p_load1 t58 rfl rfl (g_row1 (k := 3) rfl rfl)) rfl ?_
  refine r_p (p_len_sl Tryz.underlying58 rfl (hs_sl (k := 2) rfl)) rfl ?_
  refine r_p (p_move rfl) rfl (r_nil (r_block ?_))
  refine r_loop (X := Nat × SV) (fun x => x.1 ≤ f.ps.length) (fun x => [(0, .pointer (some ⟨c, 0, none⟩)), (3, .pointer (some ⟨b3, 0, none⟩)), (49, sv f.vp), (50, .int .i64 (f.ps.length : Int)), (51, .int .i64 (x.1 : Int))]) (fun x => [(0, row c 127 (cR vp (x.2) (0 + (nYs f.body : Int)) ((f.ps.length : Int) + (vYs f.body : Int)) (dp || dpYs 1 f.body) (fst (fst er (if big f then 2 else 0)) (dcl [] (f.ps.take x.1))))), (1, own 9 1 eS (sv x.2) (f.ps.take x.1)), (3, row b3 63 (eTf f))]) (fun x => [(0, tfA f), (1, tfsA vp fs), (2, sl 1 eS (sv f.vp) f.ps), (3, tysA f.vb f.body)]) (fun x => f.ps.length - x.1) (0, nilS) (Nat.zero_le _) rfl (by rw [show fst (fst er (if big f then 2 else 0)) (dcl [] (f.ps.take (0, nilS).1)) = fst er (if big f then 2 else 0) from fst_zero _]; rfl) rfl (fun x n1 => ?_)
  obtain ⟨i, v⟩ := x
  dsimp only at n1 ⊢
  refine r_seq (r_region ?_)
  refine r_p (p_bin rfl rfl b_lt) rfl ?_
  refine r_nil (r_seq ?_)
  refine r_cond rfl (fun h16 => ?_) (fun h16 => ?_)
  ·(try simp only [decide_eq_true_eq, decide_eq_false_iff_not, Bool.and_eq_true, Bool.or_eq_true, Bool.and_eq_false_iff, Bool.or_eq_false_iff, Bool.not_eq_true, Bool.not_eq_false, Bool.not_eq_true', Bool.not_eq_false', Bool.not_not, bne_iff_ne, beq_iff_eq] at h16)
   have hi : i < f.ps.length := by omega
   obtain ⟨x, hx⟩ : ∃ k, f.ps[i]? = some k := ⟨_, List.getElem?_eq_getElem hi⟩
   refine r_skip (r_seq (r_block (r_seq (r_region ?_))))
   refine r_p (p_idx_sl (j := i) Tryz.underlying58 t9 rfl rfl (hs_sl (k := 2) rfl) (by first | rfl | omega) (by first | omega | (simp; done) | (simp; omega))) rfl ?_
   refine r_p (p_load1 t9 rfl rfl (g_el' (hs_sl (k := 2) rfl) (by intro _; rfl) hx (by rfl))) rfl ?_
   refine r_p (p_assign rfl) rfl (r_nil (r_region (r_p (p_move rfl) rfl (r_p (p_move rfl) rfl ?_))))
   refine r_call (xs := [.tmp 55, .tmp 56]) (cdecl_spec c vp v (0 + (nYs f.body : Int)) ((f.ps.length : Int) + (vYs f.body : Int)) (dp || dpYs 1 f.body) (fst (fst er (if big f then 2 else 0)) (dcl [] (f.ps.take i))) (f.ps.take i) (by rw [List.length_take]; omega) x) cb101 [0, 1] [] [0, 1] [] rfl rfl rfl rfl rfl rfl rfl rfl (fun _ _ => rfl) (fun _ _ _ => rfl) rfl (fun v2 _ => ?_)
   refine r_nil (r_region ?_)
   refine r_p (p_bin rfl rfl (b_add (by first | exact w_i64 (by omega) (by omega) | rfl))) rfl ?_
   refine r_p (p_move rfl) rfl (r_nil ?_)
   refine r_here (i + 1, v2) ⟨by dsimp only; omega, by dsimp only; omega⟩ rfl (by dsimp only; rw [dcl_take hx, take_snoc hx]; simp only [fst_assoc]; rfl) rfl
  ·(try simp only [decide_eq_true_eq, decide_eq_false_iff_not, Bool.and_eq_true, Bool.or_eq_true, Bool.and_eq_false_iff, Bool.or_eq_false_iff, Bool.not_eq_true, Bool.not_eq_false, Bool.not_eq_true', Bool.not_eq_false', Bool.not_not, bne_iff_ne, beq_iff_eq] at h16)
   have hi : i = f.ps.length := by omega
   subst hi
   rw [List.take_length]
   refine r_exit (r_region (r_p (p_move rfl) rfl ?_))
   refine r_p (p_field0 fo63_2 rfl) rfl ?_
   refine r_p (p_load1 t51 rfl rfl (g_row1 (k := 3) rfl rfl)) rfl ?_
   refine r_call (xs := [.tmp 59, .tmp 61]) (cblock_spec c vp (0 + (nYs f.body : Int)) ((f.ps.length : Int) + (vYs f.body : Int)) (dp || dpYs 1 f.body) fs hfl f.vb f.body g4 g5 v f.ps (fst (fst er (if big f then 2 else 0)) (dcl [] f.ps)) (by omega)) cb102 [0, 1] [(false, 3), (false, 1)] [0, 1] [] rfl rfl rfl rfl rfl rfl rfl rfl (fun _ _ => rfl) (fun _ _ _ => rfl) rfl (fun v3 _ => ?_)
   refine r_nil ?_
   rw [show fst er (chkF fs f) = fst (fst (fst er (if big f then 2 else 0)) (dcl [] f.ps)) (bYs fs f.ps f.body).2 by rw [chkF_eq]; simp only [fst_assoc]]
   refine r_end v3 trivial rfl rs0 rfl [0, 1] [] rfl rfl rfl
set_option maxHeartbeats 8000000 in
set_option maxRecDepth 100000 in
theorem check_spec (vp : SV) (fs : List Tf) (hg : GP fs) :
  Spec Tryz.prog 41 [.agg #[sv vp]] [] [tfsA vp fs] (X := Unit) (fun _ => True) (fun _ => .int .i64 (chk fs)) (fun _ => []) (fun _ => []) := by
 refine r_enter Tryz.func41 rfl Tryz.ntmps41 rfl fun w0 M H => ?_
 refine r_more 0 1 rfl tfs_sl ?_
 have hfl := hg.1
 refine r_seq (r_region ?_)
 refine r_boxA rfl rfl fun b1 => ?_
 refine r_p (p_assign rfl) rfl (r_nil (r_seq (r_seq (r_region ?_))))
 refine r_p (p_loadA t29 rfl rfl rfl (g_all (k := 1) rfl)) rfl ?_
 refine r_call (xs := [.tmp 9]) (right_spec vp fs hg) cb56 [] [(false, 0)] [] [] rfl rfl rfl rfl rfl rfl rfl rfl (fun _ _ => rfl) (fun _ _ _ => rfl) rfl (fun _ _ => ?_)
 refine r_p (p_not rfl) rfl ?_
 refine r_nil ?_
 refine r_cond rfl (fun h1 => ?_) (fun h1 => ?_)
 ·have hr : rP fs = false := by simpa using h1
  refine r_seq (r_region (r_p (p_assign rfl) rfl (r_nil (r_cret ?_))))
  refine r_ret () trivial rfl (rs1 (rv_tmp rfl)) (by rw [chk_1 hr]) [] [] rfl rfl rfl
 ·have hr : rP fs = true := by simpa using h1
  refine r_skip (r_seq (r_seq (r_region ?_)))
  refine r_p (p_field0 fo29_0 rfl) rfl ?_
  refine r_p (p_load1 t27 rfl rfl (g_row1 (k := 1) rfl rfl)) rfl ?_
  refine r_p (p_len_sl Tryz.underlying27 rfl (hs_sl (k := 1) rfl)) rfl ?_
  refine r_p (p_bin rfl rfl b_gt) rfl ?_
  refine r_nil ?_
  refine r_cond rfl (fun h2 => ?_) (fun h2 => ?_)
  ·(try simp only [decide_eq_true_eq, decide_eq_false_iff_not, Bool.and_eq_true, Bool.or_eq_true, Bool.and_eq_false_iff, Bool.or_eq_false_iff, Bool.not_eq_true, Bool.not_eq_false, Bool.not_eq_true', Bool.not_eq_false', Bool.not_not, bne_iff_ne, beq_iff_eq] at h2)
   refine r_seq (r_region (r_p (p_assign rfl) rfl (r_nil (r_cret ?_))))
   refine r_ret () trivial rfl (rs1 (rv_tmp rfl)) (by rw [chk_2 hr (by omega)]) [] [] rfl rfl rfl
  ·(try simp only [decide_eq_true_eq, decide_eq_false_iff_not, Bool.and_eq_true, Bool.or_eq_true, Bool.and_eq_false_iff, Bool.or_eq_false_iff, Bool.not_eq_true, Bool.not_eq_false, Bool.not_eq_true', Bool.not_eq_false', Bool.not_not, bne_iff_ne, beq_iff_eq] at h2)
   refine r_skip (r_seq (r_region ?_))
   refine r_p (p_loadA t29 rfl rfl rfl (g_all (k := 1) rfl)) rfl ?_
   refine r_p (p_build (parts := [(0, .tmp 16)]) t127 pl127 rfl rfl) rfl ?_
   refine r_boxA rfl rfl fun b18 => ?_
   refine r_p (p_assign rfl) rfl (r_nil (r_seq (r_seq (r_region ?_))))
   refine r_p (p_field0 fo29_0 rfl) rfl ?_
   refine r_p (p_load1 t27 rfl rfl (g_row1 (k := 1) rfl rfl)) rfl ?_
   refine r_p (p_len_sl Tryz.underlying27 rfl (hs_sl (k := 1) rfl)) rfl ?_
   refine r_p (p_move rfl) rfl (r_nil (r_block ?_))
   refine r_loop (X := Nat) (fun i => i ≤ fs.length ∧ ∀ j f, j < i → fs[j]? = some f → fix fs f.name = (j : Int)) (fun i => [(1, .pointer (some ⟨b1, 0, none⟩)), (2, .int .i64 0), (3, .pointer (some ⟨b18, 0, none⟩)), (20, sv vp), (21, .int .i64 (fs.length : Int)), (22, .int .i64 (i : Int))]) (fun i => [(1, row b1 29 [sv vp]), (18, row b18 127 (cR vp nilS 0 0 false 0))]) (fun i => [(0, tfsA vp fs), (1, sl 3 eTf (sv vp) fs)]) (fun i => fs.length - i) 0 ⟨Nat.zero_le _, fun j f hj => by omega⟩ rfl rfl rfl (fun i hx0 => ?_)
   obtain ⟨n1, n2⟩ := hx0
   refine r_seq (r_region ?_)
   refine r_p (p_bin rfl rfl b_lt) rfl ?_
   refine r_nil (r_seq ?_)
   refine r_cond rfl (fun h3 => ?_) (fun h3 => ?_)
   ·(try simp only [decide_eq_true_eq, decide_eq_false_iff_not, Bool.and_eq_true, Bool.or_eq_true, Bool.and_eq_false_iff, Bool.or_eq_false_iff, Bool.not_eq_true, Bool.not_eq_false, Bool.not_eq_true', Bool.not_eq_false', Bool.not_not, bne_iff_ne, beq_iff_eq] at h3)
    have hi : i < fs.length := by omega
    obtain ⟨f, hst⟩ : ∃ k, fs[i]? = some k := ⟨_, List.getElem?_eq_getElem hi⟩
    refine r_skip (r_seq (r_block (r_seq (r_region (r_p (p_move rfl) rfl ?_)))))
    refine r_p (p_idx_sl (j := i) Tryz.underlying27 t63 rfl rfl (hs_sl (k := 1) rfl) (by first | rfl | omega) (by first | omega | (simp; done) | (simp; omega))) rfl ?_
    refine r_p (p_loadA t63 rfl rfl rfl (g_el' (hs_sl (k := 1) rfl) (by intro _; rfl) hst (by rfl))) rfl ?_
    refine r_alloc t63 rfl rfl fun b5 => ?_
    refine r_p (p_assign rfl) rfl ?_
    refine r_store_all (k := 5) t63 rfl rfl rfl rfl rfl rfl ?_
    refine r_nil (r_seq (r_region (r_p (p_move rfl) rfl ?_)))
    refine r_p (p_field0 fo63_0 rfl) rfl ?_
    refine r_p (p_load1 t9 rfl rfl (g_row1 (k := 5) rfl rfl)) rfl ?_
    refine r_call (xs := [.tmp 27, .tmp 29]) (cfind_spec b18 vp nilS 0 0 false 0 f.name fs hfl) cb57 [18] [(false, 1)] [18] [] rfl rfl rfl rfl rfl rfl rfl rfl (fun _ _ => rfl) (fun _ _ _ => rfl) rfl (fun _ _ => ?_)
    refine r_p (p_move rfl) rfl ?_
    refine r_p (p_bin rfl rfl b_ne) rfl ?_
    refine r_nil ?_
    refine r_cond rfl (fun h4 => ?_) (fun h4 => ?_)
    ·have hne : ¬ fix fs f.name = (i : Int) := by simpa using h4
     refine r_seq (r_region (r_p (p_assign rfl) rfl (r_nil (r_cret ?_))))
     refine r_ret () trivial rfl (rs1 (rv_tmp rfl)) (by rw [chk_22 hr (by omega) (once_no hst hne)]) [] [] rfl rfl rfl
    ·have hne : fix fs f.name = (i : Int) := by simpa using h4
     refine r_skip (r_region ?_)
     refine r_p (p_bin rfl rfl (b_add (by first | exact w_i64 (by omega) (by omega) | rfl))) rfl ?_
     refine r_p (p_move rfl) rfl (r_nil ?_)
     refine r_here (i + 1) ⟨⟨by omega, fun j f2 hj hf2 => by rcases Nat.lt_succ_iff_lt_or_eq.1 hj with h | h; exact n2 j f2 h hf2; subst h; rw [hst] at hf2; cases hf2; exact hne⟩, by omega⟩ rfl rfl rfl
   ·(try simp only [decide_eq_true_eq, decide_eq_false_iff_not, Bool.and_eq_true, Bool.or_eq_true, Bool.and_eq_false_iff, Bool.or_eq_false_iff, Bool.not_eq_true, Bool.not_eq_false, Bool.not_eq_true', Bool.not_eq_false', Bool.not_not, bne_iff_ne, beq_iff_eq] at h3)
    have hi : i = fs.length := by omega
    subst hi
    have ho : once fs = true := once_iff.2 fun j f hf => n2 j f (List.getElem?_eq_some_iff.1 hf).1 hf
    refine r_exit (r_seq (r_region (r_p (p_move rfl) rfl ?_)))
    refine r_call (xs := [.tmp 34, .const (.string (ByteArray.mk #[109, 97, 105, 110]))]) (cfind_spec b18 vp nilS 0 0 false 0 nMain fs hfl) cb57 [18] [(false, 1)] [18] [] rfl rfl rfl rfl rfl rfl rfl rfl (fun _ _ => rfl) (fun _ _ _ => rfl) rfl (fun _ _ => ?_)
    refine r_p (p_assign rfl) rfl (r_nil (r_seq (r_seq (r_region (r_p (p_move rfl) rfl ?_)))))
    refine r_p (p_bin rfl rfl b_lt) rfl ?_
    refine r_nil ?_
    refine r_cond rfl (fun h5 => ?_) (fun h5 => ?_)
    ·(try simp only [decide_eq_true_eq, decide_eq_false_iff_not, Bool.and_eq_true, Bool.or_eq_true, Bool.and_eq_false_iff, Bool.or_eq_false_iff, Bool.not_eq_true, Bool.not_eq_false, Bool.not_eq_true', Bool.not_eq_false', Bool.not_not, bne_iff_ne, beq_iff_eq] at h5)
     have hm : ffind fs nMain = none := ffind_fix.1.1 h5
     refine r_seq (r_region (r_p (p_assign rfl) rfl (r_nil (r_cret ?_))))
     refine r_ret () trivial rfl (rs1 (rv_tmp rfl)) (by rw [chk_21 hr (by omega) ho hm]) [] [] rfl rfl rfl
    ·(try simp only [decide_eq_true_eq, decide_eq_false_iff_not, Bool.and_eq_true, Bool.or_eq_true, Bool.and_eq_false_iff, Bool.or_eq_false_iff, Bool.not_eq_true, Bool.not_eq_false, Bool.not_eq_true', Bool.not_eq_false', Bool.not_not, bne_iff_ne, beq_iff_eq] at h5)
     obtain ⟨f, hm⟩ : ∃ f, ffind fs nMain = some f := by
      cases hf : ffind fs nMain with
      | none => exact absurd (ffind_fix.1.2 hf) (by omega)
      | some f => exact ⟨f, rfl⟩
     obtain ⟨j, hj1, hj2⟩ := ffind_fix.2 f hm
     have hjl := (List.getElem?_eq_some_iff.1 hj2).1
     rw [hj1]
     refine r_more 0 7 rfl (tfs_f (ffind_mem hm)) ?_
     refine r_more 7 9 rfl tf_ps ?_
     refine r_skip (r_seq (r_seq (r_region ?_)))
     refine r_p (p_field0 fo29_0 rfl) rfl ?_
     refine r_p (p_load1 t27 rfl rfl (g_row1 (k := 1) rfl rfl)) rfl ?_
     refine r_p (p_move rfl) rfl ?_
     refine r_p (p_idx_sl (j := j) Tryz.underlying27 t63 rfl rfl (hs_sl (k := 1) rfl) rfl hjl) rfl ?_
     refine r_p (p_field fo63_1 rfl) rfl ?_
     refine r_p (p_load1 t58 rfl rfl (g_elp (hs_sl (k := 1) rfl) (by intro _; rfl) hj2 rfl)) rfl ?_
     refine r_p (p_len_sl Tryz.underlying58 rfl (hs_sl (k := 9) rfl)) rfl ?_
     refine r_p (p_bin rfl rfl b_gt) rfl ?_
     refine r_nil ?_
     refine r_cond rfl (fun h6 => ?_) (fun h6 => ?_)
     ·(try simp only [decide_eq_true_eq, decide_eq_false_iff_not, Bool.and_eq_true, Bool.or_eq_true, Bool.and_eq_false_iff, Bool.or_eq_false_iff, Bool.not_eq_true, Bool.not_eq_false, Bool.not_eq_true', Bool.not_eq_false', Bool.not_not, bne_iff_ne, beq_iff_eq] at h6)
      refine r_seq (r_region (r_p (p_assign rfl) rfl (r_nil (r_cret ?_))))
      refine r_ret () trivial rfl (rs1 (rv_tmp rfl)) (by rw [chk_23 hr (by omega) ho hm (by omega)]) [] [] rfl rfl rfl
     ·(try simp only [decide_eq_true_eq, decide_eq_false_iff_not, Bool.and_eq_true, Bool.or_eq_true, Bool.and_eq_false_iff, Bool.or_eq_false_iff, Bool.not_eq_true, Bool.not_eq_false, Bool.not_eq_true', Bool.not_eq_false', Bool.not_not, bne_iff_ne, beq_iff_eq] at h6)
      refine r_skip (r_seq (r_seq (r_region ?_)))
      refine r_p (p_field0 fo29_0 rfl) rfl ?_
      refine r_p (p_load1 t27 rfl rfl (g_row1 (k := 1) rfl rfl)) rfl ?_
      refine r_p (p_len_sl Tryz.underlying27 rfl (hs_sl (k := 1) rfl)) rfl ?_
      refine r_p (p_move rfl) rfl (r_nil (r_block ?_))
      refine r_nilown 19 (α := ByteArray) (S := 9) (s := 1) (enc := eS) ?_
      refine r_loop (X := Nat × SV × List ByteArray × Int × Int × Bool) (fun x => x.1 ≤ fs.length ∧ (x.2.2.2.2.2 = true → chkFs fs (fs.take x.1) ≠ 0)) (fun x => [(1, .pointer (some ⟨b1, 0, none⟩)), (2, .int .i64 0), (3, .pointer (some ⟨b18, 0, none⟩)), (47, sv vp), (48, .int .i64 (fs.length : Int)), (49, .int .i64 (x.1 : Int))]) (fun x => [(18, row b18 127 (cR vp x.2.1 x.2.2.2.1 x.2.2.2.2.1 x.2.2.2.2.2 (chkFs fs (fs.take x.1)))), (19, own 9 1 eS (sv x.2.1) x.2.2.1)]) (fun x => [(0, tfsA vp fs), (1, sl 3 eTf (sv vp) fs)]) (fun x => fs.length - x.1) (0, nilS, [], 0, 0, false) ⟨Nat.zero_le _, fun h => by cases h⟩ rfl rfl rfl (fun x hx0 => ?_)
      obtain ⟨i, v, ns, nd, va, dp⟩ := x
      obtain ⟨n1, n2⟩ := hx0
      dsimp only at n1 n2 ⊢
      refine r_seq (r_region ?_)
      refine r_p (p_bin rfl rfl b_lt) rfl ?_
      refine r_nil (r_seq ?_)
      refine r_cond rfl (fun h7 => ?_) (fun h7 => ?_)
      ·(try simp only [decide_eq_true_eq, decide_eq_false_iff_not, Bool.and_eq_true, Bool.or_eq_true, Bool.and_eq_false_iff, Bool.or_eq_false_iff, Bool.not_eq_true, Bool.not_eq_false, Bool.not_eq_true', Bool.not_eq_false', Bool.not_not, bne_iff_ne, beq_iff_eq] at h7)
       have hi : i < fs.length := by omega
       obtain ⟨f, hst⟩ : ∃ k, fs[i]? = some k := ⟨_, List.getElem?_eq_getElem hi⟩
       refine r_skip (r_seq (r_block (r_seq (r_region ?_))))
       refine r_p (p_idx_sl (j := i) Tryz.underlying27 t63 rfl rfl (hs_sl (k := 1) rfl) (by first | rfl | omega) (by first | omega | (simp; done) | (simp; omega))) rfl ?_
       refine r_p (p_loadA t63 rfl rfl rfl (g_el' (hs_sl (k := 1) rfl) (by intro _; rfl) hst (by rfl))) rfl ?_
       refine r_alloc t63 rfl rfl fun b8 => ?_
       refine r_store_all (k := 8) t63 rfl rfl rfl rfl rfl rfl ?_
       refine r_nil (r_region (r_p (p_move rfl) rfl ?_))
       refine r_p (p_loadA t63 rfl rfl rfl (g_all (k := 8) rfl)) rfl ?_
       refine r_more 0 11 rfl (tfs_f (List.mem_of_getElem? hst)) ?_
       refine r_call (xs := [.tmp 53, .tmp 54]) (cfunc_spec b18 vp v nd va dp (chkFs fs (fs.take i)) ns fs hfl f (hg.2 f (List.mem_of_getElem? hst)) n2) cb58 [18, 19] [(false, 11), (false, 0)] [18, 19] [] rfl rfl rfl rfl rfl rfl rfl rfl (fun _ _ => rfl) (fun _ _ _ => rfl) rfl (fun v2 _ => ?_)
       refine r_nil (r_region ?_)
       refine r_p (p_bin rfl rfl (b_add (by first | exact w_i64 (by omega) (by omega) | rfl))) rfl ?_
       refine r_p (p_move rfl) rfl (r_nil ?_)
       refine r_here (i + 1, v2, (bYs fs f.ps f.body).1, 0 + (nYs f.body : Int), (f.ps.length : Int) + (vYs f.body : Int), dp || dpYs 1 f.body) ⟨⟨by dsimp only; omega, fun h => by dsimp only; rw [chkFs_take hst]; exact deep_err n2 h⟩, by dsimp only; omega⟩ rfl (by dsimp only; rw [chkFs_take hst]; rfl) rfl
      ·(try simp only [decide_eq_true_eq, decide_eq_false_iff_not, Bool.and_eq_true, Bool.or_eq_true, Bool.and_eq_false_iff, Bool.or_eq_false_iff, Bool.not_eq_true, Bool.not_eq_false, Bool.not_eq_true', Bool.not_eq_false', Bool.not_not, bne_iff_ne, beq_iff_eq] at h7)
       have hi : i = fs.length := by omega
       subst hi
       rw [List.take_length]
       refine r_exit (r_seq (r_region (r_p (p_move rfl) rfl (r_p (p_nilCheck rfl) rfl ?_))))
       refine r_p (p_field0 fo127_5 rfl) rfl ?_
       refine r_p (p_load1 t40 rfl rfl (g_row1 (k := 18) rfl rfl)) rfl ?_
       refine r_p (p_assign rfl) rfl (r_nil (r_cret ?_))
       refine r_ret () trivial rfl (rs1 (rv_tmp rfl)) (by rw [chk_0 hr (by omega) ho hm (by omega)]) [] [] rfl rfl rfl
theorem memB_take {s x : ByteArray} {l : List ByteArray} {i : Nat} (h : l[i]? = some x) : memB s (l.take (i + 1)) = (memB s (l.take i) || (x == s)) := by
 unfold memB
 rw [take_snoc h, List.any_append, ba_eq]
 simp only [List.any_cons, List.any_nil, Bool.or_false]
 congr 1
 exact decide_eq_decide.2 ⟨fun h => h.symm, fun h => h.symm⟩
theorem memB_hit {s x : ByteArray} {l : List ByteArray} (hm : x ∈ l) (h : (x == s) = true) : memB s l = true := by
 rw [ba_eq] at h
 exact List.any_eq_true.2 ⟨x, hm, by simpa using (of_decide_eq_true h).symm⟩
theorem nn_or {a b : Bool} (h : (!a && !b) = false) : (a || b) = true := by cases a <;> cases b <;> simp_all
theorem nn_no {a b : Bool} (h : (!a && !b) = true) : (a || b) = false := by cases a <;> cases b <;> simp_all
theorem isn_short {s : ByteArray} (h : (s.size : Int) < 1 ∨ (s.size : Int) > 12) : identB s = false := by
 unfold identB
 rcases h with h | h
 ·rw [decide_eq_false (show ¬ s.size ≠ 0 by omega)]; rfl
 ·rw [decide_eq_false (show ¬ s.size ≤ 12 by omega)]; simp
theorem byte0_b {s : ByteArray} : (bytesI s).getD 0 0 = byte0 s := by
 unfold byte0 bytesI
 cases s.data.toList <;> rfl
theorem isn_first {s : ByteArray} (h : ltr ((bytesI s).getD 0 0) = false) : identB s = false := by
 unfold identB
 rw [← byte0_b, h]
 simp
theorem isn_key {s : ByteArray} (h : memB s kwL = true) : identB s = false := by
 unfold identB
 rw [h]
 simp
theorem bytes_at {s : ByteArray} {i : Nat} (h : i < s.size) : (bytesI s).getD i 0 = (((s[i]'h).toNat : Nat) : Int) := by
 have hi : i < s.data.toList.length := by simpa using h
 unfold bytesI
 rw [List.getD_eq_getElem?_getD, List.getElem?_map, List.getElem?_eq_getElem hi]
 rfl
theorem isn_in {s : ByteArray} {i : Nat} (h : i < s.size) (hb : (ltr ((bytesI s).getD i 0) || dgt ((bytesI s).getD i 0)) = false) : identB s = false := by
 unfold identB
 have h2 : allB (fun c => ltr c || dgt c) s = false := by
  rw [Bool.eq_false_iff]
  intro h3
  have h4 := allB_iff.1 h3 i h
  rw [bytes_at h] at hb
  rw [hb] at h4
  cases h4
 rw [h2]
 simp
theorem isn_yes {s : ByteArray} (h1 : ¬ (s.size : Int) < 1) (h2 : ¬ (s.size : Int) > 12) (h3 : ltr ((bytesI s).getD 0 0) = true) (h4 : memB s kwL = false) (h5 : ∀ j, j < s.size → (ltr ((bytesI s).getD j 0) || dgt ((bytesI s).getD j 0)) = true) : identB s = true := by
 unfold identB
 rw [← byte0_b, h3, h4, decide_eq_true (show s.size ≠ 0 by omega), decide_eq_true (show s.size ≤ 12 by omega)]
 simp only [Bool.not_false, Bool.and_true, Bool.true_and]
 exact allB_iff.2 fun i h => by rw [← bytes_at h]; exact h5 i h
/-- The levels of the reference. -/
def rlv : List (List ByteArray) := [[oOr], [oXor], [oAnd], [oEq, oNe], [oLt, oLe, oGt, oGe], [oShl, oShr], [oAdd, oSub], [oMul, oQuo, oRem]]
theorem rlv_bin (s : ByteArray) : (rlv.any fun l => memB s l) = isBin s := by
 have h : ∀ o : ByteArray, decide (s = o) = decide (o = s) := fun o => decide_eq_decide.2 ⟨fun h => h.symm, fun h => h.symm⟩
 unfold isBin
 rw [List.isSome_find?]
 simp only [rlv, lvL, memB, List.any_cons, List.any_nil, Bool.or_false, h]
 ac_rfl
set_option maxRecDepth 100000 in
theorem let8_spec (c : Int) :
  Spec Tryz.prog 88 [.int .u8 c] [] [] (X := Unit) (fun _ => True) (fun _ => .bool (ltr c)) (fun _ => []) (fun _ => []) := by
 refine r_enter Tryz.func88 rfl Tryz.ntmps88 rfl fun w0 M H => ?_
 refine r_seq (r_region (r_p (p_assign rfl) rfl (r_nil (r_seq (r_region (r_p (p_move rfl) rfl ?_))))))
 refine r_p (p_bin rfl rfl b_ge) rfl ?_
 refine r_p (p_move rfl) rfl ?_
 refine r_gp [] rfl rfl trivial (fun hg1 => p_move rfl) rfl ?_
 refine r_gp [(6, _)] rfl rfl ⟨rfl, trivial⟩ (fun hg2 => p_bin rfl rfl b_le) rfl ?_
 refine r_p (p_pick rfl rfl rfl (by first | exact pick_and | exact pick_or |  rfl)) rfl ?_
 refine r_p (p_assign rfl) rfl (r_nil (r_cret ?_))
 refine r_ret () trivial rfl (rs1 (rv_tmp rfl)) rfl [] [] rfl rfl rfl
set_option maxRecDepth 100000 in
theorem dig8_spec (c : Int) :
  Spec Tryz.prog 89 [.int .u8 c] [] [] (X := Unit) (fun _ => True) (fun _ => .bool (dgt c)) (fun _ => []) (fun _ => []) := by
 refine r_enter Tryz.func89 rfl Tryz.ntmps89 rfl fun w0 M H => ?_
 refine r_seq (r_region (r_p (p_assign rfl) rfl (r_nil (r_seq (r_region (r_p (p_move rfl) rfl ?_))))))
 refine r_p (p_bin rfl rfl b_ge) rfl ?_
 refine r_p (p_move rfl) rfl ?_
 refine r_gp [] rfl rfl trivial (fun hg1 => p_move rfl) rfl ?_
 refine r_gp [(6, _)] rfl rfl ⟨rfl, trivial⟩ (fun hg2 => p_bin rfl rfl b_le) rfl ?_
 refine r_p (p_pick rfl rfl rfl (by first | exact pick_and | exact pick_or |  rfl)) rfl ?_
 refine r_p (p_assign rfl) rfl (r_nil (r_cret ?_))
 refine r_ret () trivial rfl (rs1 (rv_tmp rfl)) rfl [] [] rfl rfl rfl
set_option maxRecDepth 100000 in
theorem kw8_spec  :
  Spec Tryz.prog 87 [] [] [] (X := SV) (fun _ => True) (fun u => sv u) (fun u => [own 9 1 eS (sv u) kwL]) (fun _ => []) := by
 refine r_enter Tryz.func87 rfl Tryz.ntmps87 rfl fun w0 M H => ?_
 refine r_seq (r_region (r_p (p_assign rfl) rfl (r_nil (r_seq (r_region ?_)))))
 refine r_bslice eS kwL (parts := [(0, .const (.string (ByteArray.mk #[101, 108, 115, 101]))), (1, .const (.string (ByteArray.mk #[102, 110]))), (2, .const (.string (ByteArray.mk #[105, 102]))), (3, .const (.string (ByteArray.mk #[105, 110]))), (4, .const (.string (ByteArray.mk #[109, 101, 109]))), (5, .const (.string (ByteArray.mk #[111, 117, 116]))), (6, .const (.string (ByteArray.mk #[114, 101, 116, 117, 114, 110]))), (7, .const (.string (ByteArray.mk #[118, 97, 114]))), (8, .const (.string (ByteArray.mk #[119, 104, 105, 108, 101])))]) Tryz.underlying58 t9 rfl (by decide) (by intro _; rfl) rfl (by decide) (by decide) rfl rfl rfl rfl fun v1 => ?_
 refine r_p (p_assign rfl) rfl (r_nil (r_cret ?_))
 refine r_ret v1 trivial rfl (rs1 (rv_tmp rfl)) rfl [1] [] rfl rfl rfl
set_option maxHeartbeats 1000000 in
set_option maxRecDepth 100000 in
theorem among_spec (s : ByteArray) (v : SV) (l : List ByteArray) (hl : l.length ≤ 1000000) :
  Spec Tryz.prog 39 [.string s, sv v] [] [sl 1 eS (sv v) l] (X := Unit) (fun _ => True) (fun _ => .bool (memB s l)) (fun _ => []) (fun _ => []) := by
 refine r_enter Tryz.func39 rfl Tryz.ntmps39 rfl fun w0 M H => ?_
 refine r_seq (r_region (r_p (p_assign rfl) rfl (r_nil (r_seq (r_seq (r_region (r_p (p_assign rfl) rfl (r_nil (r_block ?_)))))))))
 refine r_loop (X := Nat) (fun i => i ≤ l.length ∧ memB s (l.take i) = false) (fun i => [(0, .string s), (1, sv v), (5, .int .i64 (i : Int))]) (fun i => []) (fun i => [(0, sl 1 eS (sv v) l)]) (fun i => l.length - i) 0 ⟨Nat.zero_le _, rfl⟩ rfl rfl rfl (fun i hx0 => ?_)
 obtain ⟨n1, n2⟩ := hx0
 refine r_seq (r_seq (r_region (r_p (p_move rfl) rfl (r_p (p_move rfl) rfl ?_))))
 refine r_p (p_len_sl Tryz.underlying58 rfl (hs_sl (k := 0) rfl)) rfl ?_
 refine r_p (p_bin rfl rfl b_lt) rfl ?_
 refine r_nil ?_
 refine r_cond rfl (fun h1 => ?_) (fun h1 => ?_)
 ·(try simp only [decide_eq_true_eq, decide_eq_false_iff_not, Bool.and_eq_true, Bool.or_eq_true, Bool.and_eq_false_iff, Bool.or_eq_false_iff, Bool.not_eq_true, Bool.not_eq_false, Bool.not_eq_true', Bool.not_eq_false', Bool.not_not, bne_iff_ne, beq_iff_eq] at h1)
  have hi : i < l.length := by omega
  obtain ⟨x, hx⟩ : ∃ k, l[i]? = some k := ⟨_, List.getElem?_eq_getElem hi⟩
  refine r_skip (r_seq (r_block (r_seq (r_region (r_p (p_move rfl) rfl (r_p (p_move rfl) rfl ?_))))))
  refine r_p (p_idx_sl (j := i) Tryz.underlying58 t9 rfl rfl (hs_sl (k := 0) rfl) (by first | rfl | omega) (by first | omega | (simp; done) | (simp; omega))) rfl ?_
  refine r_p (p_load1 t9 rfl rfl (g_el' (hs_sl (k := 0) rfl) (by intro _; rfl) hx (by rfl))) rfl ?_
  refine r_p (p_move rfl) rfl ?_
  refine r_p (p_bin rfl rfl b_seq) rfl ?_
  refine r_nil ?_
  refine r_cond rfl (fun h2 => ?_) (fun h2 => ?_)
  ·have hct : (x == s) = true := h2
   refine r_seq (r_region (r_p (p_assign rfl) rfl (r_nil (r_cret ?_))))
   refine r_ret () trivial rfl (rs1 (rv_tmp rfl)) (congrArg Value.bool (memB_hit (List.mem_of_getElem? hx) hct).symm) [] [] rfl rfl rfl
  ·have hcf : (x == s) = false := h2
   refine r_skip (r_region (r_p (p_move rfl) rfl ?_))
   refine r_p (p_bin rfl rfl (b_add (by first | exact w_i64 (by omega) (by omega) | rfl))) rfl ?_
   refine r_p (p_assign rfl) rfl (r_nil ?_)
   refine r_here (i + 1) ⟨⟨by omega, by rw [memB_take hx, n2, hcf]; rfl⟩, by omega⟩ rfl rfl rfl
 ·(try simp only [decide_eq_true_eq, decide_eq_false_iff_not, Bool.and_eq_true, Bool.or_eq_true, Bool.and_eq_false_iff, Bool.or_eq_false_iff, Bool.not_eq_true, Bool.not_eq_false, Bool.not_eq_true', Bool.not_eq_false', Bool.not_not, bne_iff_ne, beq_iff_eq] at h1)
  have hi : i = l.length := by omega
  subst hi
  rw [List.take_length] at n2
  refine r_exit (r_seq (r_region (r_p (p_assign rfl) rfl (r_nil (r_cret ?_)))))
  refine r_ret () trivial rfl (rs1 (rv_tmp rfl)) (congrArg Value.bool n2.symm) [] [] rfl rfl rfl
theorem among_own (s : ByteArray) (v : SV) (l : List ByteArray) (hl : l.length ≤ 1000000) : Spec Tryz.prog 39 [.string s, sv v] [] [own 9 1 eS (sv v) l] (X := Unit) (fun _ => True) (fun _ => .bool (memB s l)) (fun _ => []) (fun _ => []) := (among_spec s v l hl).ro1 own_to_sl
set_option maxHeartbeats 2000000 in
set_option maxRecDepth 100000 in
theorem isname_spec (s : ByteArray) :
  Spec Tryz.prog 51 [.string s] [] [] (X := Unit) (fun _ => True) (fun _ => .bool (identB s)) (fun _ => []) (fun _ => []) := by
 refine r_enter Tryz.func51 rfl Tryz.ntmps51 rfl fun w0 M H => ?_
 refine r_seq (r_region (r_p (p_assign rfl) rfl (r_nil (r_seq (r_region (r_p (p_move rfl) rfl ?_))))))
 refine r_callN (xs := []) kw8_spec cb87 [] [] [6] rfl rfl rfl rfl rfl rfl rfl rfl (fun _ _ => rfl) (fun _ _ _ => rfl) rfl (fun v6 _ => ?_)
 refine r_callN (xs := [.tmp 5, .tmp 6]) (among_own s v6 kwL (by decide)) cb39 [] [(true, 6)] [] rfl rfl rfl rfl rfl rfl rfl rfl (fun _ _ => rfl) (fun _ _ _ => rfl) rfl (fun _ _ => ?_)
 refine r_p (p_assign rfl) rfl (r_nil (r_seq (r_seq (r_region (r_p (p_move rfl) rfl ?_)))))
 refine r_p (p_len_str Tryz.underlying9 rfl) rfl ?_
 refine r_p (p_bin rfl rfl b_lt) rfl ?_
 refine r_p (p_move rfl) rfl ?_
 refine r_gp [] rfl rfl trivial (fun hg1 => p_move rfl) rfl ?_
 refine r_gp [(12, _)] rfl rfl ⟨rfl, trivial⟩ (fun hg2 => p_len_str Tryz.underlying9 rfl) rfl ?_
 refine r_gp [(12, _), (13, _)] rfl rfl ⟨rfl, rfl, trivial⟩ (fun hg3 => p_bin rfl rfl b_gt) rfl ?_
 refine r_p (p_pick rfl rfl rfl (by first | exact pick_and | exact pick_or |  rfl)) rfl ?_
 refine r_p (p_move rfl) rfl ?_
 refine r_split (t := 16) rfl (fun h4 => ?_) (fun h4 => ?_)
 ·(try simp only [decide_eq_true_eq, decide_eq_false_iff_not, Bool.and_eq_true, Bool.or_eq_true, Bool.and_eq_false_iff, Bool.or_eq_false_iff, Bool.not_eq_true, Bool.not_eq_false, Bool.not_eq_true', Bool.not_eq_false', Bool.not_not, bne_iff_ne, beq_iff_eq] at h4)
  have q8 := h4
  refine r_gno rfl rfl rfl rfl ?_
  refine r_gno rfl rfl rfl rfl ?_
  refine r_gno rfl rfl rfl rfl ?_
  refine r_gno rfl rfl rfl rfl ?_
  refine r_p (p_pick rfl rfl rfl (by first | exact pick_and | exact pick_or |  rfl)) rfl ?_
  refine r_p (p_move rfl) rfl ?_
  refine r_gp [] rfl rfl trivial (fun hg5 => p_move rfl) rfl ?_
  refine r_p (p_pick rfl rfl rfl (by first | exact pick_and | exact pick_or |  rfl)) rfl ?_
  refine r_nil ?_
  refine r_cond rfl (fun h6 => ?_) (fun h6 => ?_)
  ·(try simp only [decide_eq_true_eq, decide_eq_false_iff_not, Bool.and_eq_true, Bool.or_eq_true, Bool.and_eq_false_iff, Bool.or_eq_false_iff, Bool.not_eq_true, Bool.not_eq_false, Bool.not_eq_true', Bool.not_eq_false', Bool.not_not, bne_iff_ne, beq_iff_eq] at h6)
   refine r_seq (r_region (r_p (p_assign rfl) rfl (r_nil (r_cret ?_))))
   refine r_ret () trivial rfl (rs1 (rv_tmp rfl)) (congrArg Value.bool (isn_short q8).symm) [] [] rfl rfl rfl
  ·exact absurd h6 (by simp)
 ·(try simp only [decide_eq_true_eq, decide_eq_false_iff_not, Bool.and_eq_true, Bool.or_eq_true, Bool.and_eq_false_iff, Bool.or_eq_false_iff, Bool.not_eq_true, Bool.not_eq_false, Bool.not_eq_true', Bool.not_eq_false', Bool.not_not, bne_iff_ne, beq_iff_eq] at h4)
  have q8 := h4
  have hs0 : 0 < s.size := by omega
  refine r_gyes rfl rfl ?_
  refine r_p (p_move rfl) rfl ?_
  refine r_gyes rfl rfl ?_
  refine r_p (p_idx_str (j := 0) Tryz.underlying9 rfl rfl rfl hs0) rfl ?_
  refine r_gyes rfl rfl ?_
  refine r_callN (xs := [.tmp 18]) (let8_spec _) cb88 [] [] [] rfl rfl rfl rfl rfl rfl rfl rfl (fun _ _ => rfl) (fun _ _ _ => rfl) rfl (fun _ _ => ?_)
  refine r_gyes rfl rfl ?_
  refine r_p (p_not rfl) rfl ?_
  refine r_p (p_pick rfl rfl rfl (by first | exact pick_and | exact pick_or |  rfl)) rfl ?_
  refine r_p (p_move rfl) rfl ?_
  refine r_gp [] rfl rfl trivial (fun hg7 => p_move rfl) rfl ?_
  refine r_p (p_pick rfl rfl rfl (by first | exact pick_and | exact pick_or |  rfl)) rfl ?_
  refine r_nil ?_
  refine r_cond rfl (fun h8 => ?_) (fun h8 => ?_)
  ·(try simp only [decide_eq_true_eq, decide_eq_false_iff_not, Bool.and_eq_true, Bool.or_eq_true, Bool.and_eq_false_iff, Bool.or_eq_false_iff, Bool.not_eq_true, Bool.not_eq_false, Bool.not_eq_true', Bool.not_eq_false', Bool.not_not, bne_iff_ne, beq_iff_eq] at h8)
   have qc := h8
   refine r_seq (r_region (r_p (p_assign rfl) rfl (r_nil (r_cret ?_))))
   have hno : identB s = false := by
    rcases qc with (q | q) | q
    ·cases q
    ·exact isn_first q
    ·exact isn_key q
   refine r_ret () trivial rfl (rs1 (rv_tmp rfl)) (congrArg Value.bool hno.symm) [] [] rfl rfl rfl
  ·(try simp only [decide_eq_true_eq, decide_eq_false_iff_not, Bool.and_eq_true, Bool.or_eq_true, Bool.and_eq_false_iff, Bool.or_eq_false_iff, Bool.not_eq_true, Bool.not_eq_false, Bool.not_eq_true', Bool.not_eq_false', Bool.not_not, bne_iff_ne, beq_iff_eq] at h8)
   have qc := h8
   refine r_skip (r_seq (r_seq (r_region (r_p (p_assign rfl) rfl (r_nil (r_block ?_))))))
   refine r_loop (X := Nat) (fun i => i ≤ s.size ∧ ∀ j, j < i → (ltr ((bytesI s).getD j 0) || dgt ((bytesI s).getD j 0)) = true) (fun i => [(0, .string s), (4, .int .i64 (i : Int))]) (fun i => []) (fun i => []) (fun i => s.size - i) 0 ⟨Nat.zero_le _, fun j h => absurd h (Nat.not_lt_zero _)⟩ rfl rfl rfl (fun i hx0 => ?_)
   obtain ⟨n1, n2⟩ := hx0
   refine r_seq (r_seq (r_region (r_p (p_move rfl) rfl (r_p (p_move rfl) rfl ?_))))
   refine r_p (p_len_str Tryz.underlying9 rfl) rfl ?_
   refine r_p (p_bin rfl rfl b_lt) rfl ?_
   refine r_nil ?_
   refine r_cond rfl (fun h9 => ?_) (fun h9 => ?_)
   ·(try simp only [decide_eq_true_eq, decide_eq_false_iff_not, Bool.and_eq_true, Bool.or_eq_true, Bool.and_eq_false_iff, Bool.or_eq_false_iff, Bool.not_eq_true, Bool.not_eq_false, Bool.not_eq_true', Bool.not_eq_false', Bool.not_not, bne_iff_ne, beq_iff_eq] at h9)
    have hi : i < s.size := by omega
    refine r_skip (r_seq (r_block (r_seq (r_region (r_p (p_move rfl) rfl (r_p (p_move rfl) rfl ?_))))))
    refine r_p (p_idx_str (j := i) Tryz.underlying9 rfl rfl rfl hi) rfl ?_
    refine r_callN (xs := [.tmp 33]) (let8_spec _) cb88 [] [] [] rfl rfl rfl rfl rfl rfl rfl rfl (fun _ _ => rfl) (fun _ _ _ => rfl) rfl (fun _ _ => ?_)
    refine r_p (p_not rfl) rfl ?_
    refine r_p (p_move rfl) rfl ?_
    refine r_gp [] rfl rfl trivial (fun hg10 => p_move rfl) rfl ?_
    refine r_gp [(37, _)] rfl rfl ⟨rfl, trivial⟩ (fun hg11 => p_move rfl) rfl ?_
    refine r_gp [(37, _), (38, _)] rfl rfl ⟨rfl, rfl, trivial⟩ (fun hg12 => p_idx_str (j := i) Tryz.underlying9 rfl rfl rfl hi) rfl ?_
    refine r_gms [(37, _), (38, _), (39, _)] rfl rfl ⟨rfl, rfl, rfl, trivial⟩ (fun hg13 => ms_callN (xs := [.tmp 39]) (dig8_spec _) cb89 [] [] [] rfl rfl rfl rfl rfl rfl rfl rfl (fun _ _ => rfl) (fun _ _ _ => rfl)) rfl ?_
    refine r_gp [(37, _), (38, _), (39, _), (40, _)] rfl rfl ⟨rfl, rfl, rfl, rfl, trivial⟩ (fun hg14 => p_not rfl) rfl ?_
    refine r_p (p_pick rfl rfl rfl (by first | exact pick_and | exact pick_or |  rfl)) rfl ?_
    refine r_nil ?_
    refine r_cond rfl (fun h15 => ?_) (fun h15 => ?_)
    ·have hct := h15
     refine r_seq (r_region (r_p (p_assign rfl) rfl (r_nil (r_cret ?_))))
     refine r_ret () trivial rfl (rs1 (rv_tmp rfl)) (congrArg Value.bool (isn_in hi (nn_no hct)).symm) [] [] rfl rfl rfl
    ·have hcf := h15
     refine r_skip (r_region (r_p (p_move rfl) rfl ?_))
     refine r_p (p_bin rfl rfl (b_add (by first | exact w_i64 (by omega) (by omega) | rfl))) rfl ?_
     refine r_p (p_assign rfl) rfl (r_nil ?_)
     refine r_here (i + 1) ⟨⟨by omega, fun j hj => by
      by_cases h : j = i
      ·subst h; exact nn_or hcf
      ·exact n2 j (by omega)⟩, by omega⟩ rfl rfl rfl
   ·(try simp only [decide_eq_true_eq, decide_eq_false_iff_not, Bool.and_eq_true, Bool.or_eq_true, Bool.and_eq_false_iff, Bool.or_eq_false_iff, Bool.not_eq_true, Bool.not_eq_false, Bool.not_eq_true', Bool.not_eq_false', Bool.not_not, bne_iff_ne, beq_iff_eq] at h9)
    have hi : i = s.size := by omega
    subst hi
    refine r_exit (r_seq (r_region (r_p (p_assign rfl) rfl (r_nil (r_cret ?_)))))
    refine r_ret () trivial rfl (rs1 (rv_tmp rfl)) (congrArg Value.bool (isn_yes q8.1 q8.2 qc.1.2 qc.2 n2).symm) [] [] rfl rfl rfl
/-- Assertions that hold within F. -/
def AllIn (w : World) (F : Nat → Prop) : List Asn → Prop
 | [] => True
 | A :: r => (∃ G : Nat → Prop, A.pred w G ∧ ∀ b, G b → F b) ∧ AllIn w F r
theorem allIn_of {w : World} {Γ : Ctx} {F : Nat → Nat → Prop} {U : Nat → Prop} (h : ∀ k A, cget Γ k = some A → A.pred w (F k)) : ∀ (ks : List Nat) (L : List Asn), cgets Γ ks = somes L → (∀ k ∈ ks, ∀ b, F k b → U b) → AllIn w U L
 | [], [], _, _ => trivial
 | [], A :: L, hL, _ => by cases hL
 | k :: ks, [], hL, _ => by cases hL
 | k :: ks, A :: L, hL, hU => by
  simp only [cgets, somes, List.cons.injEq] at hL
  exact ⟨⟨F k, h k A hL.1, hU k (by simp)⟩, allIn_of h ks L hL.2 fun j hj => hU j (by simp [hj])⟩
theorem COk.collect {w0 : World} {M H : Nat → Prop} {Γ R : Ctx} {w : World} (h : COk w0 M H Γ R w) (k : Nat) (ks : List Nat) {L : List Asn} {C : Asn} (hL : cgets Γ ks = somes L) (hC : ∀ w F, AllIn w F L → C.pred w F) : COk w0 M H ((k, C) :: ckill ks Γ) R w := by
 obtain ⟨F, hF⟩ := h
 have hsub : ∀ j b, (if j = k then fun b => ∃ i ∈ ks, F i b else if j ∈ ks then fun _ => False else F j) b → (j = k ∧ ∃ i ∈ ks, F i b) ∨ (j ≠ k ∧ j ∉ ks ∧ F j b) := by
  intro j b hb
  split at hb
  ·exact .inl ⟨by assumption, hb⟩
  ·split at hb
   ·exact hb.elim
   ·exact .inr ⟨by assumption, by assumption, hb⟩
 refine ⟨fun j => if j = k then fun b => ∃ i ∈ ks, F i b else if j ∈ ks then fun _ => False else F j, hF.touch, ?_, ?_, ?_, ?_, ?_⟩
 ·intro j B hj
  simp only [cget] at hj
  cases h1 : Nat.beq k j with
  | true =>
   rw [h1] at hj
   simp at hj
   subst hj
   have := Nat.eq_of_beq_eq_true h1
   subst this
   simp only [if_true]
   exact hC w _ (allIn_of hF.has ks L hL fun i hi b hb => ⟨i, hi, hb⟩)
  | false =>
   rw [h1] at hj
   have hj1 : j ≠ k := fun e => by subst e; simp at h1
   rcases cget_ckill ks Γ j B hj with ⟨rfl, h2⟩ | ⟨h2, h3⟩
   ·simp only [hj1, if_false, h2, if_true]
    exact fun b hb => hb
   ·simp only [hj1, if_false, h2]
    exact hF.has j B h3
 ·intro j b hb
  rcases hsub j b hb with ⟨_, i, _, hb⟩ | ⟨_, _, hb⟩ <;> exact hF.lt _ b hb
 ·intro j b hb
  rcases hsub j b hb with ⟨_, i, _, hb⟩ | ⟨_, _, hb⟩ <;> exact hF.mine _ b hb
 ·intro i j b hi hj
  rcases hsub i b hi with ⟨e1, x, hx, hx2⟩ | ⟨e1, n1, g1⟩ <;> rcases hsub j b hj with ⟨e2, y, hy, hy2⟩ | ⟨e2, n2, g2⟩
  ·rw [e1, e2]
  ·have := hF.apart _ _ b hx2 g2
   subst this
   exact absurd hx n2
  ·have := hF.apart _ _ b g1 hy2
   subst this
   exact absurd hy n1
  ·exact hF.apart i j b g1 g2
 ·intro r A hr
  obtain ⟨G, g1, g2⟩ := hF.ro r A hr
  refine ⟨G, g1, fun b hb => ?_⟩
  obtain ⟨h1, h2, h3⟩ := g2 b hb
  refine ⟨h1, fun j hj => ?_, h3⟩
  rcases hsub j b hj with ⟨_, i, _, hb⟩ | ⟨_, _, hb⟩ <;> exact h2 _ hb
section
variable {P : Program} {N : Nat} {w0 : World} {M H : Nat → Prop} {E : Env} {Γ R : Ctx}
theorem r_collect (k : Nat) (ks : List Nat) {L : List Asn} {C : Asn} {Rel : Act → World → Prop} (hL : cgets Γ ks = somes L) (hC : ∀ w F, AllIn w F L → C.pred w F) (h : At N w0 M H E ((k, C) :: ckill ks Γ) R Rel) : At N w0 M H E Γ R Rel :=
 h.weak (fun _ h => h) fun w hc => hc.collect k ks hL hC
end
/-- Readable within F. -/
theorem own_in {α : Type} {w : World} {F G : Nat → Prop} {T s : Nat} {enc : α → List Value} {v : Value} {l : List α} (h : (own T s enc v l).pred w G) (hs : ∀ b, G b → F b) : ∃ G' : Nat → Prop, SlOk w G' s enc v l ∧ ∀ b, G' b → F b := ⟨G, own_sl h, hs⟩
theorem nil_in {α : Type} {w : World} {F : Nat → Prop} {s : Nat} {enc : α → List Value} : ∃ G' : Nat → Prop, SlOk w G' s enc (sv nilS) ([] : List α) ∧ ∀ b, G' b → F b := ⟨fun _ => False, ⟨0, Nat.le_refl _, Nat.zero_le _, .inl ⟨rfl, fun _ h => h, rfl⟩⟩, fun _ h => h.elim⟩
theorem any_mem {α : Type} {p : α → Bool} {l : List α} {u : α} (hm : u ∈ l) (h : p u = true) : l.any p = true := List.any_eq_true.2 ⟨u, hm, h⟩
def eQ (p : SV × List ByteArray) : List Value := [sv p.1]
/-- A list of lists of names that can be read. -/
def lvA (v : SV) (l : List (SV × List ByteArray)) : Asn := ⟨fun w F => SlIn' w F 1 eQ (sv v) l ∧ ∀ p ∈ l, SlIn' w F 1 eS (sv p.1) p.2, fun h hs => ⟨h.1.stable hs, fun p hp => (h.2 p hp).stable hs⟩⟩
theorem lv_sl {v : SV} {l : List (SV × List ByteArray)} : ∀ w G, (lvA v l).pred w G → (∀ b, G b → b < w.heap.size) → ∃ G', (sl 1 eQ (sv v) l).pred w G' ∧ ∀ b, G' b → G b := fun w G h _ => h.1
theorem lv_el {v : SV} {l : List (SV × List ByteArray)} {p : SV × List ByteArray} (hp : p ∈ l) : ∀ w G, (lvA v l).pred w G → (∀ b, G b → b < w.heap.size) → ∃ G', (sl 1 eS (sv p.1) p.2).pred w G' ∧ ∀ b, G' b → G b := fun w G h _ => h.2 p hp
abbrev lv8 (a b c d e f g h : SV) : List (SV × List ByteArray) := [(a, [oOr]), (b, [oXor]), (c, [oAnd]), (d, [oEq, oNe]), (e, [oLt, oLe, oGt, oGe]), (f, [oShl, oShr]), (g, [oAdd, oSub]), (h, [oMul, oQuo, oRem])]
theorem lv_all {v a b c d e f g h : SV} (w : World) (F : Nat → Prop) (hh : AllIn w F [own 9 1 eS (sv a) [oOr], own 9 1 eS (sv b) [oXor], own 9 1 eS (sv c) [oAnd], own 9 1 eS (sv d) [oEq, oNe], own 9 1 eS (sv e) [oLt, oLe, oGt, oGe], own 9 1 eS (sv f) [oShl, oShr], own 9 1 eS (sv g) [oAdd, oSub], own 9 1 eS (sv h) [oMul, oQuo, oRem], own 58 1 eQ (sv v) (lv8 a b c d e f g h)]) : (lvA v (lv8 a b c d e f g h)).pred w F := by
 obtain ⟨⟨_, a1, b1⟩, ⟨_, a2, b2⟩, ⟨_, a3, b3⟩, ⟨_, a4, b4⟩, ⟨_, a5, b5⟩, ⟨_, a6, b6⟩, ⟨_, a7, b7⟩, ⟨_, a8, b8⟩, ⟨_, a9, b9⟩, _⟩ := hh
 refine ⟨own_in a9 b9, fun p hp => ?_⟩
 simp only [lv8, List.mem_cons, List.not_mem_nil, or_false] at hp
 rcases hp with rfl | rfl | rfl | rfl | rfl | rfl | rfl | rfl
 ·exact own_in a1 b1
 ·exact own_in a2 b2
 ·exact own_in a3 b3
 ·exact own_in a4 b4
 ·exact own_in a5 b5
 ·exact own_in a6 b6
 ·exact own_in a7 b7
 ·exact own_in a8 b8
theorem okX_6r {k : Int} {nm : ByteArray} {n : Nat} (h : k = 6) : okX k nm n = (((nm == ⟨#[45]⟩) || (nm == ⟨#[126]⟩) || (nm == ⟨#[33]⟩)) && decide ((n : Int) = 1)) := by
 rw [okX_6 h]
 congr 1
 simp only [memB, unL, List.any_cons, List.any_nil, Bool.or_false, ba_eq, Bool.or_assoc]
 rfl
/-- The contract of expr. -/
def HRx (t : Tx) : Prop := Spec Tryz.prog 90 [xV t] [] [txsA t.v t.kids] (X := Unit) (fun _ => True) (fun _ => .bool (rX t)) (fun _ => []) (fun _ => [])
theorem rX_no {t : Tx} (h : okX t.kind t.name t.kids.length = false ∨ (t.kind ≠ 1 ∧ t.n ≠ 0)) : rX t = false := by
 rw [rX_eq]
 rcases h with h | ⟨h1, h2⟩
 ·rw [h]; rfl
 ·rw [decide_eq_false h1, decide_eq_false h2]; simp
theorem rX_kid {t u : Tx} (hu : u ∈ t.kids) (h : rX u = false) : rX t = false := by
 rw [rX_eq, any_mem hu (by rw [h]; rfl)]
 simp
theorem rX_yes {t : Tx} (h : okX t.kind t.name t.kids.length = true) (h2 : t.kind = 1 ∨ t.n = 0) (h3 : t.kids.any (fun u => !rX u) = false) : rX t = true := by
 rw [rX_eq, h, h3]
 rcases h2 with h2 | h2
 ·rw [decide_eq_true h2]; rfl
 ·rw [decide_eq_true h2]; simp
theorem any_take {α : Type} {p : α → Bool} {l : List α} {i : Nat} {u : α} (h : l[i]? = some u) : (l.take (i + 1)).any p = ((l.take i).any p || p u) := by
 rw [take_snoc h]
 simp
set_option maxHeartbeats 1000000 in
set_option maxRecDepth 100000 in
theorem levels8_spec  :
  Spec Tryz.prog 123 [] [] [] (X := SV × List (SV × List ByteArray)) (fun x => x.2.map (fun p => p.2) = rlv) (fun x => sv x.1) (fun x => [lvA x.1 x.2]) (fun _ => []) := by
 refine r_enter Tryz.func123 rfl Tryz.ntmps123 rfl fun w0 M H => ?_
 refine r_seq (r_region (r_p (p_assign rfl) rfl (r_nil (r_seq (r_region ?_)))))
 refine r_bslice1 eS oOr Tryz.underlying58 t9 rfl (by decide) (by decide) rfl rfl rfl rfl fun v1 => ?_
 refine r_bslice1 eS oXor Tryz.underlying58 t9 rfl (by decide) (by decide) rfl rfl rfl rfl fun v2 => ?_
 refine r_bslice1 eS oAnd Tryz.underlying58 t9 rfl (by decide) (by decide) rfl rfl rfl rfl fun v3 => ?_
 refine r_bslice eS [oEq, oNe] (parts := [(0, .const (.string (ByteArray.mk #[61, 61]))), (1, .const (.string (ByteArray.mk #[33, 61])))]) Tryz.underlying58 t9 rfl (by decide) (by intro _; rfl) rfl (by decide) (by decide) rfl rfl rfl rfl fun v4 => ?_
 refine r_bslice eS [oLt, oLe, oGt, oGe] (parts := [(0, .const (.string (ByteArray.mk #[60]))), (1, .const (.string (ByteArray.mk #[60, 61]))), (2, .const (.string (ByteArray.mk #[62]))), (3, .const (.string (ByteArray.mk #[62, 61])))]) Tryz.underlying58 t9 rfl (by decide) (by intro _; rfl) rfl (by decide) (by decide) rfl rfl rfl rfl fun v5 => ?_
 refine r_bslice eS [oShl, oShr] (parts := [(0, .const (.string (ByteArray.mk #[60, 60]))), (1, .const (.string (ByteArray.mk #[62, 62])))]) Tryz.underlying58 t9 rfl (by decide) (by intro _; rfl) rfl (by decide) (by decide) rfl rfl rfl rfl fun v6 => ?_
 refine r_bslice eS [oAdd, oSub] (parts := [(0, .const (.string (ByteArray.mk #[43]))), (1, .const (.string (ByteArray.mk #[45])))]) Tryz.underlying58 t9 rfl (by decide) (by intro _; rfl) rfl (by decide) (by decide) rfl rfl rfl rfl fun v7 => ?_
 refine r_bslice eS [oMul, oQuo, oRem] (parts := [(0, .const (.string (ByteArray.mk #[42]))), (1, .const (.string (ByteArray.mk #[47]))), (2, .const (.string (ByteArray.mk #[37])))]) Tryz.underlying58 t9 rfl (by decide) (by intro _; rfl) rfl (by decide) (by decide) rfl rfl rfl rfl fun v8 => ?_
 refine r_bslice eQ (lv8 v1 v2 v3 v4 v5 v6 v7 v8) (parts := [(0, .tmp 1), (1, .tmp 2), (2, .tmp 3), (3, .tmp 4), (4, .tmp 5), (5, .tmp 6), (6, .tmp 7), (7, .tmp 8)]) Tryz.underlying164 t58 rfl (by decide) (by intro _; rfl) rfl (by decide) (by decide) rfl rfl rfl rfl fun v9 => ?_
 refine r_p (p_assign rfl) rfl (r_nil (r_cret ?_))
 refine r_collect 60 [1, 2, 3, 4, 5, 6, 7, 8, 9] (C := lvA v9 (lv8 v1 v2 v3 v4 v5 v6 v7 v8)) rfl lv_all ?_
 refine r_ret (v9, lv8 v1 v2 v3 v4 v5 v6 v7 v8) rfl rfl (rs1 (rv_tmp rfl)) rfl [60] [] rfl rfl rfl
set_option maxHeartbeats 1000000 in
set_option maxRecDepth 100000 in
theorem rank_spec (s : ByteArray) :
  Spec Tryz.prog 105 [.string s] [] [] (X := Int) (fun r => decide (r ≥ 0) = isBin s) (fun r => .int .i64 r) (fun _ => []) (fun _ => []) := by
 refine r_enter Tryz.func105 rfl Tryz.ntmps105 rfl fun w0 M H => ?_
 refine r_seq (r_region (r_p (p_assign rfl) rfl (r_nil (r_seq (r_region ?_)))))
 refine r_callN (xs := []) levels8_spec cb123 [] [] [60] rfl rfl rfl rfl rfl rfl rfl rfl (fun _ _ => rfl) (fun _ _ _ => rfl) rfl (fun ⟨v6, ls⟩ hls => ?_)
 dsimp only at hls ⊢
 have hll : ls.length = 8 := by have h := congrArg List.length hls; rw [List.length_map] at h; exact h
 have hbin : isBin s = ls.any fun p => memB s p.2 := by rw [← rlv_bin, ← hls, List.any_map]; rfl
 refine r_freeze 60 20 rfl (fun _ _ h => h) ?_
 refine r_more 20 21 rfl lv_sl ?_
 refine r_p (p_assign rfl) rfl (r_nil (r_seq (r_seq (r_region (r_p (p_assign rfl) rfl (r_nil (r_block ?_)))))))
 refine r_loop (X := Nat) (fun i => i ≤ ls.length ∧ ((ls.take i).any fun p => memB s p.2) = false) (fun i => [(0, .string s), (3, sv v6), (4, .int .i64 (i : Int))]) (fun i => []) (fun i => [(20, lvA v6 ls), (21, sl 1 eQ (sv v6) ls)]) (fun i => ls.length - i) 0 ⟨Nat.zero_le _, rfl⟩ rfl rfl rfl (fun i hx0 => ?_)
 obtain ⟨n1, n2⟩ := hx0
 refine r_seq (r_seq (r_region (r_p (p_move rfl) rfl (r_p (p_move rfl) rfl ?_))))
 refine r_p (p_len_sl Tryz.underlying164 rfl (hs_sl (k := 21) rfl)) rfl ?_
 refine r_p (p_bin rfl rfl b_lt) rfl ?_
 refine r_nil ?_
 refine r_cond rfl (fun h1 => ?_) (fun h1 => ?_)
 ·(try simp only [decide_eq_true_eq, decide_eq_false_iff_not, Bool.and_eq_true, Bool.or_eq_true, Bool.and_eq_false_iff, Bool.or_eq_false_iff, Bool.not_eq_true, Bool.not_eq_false, Bool.not_eq_true', Bool.not_eq_false', Bool.not_not, bne_iff_ne, beq_iff_eq] at h1)
  have hi : i < ls.length := by omega
  obtain ⟨p, hx⟩ : ∃ k, ls[i]? = some k := ⟨_, List.getElem?_eq_getElem hi⟩
  have hpm := List.mem_of_getElem? hx
  have hpl : p.2.length ≤ 1000000 := by
   have h : p.2 ∈ rlv := by rw [← hls]; exact List.mem_map_of_mem hpm
   simp only [rlv, List.mem_cons, List.not_mem_nil, or_false] at h
   rcases h with h | h | h | h | h | h | h | h <;> rw [h] <;> decide
  refine r_skip (r_seq (r_block (r_seq (r_region (r_p (p_move rfl) rfl (r_p (p_move rfl) rfl (r_p (p_move rfl) rfl ?_)))))))
  refine r_p (p_idx_sl (j := i) Tryz.underlying164 t58 rfl rfl (hs_sl (k := 21) rfl) (by first | rfl | omega) (by first | omega | (simp; done) | (simp; omega))) rfl ?_
  refine r_p (p_load1 t58 rfl rfl (g_el' (hs_sl (k := 21) rfl) (by intro _; rfl) hx (by rfl))) rfl ?_
  refine r_more 20 22 rfl (lv_el hpm) ?_
  refine r_callN (xs := [.tmp 13, .tmp 17]) (among_spec s p.1 p.2 hpl) cb39 [] [(false, 22)] [] rfl rfl rfl rfl rfl rfl rfl rfl (fun _ _ => rfl) (fun _ _ _ => rfl) rfl (fun _ _ => ?_)
  refine r_p (p_assign rfl) rfl (r_nil (r_seq (r_region (r_p (p_move rfl) rfl (r_nil ?_)))))
  refine r_cond rfl (fun h2 => ?_) (fun h2 => ?_)
  ·have hct : memB s p.2 = true := h2
   refine r_seq (r_region (r_p (p_move rfl) rfl (r_p (p_assign rfl) rfl (r_nil (r_cret ?_)))))
   refine r_ret (i : Int) (by rw [hbin, any_mem (p := fun p => memB s p.2) hpm hct]; exact decide_eq_true (by omega)) rfl (rs1 (rv_tmp rfl)) rfl [] [] rfl rfl rfl
  ·have hcf : memB s p.2 = false := h2
   refine r_skip (r_region (r_p (p_move rfl) rfl ?_))
   refine r_p (p_bin rfl rfl (b_add (by first | exact w_i64 (by omega) (by omega) | rfl))) rfl ?_
   refine r_p (p_assign rfl) rfl (r_nil ?_)
   refine r_here (i + 1) ⟨⟨by omega, by rw [any_take hx, n2, hcf]; rfl⟩, by omega⟩ rfl rfl rfl
 ·(try simp only [decide_eq_true_eq, decide_eq_false_iff_not, Bool.and_eq_true, Bool.or_eq_true, Bool.and_eq_false_iff, Bool.or_eq_false_iff, Bool.not_eq_true, Bool.not_eq_false, Bool.not_eq_true', Bool.not_eq_false', Bool.not_not, bne_iff_ne, beq_iff_eq] at h1)
  have hi : i = ls.length := by omega
  subst hi
  rw [List.take_length] at n2
  refine r_exit (r_seq (r_region (r_p (p_assign rfl) rfl (r_nil (r_cret ?_)))))
  refine r_ret (-1) (by rw [hbin, n2]; rfl) rfl (rs1 (rv_tmp rfl)) rfl [] [] rfl rfl rfl
set_option maxHeartbeats 4000000 in
set_option maxRecDepth 100000 in
theorem rx8_step (t : Tx) (hkl : t.kids.length ≤ 1000000) (ih : ∀ u ∈ t.kids, HRx u) :
  Spec Tryz.prog 90 [xV t] [] [txsA t.v t.kids] (X := Unit) (fun _ => True) (fun _ => .bool (rX t)) (fun _ => []) (fun _ => []) := by
 refine r_enter Tryz.func90 rfl Tryz.ntmps90 rfl fun w0 M H => ?_
 refine r_more 0 1 rfl txs_sl ?_
 refine r_seq (r_region ?_)
 refine r_boxA rfl rfl fun b1 => ?_
 refine r_p (p_assign rfl) rfl (r_nil (r_seq (r_region ?_)))
 refine r_p (p_field0 fo48_2 rfl) rfl ?_
 refine r_p (p_load1 t9 rfl rfl (g_row1 (k := 1) rfl rfl)) rfl ?_
 refine r_callN (xs := [.tmp 9]) (isname_spec t.name) cb51 [] [] [] rfl rfl rfl rfl rfl rfl rfl rfl (fun _ _ => rfl) (fun _ _ _ => rfl) rfl (fun _ _ => ?_)
 refine r_p (p_assign rfl) rfl (r_nil (r_seq (r_region ?_)))
 refine r_p (p_field0 fo48_3 rfl) rfl ?_
 refine r_p (p_load1 t46 rfl rfl (g_row1 (k := 1) rfl rfl)) rfl ?_
 refine r_p (p_len_sl Tryz.underlying46 rfl (hs_sl (k := 1) rfl)) rfl ?_
 refine r_p (p_assign rfl) rfl (r_nil (r_seq (r_region (r_p (p_assign rfl) rfl (r_nil ?_)))))
 refine r_seq_cut (X := Unit) (fun _ => True) (fun _ => [(1, .pointer (some ⟨b1, 0, none⟩)), (4, .int .i64 (t.kids.length : Int)), (5, .bool (okX t.kind t.name t.kids.length))]) (fun _ => [(1, row b1 48 (eTx t))]) (fun _ => [(0, txsA t.v t.kids), (1, sl 4 eTx (sv t.v) t.kids)]) ?_ (fun _ _ => ?_)
 ·refine r_seq (r_region ?_)
  refine r_p (p_field0 fo48_0 rfl) rfl ?_
  refine r_p (p_load1 t3 rfl rfl (g_row1 (k := 1) rfl rfl)) rfl ?_
  refine r_nil (r_block (r_seq (r_region ?_)))
  refine r_p (p_bin rfl rfl b_eq) rfl ?_
  refine r_p (p_assign rfl) rfl (r_nil ?_)
  refine r_cond rfl (fun h1 => ?_) (fun h1 => ?_)
  ·have q1 : t.kind = 1 := of_decide_eq_true h1
   refine r_region ?_
   refine r_p (p_field0 fo48_2 rfl) rfl ?_
   refine r_p (p_load1 t9 rfl rfl (g_row1 (k := 1) rfl rfl)) rfl ?_
   refine r_p (p_bin rfl rfl b_seq) rfl ?_
   refine r_p (p_move rfl) rfl ?_
   refine r_gp [] rfl rfl trivial (fun hg2 => p_move rfl) rfl ?_
   refine r_gp [(22, _)] rfl rfl ⟨rfl, trivial⟩ (fun hg3 => p_bin rfl rfl b_eq) rfl ?_
   refine r_p (p_pick rfl rfl rfl (by first | exact pick_and | exact pick_or |  rfl)) rfl ?_
   refine r_p (p_assign rfl) rfl (r_nil ?_)
   refine r_here () trivial (by rw [okX_1 (.inl q1)]; rfl) rfl rfl
  ·have q1 : ¬ t.kind = 1 := of_decide_eq_false h1
   refine r_seq (r_region ?_)
   refine r_p (p_bin rfl rfl b_eq) rfl ?_
   refine r_p (p_assign rfl) rfl (r_nil ?_)
   refine r_cond rfl (fun h4 => ?_) (fun h4 => ?_)
   ·have q2 : t.kind = 2 := of_decide_eq_true h4
    refine r_region (r_p (p_move rfl) rfl (r_p (p_move rfl) rfl ?_))
    refine r_gp [] rfl rfl trivial (fun hg5 => p_move rfl) rfl ?_
    refine r_gp [(29, _)] rfl rfl ⟨rfl, trivial⟩ (fun hg6 => p_bin rfl rfl b_eq) rfl ?_
    refine r_p (p_pick rfl rfl rfl (by first | exact pick_and | exact pick_or |  rfl)) rfl ?_
    refine r_p (p_assign rfl) rfl (r_nil ?_)
    refine r_here () trivial (by rw [okX_2 q2]; rfl) rfl rfl
   ·have q2 : ¬ t.kind = 2 := of_decide_eq_false h4
    refine r_seq (r_region ?_)
    refine r_p (p_bin rfl rfl b_eq) rfl ?_
    refine r_p (p_assign rfl) rfl (r_nil ?_)
    refine r_cond rfl (fun h7 => ?_) (fun h7 => ?_)
    ·have q3 : t.kind = 3 := of_decide_eq_true h7
     refine r_region (r_p (p_move rfl) rfl (r_p (p_assign rfl) rfl (r_nil ?_)))
     refine r_here () trivial (by rw [okX_3 q3]; rfl) rfl rfl
    ·have q3 : ¬ t.kind = 3 := of_decide_eq_false h7
     refine r_seq (r_region ?_)
     refine r_p (p_bin rfl rfl b_eq) rfl ?_
     refine r_p (p_assign rfl) rfl (r_nil ?_)
     refine r_cond rfl (fun h8 => ?_) (fun h8 => ?_)
     ·have q4 : t.kind = 4 := of_decide_eq_true h8
      refine r_region ?_
      refine r_p (p_field0 fo48_2 rfl) rfl ?_
      refine r_p (p_load1 t9 rfl rfl (g_row1 (k := 1) rfl rfl)) rfl ?_
      refine r_p (p_bin rfl rfl b_seq) rfl ?_
      refine r_p (p_move rfl) rfl ?_
      refine r_gp [] rfl rfl trivial (fun hg9 => p_move rfl) rfl ?_
      refine r_gp [(41, _)] rfl rfl ⟨rfl, trivial⟩ (fun hg10 => p_bin rfl rfl b_eq) rfl ?_
      refine r_p (p_pick rfl rfl rfl (by first | exact pick_and | exact pick_or |  rfl)) rfl ?_
      refine r_p (p_assign rfl) rfl (r_nil ?_)
      refine r_here () trivial (by rw [okX_4 q4]; rfl) rfl rfl
     ·have q4 : ¬ t.kind = 4 := of_decide_eq_false h8
      refine r_seq (r_region ?_)
      refine r_p (p_bin rfl rfl b_eq) rfl ?_
      refine r_p (p_assign rfl) rfl (r_nil ?_)
      refine r_cond rfl (fun h11 => ?_) (fun h11 => ?_)
      ·have q5 : t.kind = 5 := of_decide_eq_true h11
       refine r_region ?_
       refine r_p (p_field0 fo48_2 rfl) rfl ?_
       refine r_p (p_load1 t9 rfl rfl (g_row1 (k := 1) rfl rfl)) rfl ?_
       refine r_p (p_bin rfl rfl b_seq) rfl ?_
       refine r_p (p_move rfl) rfl ?_
       refine r_gp [] rfl rfl trivial (fun hg12 => p_move rfl) rfl ?_
       refine r_gp [(50, _)] rfl rfl ⟨rfl, trivial⟩ (fun hg13 => p_bin rfl rfl b_eq) rfl ?_
       refine r_p (p_pick rfl rfl rfl (by first | exact pick_and | exact pick_or |  rfl)) rfl ?_
       refine r_p (p_assign rfl) rfl (r_nil ?_)
       refine r_here () trivial (by rw [okX_1 (.inr q5)]; rfl) rfl rfl
      ·have q5 : ¬ t.kind = 5 := of_decide_eq_false h11
       refine r_seq (r_region ?_)
       refine r_p (p_bin rfl rfl b_eq) rfl ?_
       refine r_p (p_assign rfl) rfl (r_nil ?_)
       refine r_cond rfl (fun h14 => ?_) (fun h14 => ?_)
       ·have q6 : t.kind = 6 := of_decide_eq_true h14
        refine r_region ?_
        refine r_p (p_field0 fo48_2 rfl) rfl ?_
        refine r_p (p_load1 t9 rfl rfl (g_row1 (k := 1) rfl rfl)) rfl ?_
        refine r_p (p_bin rfl rfl b_seq) rfl ?_
        refine r_p (p_move rfl) rfl ?_
        refine r_gp [] rfl rfl trivial (fun hg15 => p_field0 fo48_2 rfl) rfl ?_
        refine r_gp [(59, _)] rfl rfl ⟨rfl, trivial⟩ (fun hg16 => p_load1 t9 rfl rfl (g_row1 (k := 1) rfl rfl)) rfl ?_
        refine r_gp [(59, _), (60, _)] rfl rfl ⟨rfl, rfl, trivial⟩ (fun hg17 => p_bin rfl rfl b_seq) rfl ?_
        refine r_p (p_pick rfl rfl rfl (by first | exact pick_and | exact pick_or |  rfl)) rfl ?_
        refine r_p (p_move rfl) rfl ?_
        refine r_gp [] rfl rfl trivial (fun hg18 => p_field0 fo48_2 rfl) rfl ?_
        refine r_gp [(64, _)] rfl rfl ⟨rfl, trivial⟩ (fun hg19 => p_load1 t9 rfl rfl (g_row1 (k := 1) rfl rfl)) rfl ?_
        refine r_gp [(64, _), (65, _)] rfl rfl ⟨rfl, rfl, trivial⟩ (fun hg20 => p_bin rfl rfl b_seq) rfl ?_
        refine r_p (p_pick rfl rfl rfl (by first | exact pick_and | exact pick_or |  rfl)) rfl ?_
        refine r_p (p_move rfl) rfl ?_
        refine r_gp [] rfl rfl trivial (fun hg21 => p_move rfl) rfl ?_
        refine r_gp [(69, _)] rfl rfl ⟨rfl, trivial⟩ (fun hg22 => p_bin rfl rfl b_eq) rfl ?_
        refine r_p (p_pick rfl rfl rfl (by first | exact pick_and | exact pick_or |  rfl)) rfl ?_
        refine r_p (p_assign rfl) rfl (r_nil ?_)
        refine r_here () trivial (by rw [okX_6r q6]; rfl) rfl rfl
       ·have q6 : ¬ t.kind = 6 := of_decide_eq_false h14
        refine r_seq (r_region ?_)
        refine r_p (p_bin rfl rfl b_eq) rfl ?_
        refine r_p (p_assign rfl) rfl (r_nil ?_)
        refine r_cond rfl (fun h23 => ?_) (fun h23 => ?_)
        ·have q7 : t.kind = 7 := of_decide_eq_true h23
         refine r_region ?_
         refine r_p (p_field0 fo48_2 rfl) rfl ?_
         refine r_p (p_load1 t9 rfl rfl (g_row1 (k := 1) rfl rfl)) rfl ?_
         refine r_callN (xs := [.tmp 75]) (rank_spec t.name) cb105 [] [] [] rfl rfl rfl rfl rfl rfl rfl rfl (fun _ _ => rfl) (fun _ _ _ => rfl) rfl (fun r hr => ?_)
         refine r_p (p_bin rfl rfl b_ge) rfl ?_
         refine r_p (p_move rfl) rfl ?_
         refine r_gp [] rfl rfl trivial (fun hg24 => p_move rfl) rfl ?_
         refine r_gp [(79, _)] rfl rfl ⟨rfl, trivial⟩ (fun hg25 => p_bin rfl rfl b_eq) rfl ?_
         refine r_p (p_pick rfl rfl rfl (by first | exact pick_and | exact pick_or |  rfl)) rfl ?_
         refine r_p (p_assign rfl) rfl (r_nil ?_)
         refine r_here () trivial (by rw [okX_7 q7, ← hr]; rfl) rfl rfl
        ·have q7 : ¬ t.kind = 7 := of_decide_eq_false h23
         refine r_skip ?_
         refine r_here () trivial (by rw [okX_0 q1 q5 q2 q3 q4 q6 q7]; rfl) rfl rfl
 ·refine r_seq (r_seq (r_region (r_p (p_move rfl) rfl ?_)))
  refine r_p (p_not rfl) rfl ?_
  refine r_p (p_move rfl) rfl ?_
  refine r_gp [] rfl rfl trivial (fun hg26 => p_field0 fo48_0 rfl) rfl ?_
  refine r_gp [(85, _)] rfl rfl ⟨rfl, trivial⟩ (fun hg27 => p_load1 t3 rfl rfl (g_row1 (k := 1) rfl rfl)) rfl ?_
  refine r_gp [(85, _), (86, _)] rfl rfl ⟨rfl, rfl, trivial⟩ (fun hg28 => p_bin rfl rfl b_ne) rfl ?_
  refine r_gp [(85, _), (86, _), (87, _)] rfl rfl ⟨rfl, rfl, rfl, trivial⟩ (fun hg29 => p_move rfl) rfl ?_
  refine r_gp2 [] [(85, _), (86, _), (87, _), (88, _)] rfl rfl trivial ⟨rfl, rfl, rfl, rfl, trivial⟩ (fun hg30 hg30' => p_field0 fo48_1 rfl) rfl ?_
  refine r_gp2 [(89, _)] [(85, _), (86, _), (87, _), (88, _)] rfl rfl ⟨rfl, trivial⟩ ⟨rfl, rfl, rfl, rfl, trivial⟩ (fun hg31 hg31' => p_load1 t36 rfl rfl (g_row1 (k := 1) rfl rfl)) rfl ?_
  refine r_gp2 [(89, _), (90, _)] [(85, _), (86, _), (87, _), (88, _)] rfl rfl ⟨rfl, rfl, trivial⟩ ⟨rfl, rfl, rfl, rfl, trivial⟩ (fun hg32 hg32' => p_bin rfl rfl b_ne) rfl ?_
  refine r_gp [(85, _), (86, _), (87, _), (88, _)] rfl rfl ⟨rfl, rfl, rfl, rfl, trivial⟩ (fun hg33 => p_pick rfl rfl rfl (by first | exact pick_and | exact pick_or | exact pick_and2 hg33 | exact pick_or2 hg33 | rfl)) rfl ?_
  refine r_p (p_pick rfl rfl rfl (by first | exact pick_and | exact pick_or |  rfl)) rfl ?_
  refine r_nil ?_
  refine r_cond rfl (fun h34 => ?_) (fun h34 => ?_)
  ·(try simp only [decide_eq_true_eq, decide_eq_false_iff_not, Bool.and_eq_true, Bool.or_eq_true, Bool.and_eq_false_iff, Bool.or_eq_false_iff, Bool.not_eq_true, Bool.not_eq_false, Bool.not_eq_true', Bool.not_eq_false', Bool.not_not, bne_iff_ne, beq_iff_eq] at h34)
   have qc := h34
   refine r_seq (r_region (r_p (p_assign rfl) rfl (r_nil (r_cret ?_))))
   refine r_ret () trivial rfl (rs1 (rv_tmp rfl)) (congrArg Value.bool (rX_no qc).symm) [] [] rfl rfl rfl
  ·(try simp only [decide_eq_true_eq, decide_eq_false_iff_not, Bool.and_eq_true, Bool.or_eq_true, Bool.and_eq_false_iff, Bool.or_eq_false_iff, Bool.not_eq_true, Bool.not_eq_false, Bool.not_eq_true', Bool.not_eq_false', Bool.not_not, bne_iff_ne, beq_iff_eq] at h34)
   have qc := h34
   refine r_skip (r_seq (r_seq (r_region (r_p (p_assign rfl) rfl (r_nil (r_block ?_))))))
   refine r_loop (X := Nat) (fun i => i ≤ t.kids.length ∧ ((t.kids.take i).any fun u => !rX u) = false) (fun i => [(1, .pointer (some ⟨b1, 0, none⟩)), (4, .int .i64 (t.kids.length : Int)), (6, .int .i64 (i : Int))]) (fun i => [(1, row b1 48 (eTx t))]) (fun i => [(0, txsA t.v t.kids), (1, sl 4 eTx (sv t.v) t.kids)]) (fun i => t.kids.length - i) 0 ⟨Nat.zero_le _, rfl⟩ rfl rfl rfl (fun i hx0 => ?_)
   obtain ⟨n1, n2⟩ := hx0
   refine r_seq (r_seq (r_region (r_p (p_move rfl) rfl (r_p (p_move rfl) rfl ?_))))
   refine r_p (p_bin rfl rfl b_lt) rfl ?_
   refine r_nil ?_
   refine r_cond rfl (fun h35 => ?_) (fun h35 => ?_)
   ·(try simp only [decide_eq_true_eq, decide_eq_false_iff_not, Bool.and_eq_true, Bool.or_eq_true, Bool.and_eq_false_iff, Bool.or_eq_false_iff, Bool.not_eq_true, Bool.not_eq_false, Bool.not_eq_true', Bool.not_eq_false', Bool.not_not, bne_iff_ne, beq_iff_eq] at h35)
    have hi : i < t.kids.length := by omega
    obtain ⟨u, hu⟩ : ∃ u, t.kids[i]? = some u := ⟨_, List.getElem?_eq_getElem hi⟩
    have hum := List.mem_of_getElem? hu
    refine r_skip (r_seq (r_block (r_seq (r_region ?_))))
    refine r_p (p_field0 fo48_3 rfl) rfl ?_
    refine r_p (p_load1 t46 rfl rfl (g_row1 (k := 1) rfl rfl)) rfl ?_
    refine r_p (p_move rfl) rfl ?_
    refine r_p (p_idx_sl (j := i) Tryz.underlying46 t48 rfl rfl (hs_sl (k := 1) rfl) (by first | rfl | omega) (by first | omega | (simp; done) | (simp; omega))) rfl ?_
    refine r_p (p_loadA t48 rfl rfl rfl (g_el' (hs_sl (k := 1) rfl) (by intro _; rfl) hu (by rfl))) rfl ?_
    refine r_more 0 7 rfl (txs_kid hum) ?_
    refine r_callN (xs := [.tmp 103]) (ih u hum) cb90 [] [(false, 7)] [] rfl rfl rfl rfl rfl rfl rfl rfl (fun _ _ => rfl) (fun _ _ _ => rfl) rfl (fun _ _ => ?_)
    refine r_p (p_assign rfl) rfl (r_nil (r_seq (r_region (r_p (p_move rfl) rfl ?_))))
    refine r_p (p_not rfl) rfl ?_
    refine r_nil ?_
    refine r_cond rfl (fun h36 => ?_) (fun h36 => ?_)
    ·have hct : rX u = false := by simpa using h36
     refine r_seq (r_region (r_p (p_assign rfl) rfl (r_nil (r_cret ?_))))
     refine r_ret () trivial rfl (rs1 (rv_tmp rfl)) (congrArg Value.bool (rX_kid hum hct).symm) [] [] rfl rfl rfl
    ·have hcf : rX u = true := by simpa using h36
     refine r_skip (r_region (r_p (p_move rfl) rfl ?_))
     refine r_p (p_bin rfl rfl (b_add (by first | exact w_i64 (by omega) (by omega) | rfl))) rfl ?_
     refine r_p (p_assign rfl) rfl (r_nil ?_)
     refine r_here (i + 1) ⟨⟨by omega, by rw [any_take hu, n2, hcf]; rfl⟩, by omega⟩ rfl rfl rfl
   ·(try simp only [decide_eq_true_eq, decide_eq_false_iff_not, Bool.and_eq_true, Bool.or_eq_true, Bool.and_eq_false_iff, Bool.or_eq_false_iff, Bool.not_eq_true, Bool.not_eq_false, Bool.not_eq_true', Bool.not_eq_false', Bool.not_not, bne_iff_ne, beq_iff_eq] at h35)
    have hi : i = t.kids.length := by omega
    subst hi
    rw [List.take_length] at n2
    refine r_exit (r_seq (r_region (r_p (p_assign rfl) rfl (r_nil (r_cret ?_)))))
    refine r_ret () trivial rfl (rs1 (rv_tmp rfl)) (congrArg Value.bool (rX_yes qc.1 qc.2 n2).symm) [] [] rfl rfl rfl
theorem rx8_all : ∀ (n : Nat) (t : Tx), SizeOf.sizeOf t < n → GX t → HRx t
 | 0, _, h, _ => absurd h (Nat.not_lt_zero _)
 | n + 1, t, h, ht => rx8_step t (GX_len ht) fun u hu => rx8_all n u (by have := tx_lt hu; omega) ((GX_kids ht).mem u hu)
theorem rx8_spec (t : Tx) (ht : GX t) : HRx t := rx8_all _ t (Nat.lt_succ_self _) ht
/-- The contract of stmts. -/
def HRy (v : SV) (l : List Ty) : Prop := Spec Tryz.prog 52 [sv v] [] [tysA v l] (X := Unit) (fun _ => True) (fun _ => .bool (l.all rY)) (fun _ => []) (fun _ => [])
theorem all_take {α : Type} {p : α → Bool} {l : List α} {i : Nat} {u : α} (h : l[i]? = some u) : (l.take (i + 1)).all p = ((l.take i).all p && p u) := by
 rw [take_snoc h]
 simp
theorem all_no {α : Type} {p : α → Bool} {l : List α} {u : α} (hm : u ∈ l) (h : p u = false) : l.all p = false := by
 rw [Bool.eq_false_iff]
 intro h2
 rw [List.all_eq_true] at h2
 rw [h2 u hm] at h
 cases h
theorem rY_def (t : Ty) : rY t = (okY t.kind t.name t.es.length t.body.length t.els.length && t.es.all rX && t.body.all rY && t.els.all rY) := by
 cases t
 rw [rY, rXs_all, rYs_all, rYs_all]
 rfl
theorem rY_k {t : Ty} (h : t.kind < 1 ∨ t.kind > 8) : rY t = false := by
 rw [rY_def]
 unfold okY
 rcases h with h | h
 ·rw [decide_eq_false (show ¬ t.kind ≥ 1 by omega)]; rfl
 ·rw [decide_eq_false (show ¬ t.kind ≤ 8 by omega)]; simp
theorem rY_n {t : Ty} (h : (((decide (t.kind = 1) || decide (t.kind = 2)) && !identB t.name) || (!(decide (t.kind = 1) || decide (t.kind = 2)) && !(t.name == ⟨#[]⟩)) || !decide ((t.es.length : Int) = (if t.kind = 3 then 2 else 1))) = true) : rY t = false := by
 rw [rY_def]
 unfold okY
 by_cases hn : t.es.length = if t.kind = 3 then 2 else 1
 ·have hn2 : (t.es.length : Int) = if t.kind = 3 then 2 else 1 := by
   rw [hn]; split <;> rfl
  rw [decide_eq_true hn2] at h
  by_cases hk : t.kind = 1 ∨ t.kind = 2
  ·have hk2 : (decide (t.kind = 1) || decide (t.kind = 2)) = true := by simpa using hk
   rw [hk2] at h
   rw [if_pos hk]
   have h3 : identB t.name = false := by simpa using h
   rw [h3]
   simp
  ·have hk2 : (decide (t.kind = 1) || decide (t.kind = 2)) = false := by simpa using hk
   rw [hk2] at h
   rw [if_neg hk]
   have h3 : (t.name == ⟨#[]⟩) = false := by simpa using h
   rw [ba_eq] at h3
   rw [show decide (t.name = oNil) = false from h3]
   simp
 ·rw [decide_eq_false hn]
  simp
theorem rY_b {t : Ty} (h : (!decide (t.kind = 4) && (decide ((t.els.length : Int) > 0) || (!decide (t.kind = 5) && decide ((t.body.length : Int) > 0)))) = true) : rY t = false := by
 rw [rY_def]
 unfold okY
 have h4 : t.kind ≠ 4 := by
  intro h4
  rw [decide_eq_true h4] at h
  simp at h
 rw [decide_eq_false h4]
 by_cases h5 : t.els.length = 0
 ·rw [h5] at h
  by_cases h6 : t.kind = 5
  ·rw [decide_eq_true h6] at h; simp at h
  ·by_cases h7 : t.body.length = 0
   ·rw [h7] at h; simp at h
   ·rw [decide_eq_false h6, decide_eq_false h7]; simp
 ·rw [decide_eq_false h5]; simp
theorem rY_e {t : Ty} {u : Tx} (hm : u ∈ t.es) (h : rX u = false) : rY t = false := by
 rw [rY_def, all_no hm h]
 simp
theorem rY_s {t : Ty} (h : t.body.all rY = false ∨ t.els.all rY = false) : rY t = false := by
 rw [rY_def]
 rcases h with h | h <;> rw [h] <;> simp
theorem rY_ok {t : Ty} (h1 : ¬ t.kind < 1 ∧ ¬ t.kind > 8) (h2 : (((decide (t.kind = 1) || decide (t.kind = 2)) && !identB t.name) || (!(decide (t.kind = 1) || decide (t.kind = 2)) && !(t.name == ⟨#[]⟩)) || !decide ((t.es.length : Int) = (if t.kind = 3 then 2 else 1))) = false)
  (h3 : (!decide (t.kind = 4) && (decide ((t.els.length : Int) > 0) || (!decide (t.kind = 5) && decide ((t.body.length : Int) > 0)))) = false) (h4 : t.es.all rX = true) (h5 : t.body.all rY = true ∧ t.els.all rY = true) : rY t = true := by
 rw [rY_def, h4, h5.1, h5.2]
 unfold okY
 rw [decide_eq_true (show t.kind ≥ 1 by omega), decide_eq_true (show t.kind ≤ 8 by omega)]
 simp only [Bool.or_eq_false_iff] at h2
 have hn : t.es.length = if t.kind = 3 then 2 else 1 := by
  have h := h2.2
  simp only [Bool.not_eq_false', decide_eq_true_eq] at h
  split at h <;> rename_i h6
  ·rw [if_pos h6]; omega
  ·rw [if_neg h6]; omega
 rw [decide_eq_true hn]
 have hnm : (if t.kind = 1 ∨ t.kind = 2 then identB t.name else decide (t.name = oNil)) = true := by
  by_cases hk : t.kind = 1 ∨ t.kind = 2
  ·have hk2 : (decide (t.kind = 1) || decide (t.kind = 2)) = true := by simpa using hk
   have h := h2.1.1
   rw [hk2] at h
   rw [if_pos hk]
   simpa using h
  ·have hk2 : (decide (t.kind = 1) || decide (t.kind = 2)) = false := by simpa using hk
   have h := h2.1.2
   rw [hk2] at h
   rw [if_neg hk]
   have h7 : (t.name == ⟨#[]⟩) = true := by simpa using h
   rw [ba_eq] at h7
   exact h7
 rw [hnm]
 by_cases h8 : t.kind = 4
 ·rw [decide_eq_true h8]; rfl
 ·rw [decide_eq_false h8] at h3
  simp only [Bool.not_false, Bool.true_and, Bool.or_eq_false_iff] at h3
  have h9 : t.els.length = 0 := by
   have h := of_decide_eq_false h3.1
   omega
  rw [decide_eq_true h9]
  by_cases h10 : t.kind = 5
  ·rw [decide_eq_true h10]; simp
  ·have h := h3.2
   rw [decide_eq_false h10] at h
   have h11 : t.body.length = 0 := by
    have h := of_decide_eq_false (show decide ((t.body.length : Int) > 0) = false by simpa using h)
    omega
   rw [decide_eq_true h11]; simp
set_option maxHeartbeats 8000000 in
set_option maxRecDepth 100000 in
theorem ry8_step (v : SV) (l : List Ty) (hl : l.length ≤ 1000000) (hg : GYs l) (ih : ∀ u ∈ l, HRy u.vb u.body ∧ HRy u.vl u.els) :
  Spec Tryz.prog 52 [sv v] [] [tysA v l] (X := Unit) (fun _ => True) (fun _ => .bool (l.all rY)) (fun _ => []) (fun _ => []) := by
 refine r_enter Tryz.func52 rfl Tryz.ntmps52 rfl fun w0 M H => ?_
 refine r_more 0 1 rfl tys_sl ?_
 refine r_seq (r_region (r_p (p_assign rfl) rfl (r_nil (r_seq (r_seq (r_region (r_p (p_assign rfl) rfl (r_nil (r_block ?_)))))))))
 refine r_loop (X := Nat) (fun i => i ≤ l.length ∧ (l.take i).all rY = true) (fun i => [(0, sv v), (3, .int .i64 (i : Int))]) (fun i => []) (fun i => [(0, tysA v l), (1, sl 5 eTy (sv v) l)]) (fun i => l.length - i) 0 ⟨Nat.zero_le _, rfl⟩ rfl rfl rfl (fun i hx0 => ?_)
 obtain ⟨n1, n2⟩ := hx0
 refine r_seq (r_seq (r_region (r_p (p_move rfl) rfl (r_p (p_move rfl) rfl ?_))))
 refine r_p (p_len_sl Tryz.underlying51 rfl (hs_sl (k := 1) rfl)) rfl ?_
 refine r_p (p_bin rfl rfl b_lt) rfl ?_
 refine r_nil ?_
 refine r_cond rfl (fun h1 => ?_) (fun h1 => ?_)
 ·(try simp only [decide_eq_true_eq, decide_eq_false_iff_not, Bool.and_eq_true, Bool.or_eq_true, Bool.and_eq_false_iff, Bool.or_eq_false_iff, Bool.not_eq_true, Bool.not_eq_false, Bool.not_eq_true', Bool.not_eq_false', Bool.not_not, bne_iff_ne, beq_iff_eq] at h1)
  have hi : i < l.length := by omega
  obtain ⟨st, hst⟩ : ∃ k, l[i]? = some k := ⟨_, List.getElem?_eq_getElem hi⟩
  have hsm := List.mem_of_getElem? hst
  have hsg := GY_es (hg.mem st hsm)
  refine r_more 0 7 rfl (tys_es hsm) ?_
  refine r_more 0 8 rfl (tys_body hsm) ?_
  refine r_more 0 9 rfl (tys_els hsm) ?_
  refine r_more 7 10 rfl txs_sl ?_
  refine r_more 8 11 rfl tys_sl ?_
  refine r_more 9 12 rfl tys_sl ?_
  refine r_skip (r_seq (r_block (r_seq (r_region (r_p (p_move rfl) rfl (r_p (p_move rfl) rfl ?_))))))
  refine r_p (p_idx_sl (j := i) Tryz.underlying51 t53 rfl rfl (hs_sl (k := 1) rfl) (by first | rfl | omega) (by first | omega | (simp; done) | (simp; omega))) rfl ?_
  refine r_p (p_loadA t53 rfl rfl rfl (g_el' (hs_sl (k := 1) rfl) (by intro _; rfl) hst (by rfl))) rfl ?_
  refine r_alloc t53 rfl rfl fun b4 => ?_
  refine r_store_all (k := 4) t53 rfl rfl rfl rfl rfl rfl ?_
  refine r_nil (r_seq (r_seq (r_region ?_)))
  refine r_p (p_field0 fo53_0 rfl) rfl ?_
  refine r_p (p_load1 t3 rfl rfl (g_row1 (k := 4) rfl rfl)) rfl ?_
  refine r_p (p_bin rfl rfl b_lt) rfl ?_
  refine r_p (p_move rfl) rfl ?_
  refine r_gp [] rfl rfl trivial (fun hg2 => p_field0 fo53_0 rfl) rfl ?_
  refine r_gp [(26, _)] rfl rfl ⟨rfl, trivial⟩ (fun hg3 => p_load1 t3 rfl rfl (g_row1 (k := 4) rfl rfl)) rfl ?_
  refine r_gp [(26, _), (27, _)] rfl rfl ⟨rfl, rfl, trivial⟩ (fun hg4 => p_bin rfl rfl b_gt) rfl ?_
  refine r_p (p_pick rfl rfl rfl (by first | exact pick_and | exact pick_or |  rfl)) rfl ?_
  refine r_nil ?_
  refine r_cond rfl (fun h5 => ?_) (fun h5 => ?_)
  ·(try simp only [decide_eq_true_eq, decide_eq_false_iff_not, Bool.and_eq_true, Bool.or_eq_true, Bool.and_eq_false_iff, Bool.or_eq_false_iff, Bool.not_eq_true, Bool.not_eq_false, Bool.not_eq_true', Bool.not_eq_false', Bool.not_not, bne_iff_ne, beq_iff_eq] at h5)
   have q2 := h5
   refine r_seq (r_region (r_p (p_assign rfl) rfl (r_nil (r_cret ?_))))
   refine r_ret () trivial rfl (rs1 (rv_tmp rfl)) (congrArg Value.bool (all_no hsm (rY_k q2)).symm) [] [] rfl rfl rfl
  ·(try simp only [decide_eq_true_eq, decide_eq_false_iff_not, Bool.and_eq_true, Bool.or_eq_true, Bool.and_eq_false_iff, Bool.or_eq_false_iff, Bool.not_eq_true, Bool.not_eq_false, Bool.not_eq_true', Bool.not_eq_false', Bool.not_not, bne_iff_ne, beq_iff_eq] at h5)
   have q2 := h5
   refine r_skip (r_seq (r_region ?_))
   refine r_p (p_field0 fo53_0 rfl) rfl ?_
   refine r_p (p_load1 t3 rfl rfl (g_row1 (k := 4) rfl rfl)) rfl ?_
   refine r_p (p_bin rfl rfl b_eq) rfl ?_
   refine r_p (p_move rfl) rfl ?_
   refine r_gp [] rfl rfl trivial (fun hg6 => p_field0 fo53_0 rfl) rfl ?_
   refine r_gp [(34, _)] rfl rfl ⟨rfl, trivial⟩ (fun hg7 => p_load1 t3 rfl rfl (g_row1 (k := 4) rfl rfl)) rfl ?_
   refine r_gp [(34, _), (35, _)] rfl rfl ⟨rfl, rfl, trivial⟩ (fun hg8 => p_bin rfl rfl b_eq) rfl ?_
   refine r_p (p_pick rfl rfl rfl (by first | exact pick_and | exact pick_or |  rfl)) rfl ?_
   refine r_p (p_assign rfl) rfl (r_nil (r_seq (r_region ?_)))
   refine r_p (p_field0 fo53_1 rfl) rfl ?_
   refine r_p (p_load1 t9 rfl rfl (g_row1 (k := 4) rfl rfl)) rfl ?_
   refine r_callN (xs := [.tmp 39]) (isname_spec st.name) cb51 [] [] [] rfl rfl rfl rfl rfl rfl rfl rfl (fun _ _ => rfl) (fun _ _ _ => rfl) rfl (fun _ _ => ?_)
   refine r_p (p_assign rfl) rfl (r_nil (r_seq (r_region (r_p (p_assign rfl) rfl (r_nil ?_)))))
   refine r_seq_cut (X := Unit) (fun _ => True) (fun _ => [(0, sv v), (3, .int .i64 (i : Int)), (4, .pointer (some ⟨b4, 0, none⟩)), (5, .bool (decide (st.kind = 1) || decide (st.kind = 2))), (6, .bool (identB st.name)), (7, .int .i64 (if st.kind = 3 then 2 else 1))]) (fun _ => [(4, row b4 53 (eTy st))]) (fun _ => [(0, tysA v l), (1, sl 5 eTy (sv v) l), (7, txsA st.ve st.es), (8, tysA st.vb st.body), (9, tysA st.vl st.els), (10, sl 4 eTx (sv st.ve) st.es), (11, sl 5 eTy (sv st.vb) st.body), (12, sl 5 eTy (sv st.vl) st.els)]) ?_ (fun _ _ => ?_)
   ·refine r_seq (r_region ?_)
    refine r_p (p_field0 fo53_0 rfl) rfl ?_
    refine r_p (p_load1 t3 rfl rfl (g_row1 (k := 4) rfl rfl)) rfl ?_
    refine r_p (p_bin rfl rfl b_eq) rfl ?_
    refine r_nil ?_
    refine r_cond rfl (fun h9 => ?_) (fun h9 => ?_)
    ·have q3 : st.kind = 3 := of_decide_eq_true h9
     refine r_region (r_p (p_assign rfl) rfl (r_nil ?_))
     refine r_here () trivial (by rw [if_pos q3]; rfl) rfl rfl
    ·have q3 : ¬ st.kind = 3 := of_decide_eq_false h9
     refine r_skip ?_
     refine r_here () trivial (by rw [if_neg q3]; rfl) rfl rfl
   ·refine r_seq (r_seq (r_region (r_p (p_move rfl) rfl (r_p (p_move rfl) rfl ?_))))
    refine r_gp [] rfl rfl trivial (fun hg10 => p_move rfl) rfl ?_
    refine r_gp [(46, _)] rfl rfl ⟨rfl, trivial⟩ (fun hg11 => p_not rfl) rfl ?_
    refine r_p (p_pick rfl rfl rfl (by first | exact pick_and | exact pick_or |  rfl)) rfl ?_
    refine r_p (p_move rfl) rfl ?_
    refine r_gp [] rfl rfl trivial (fun hg12 => p_move rfl) rfl ?_
    refine r_gp [(50, _)] rfl rfl ⟨rfl, trivial⟩ (fun hg13 => p_not rfl) rfl ?_
    refine r_gp [(50, _), (51, _)] rfl rfl ⟨rfl, rfl, trivial⟩ (fun hg14 => p_move rfl) rfl ?_
    refine r_gp2 [] [(50, _), (51, _), (52, _)] rfl rfl trivial ⟨rfl, rfl, rfl, trivial⟩ (fun hg15 hg15' => p_field0 fo53_1 rfl) rfl ?_
    refine r_gp2 [(53, _)] [(50, _), (51, _), (52, _)] rfl rfl ⟨rfl, trivial⟩ ⟨rfl, rfl, rfl, trivial⟩ (fun hg16 hg16' => p_load1 t9 rfl rfl (g_row1 (k := 4) rfl rfl)) rfl ?_
    refine r_gp2 [(53, _), (54, _)] [(50, _), (51, _), (52, _)] rfl rfl ⟨rfl, rfl, trivial⟩ ⟨rfl, rfl, rfl, trivial⟩ (fun hg17 hg17' => p_bin rfl rfl b_sne) rfl ?_
    refine r_gp [(50, _), (51, _), (52, _)] rfl rfl ⟨rfl, rfl, rfl, trivial⟩ (fun hg18 => p_pick rfl rfl rfl (by first | exact pick_and | exact pick_or | exact pick_and2 hg18 | exact pick_or2 hg18 | rfl)) rfl ?_
    refine r_p (p_pick rfl rfl rfl (by first | exact pick_and | exact pick_or |  rfl)) rfl ?_
    refine r_p (p_move rfl) rfl ?_
    refine r_gp [] rfl rfl trivial (fun hg19 => p_field0 fo53_2 rfl) rfl ?_
    refine r_gp [(59, _)] rfl rfl ⟨rfl, trivial⟩ (fun hg20 => p_load1 t46 rfl rfl (g_row1 (k := 4) rfl rfl)) rfl ?_
    refine r_gp [(59, _), (60, _)] rfl rfl ⟨rfl, rfl, trivial⟩ (fun hg21 => p_len_sl Tryz.underlying46 rfl (hs_sl (k := 10) rfl)) rfl ?_
    refine r_gp [(59, _), (60, _), (61, _)] rfl rfl ⟨rfl, rfl, rfl, trivial⟩ (fun hg22 => p_move rfl) rfl ?_
    refine r_gp [(59, _), (60, _), (61, _), (62, _)] rfl rfl ⟨rfl, rfl, rfl, rfl, trivial⟩ (fun hg23 => p_bin rfl rfl b_ne) rfl ?_
    refine r_p (p_pick rfl rfl rfl (by first | exact pick_and | exact pick_or |  rfl)) rfl ?_
    refine r_nil ?_
    refine r_cond rfl (fun h24 => ?_) (fun h24 => ?_)
    ·have q4 := h24
     refine r_seq (r_region (r_p (p_assign rfl) rfl (r_nil (r_cret ?_))))
     refine r_ret () trivial rfl (rs1 (rv_tmp rfl)) (congrArg Value.bool (all_no hsm (rY_n q4)).symm) [] [] rfl rfl rfl
    ·have q4 := h24
     have hes : (st.es.length : Int) = if st.kind = 3 then 2 else 1 := by
      have h := (Bool.or_eq_false_iff.1 q4).2
      simpa using h
     rw [← hes]
     refine r_skip (r_seq (r_seq (r_region ?_)))
     refine r_p (p_field0 fo53_0 rfl) rfl ?_
     refine r_p (p_load1 t3 rfl rfl (g_row1 (k := 4) rfl rfl)) rfl ?_
     refine r_p (p_bin rfl rfl b_ne) rfl ?_
     refine r_p (p_move rfl) rfl ?_
     refine r_gp [] rfl rfl trivial (fun hg25 => p_field0 fo53_4 rfl) rfl ?_
     refine r_gp [(69, _)] rfl rfl ⟨rfl, trivial⟩ (fun hg26 => p_load1 t51 rfl rfl (g_row1 (k := 4) rfl rfl)) rfl ?_
     refine r_gp [(69, _), (70, _)] rfl rfl ⟨rfl, rfl, trivial⟩ (fun hg27 => p_len_sl Tryz.underlying51 rfl (hs_sl (k := 12) rfl)) rfl ?_
     refine r_gp [(69, _), (70, _), (71, _)] rfl rfl ⟨rfl, rfl, rfl, trivial⟩ (fun hg28 => p_bin rfl rfl b_gt) rfl ?_
     refine r_gp [(69, _), (70, _), (71, _), (72, _)] rfl rfl ⟨rfl, rfl, rfl, rfl, trivial⟩ (fun hg29 => p_move rfl) rfl ?_
     refine r_gp2 [] [(69, _), (70, _), (71, _), (72, _), (73, _)] rfl rfl trivial ⟨rfl, rfl, rfl, rfl, rfl, trivial⟩ (fun hg30 hg30' => p_field0 fo53_0 rfl) rfl ?_
     refine r_gp2 [(74, _)] [(69, _), (70, _), (71, _), (72, _), (73, _)] rfl rfl ⟨rfl, trivial⟩ ⟨rfl, rfl, rfl, rfl, rfl, trivial⟩ (fun hg31 hg31' => p_load1 t3 rfl rfl (g_row1 (k := 4) rfl rfl)) rfl ?_
     refine r_gp2 [(74, _), (75, _)] [(69, _), (70, _), (71, _), (72, _), (73, _)] rfl rfl ⟨rfl, rfl, trivial⟩ ⟨rfl, rfl, rfl, rfl, rfl, trivial⟩ (fun hg32 hg32' => p_bin rfl rfl b_ne) rfl ?_
     refine r_gp2 [(74, _), (75, _), (76, _)] [(69, _), (70, _), (71, _), (72, _), (73, _)] rfl rfl ⟨rfl, rfl, rfl, trivial⟩ ⟨rfl, rfl, rfl, rfl, rfl, trivial⟩ (fun hg33 hg33' => p_move rfl) rfl ?_
     refine r_gp2 [] [(74, _), (75, _), (76, _), (77, _)] rfl rfl trivial ⟨rfl, rfl, rfl, rfl, trivial⟩ (fun hg34 hg34' => p_field0 fo53_3 rfl) rfl ?_
     refine r_gp2 [(78, _)] [(74, _), (75, _), (76, _), (77, _)] rfl rfl ⟨rfl, trivial⟩ ⟨rfl, rfl, rfl, rfl, trivial⟩ (fun hg35 hg35' => p_load1 t51 rfl rfl (g_row1 (k := 4) rfl rfl)) rfl ?_
     refine r_gp2 [(78, _), (79, _)] [(74, _), (75, _), (76, _), (77, _)] rfl rfl ⟨rfl, rfl, trivial⟩ ⟨rfl, rfl, rfl, rfl, trivial⟩ (fun hg36 hg36' => p_len_sl Tryz.underlying51 rfl (hs_sl (k := 11) rfl)) rfl ?_
     refine r_gp2 [(78, _), (79, _), (80, _)] [(74, _), (75, _), (76, _), (77, _)] rfl rfl ⟨rfl, rfl, rfl, trivial⟩ ⟨rfl, rfl, rfl, rfl, trivial⟩ (fun hg37 hg37' => p_bin rfl rfl b_gt) rfl ?_
     refine r_gp2 [(74, _), (75, _), (76, _), (77, _)] [(69, _), (70, _), (71, _), (72, _), (73, _)] rfl rfl ⟨rfl, rfl, rfl, rfl, trivial⟩ ⟨rfl, rfl, rfl, rfl, rfl, trivial⟩ (fun hg38 hg38' => p_pick rfl rfl rfl (by first | exact pick_and | exact pick_or | exact pick_and2 hg38 | exact pick_or2 hg38 |exact pick_and2 (band2 hg38 hg38') | exact pick_or2 (band2 hg38 hg38') | rfl)) rfl ?_
     refine r_gp [(69, _), (70, _), (71, _), (72, _), (73, _)] rfl rfl ⟨rfl, rfl, rfl, rfl, rfl, trivial⟩ (fun hg39 => p_pick rfl rfl rfl (by first | exact pick_and | exact pick_or | exact pick_and2 hg39 | exact pick_or2 hg39 | rfl)) rfl ?_
     refine r_p (p_pick rfl rfl rfl (by first | exact pick_and | exact pick_or |  rfl)) rfl ?_
     refine r_nil ?_
     refine r_cond rfl (fun h40 => ?_) (fun h40 => ?_)
     ·have q5 := h40
      refine r_seq (r_region (r_p (p_assign rfl) rfl (r_nil (r_cret ?_))))
      refine r_ret () trivial rfl (rs1 (rv_tmp rfl)) (congrArg Value.bool (all_no hsm (rY_b q5)).symm) [] [] rfl rfl rfl
     ·have q5 := h40
      refine r_skip (r_seq (r_seq (r_region (r_p (p_assign rfl) rfl (r_nil (r_block ?_))))))
      refine r_loop (X := Nat) (fun j => j ≤ st.es.length ∧ (st.es.take j).all rX = true) (fun j => [(0, sv v), (3, .int .i64 (i : Int)), (4, .pointer (some ⟨b4, 0, none⟩)), (7, .int .i64 (st.es.length : Int)), (8, .int .i64 (j : Int))]) (fun j => [(4, row b4 53 (eTy st))]) (fun j => [(0, tysA v l), (1, sl 5 eTy (sv v) l), (7, txsA st.ve st.es), (8, tysA st.vb st.body), (9, tysA st.vl st.els), (10, sl 4 eTx (sv st.ve) st.es), (11, sl 5 eTy (sv st.vb) st.body), (12, sl 5 eTy (sv st.vl) st.els)]) (fun j => st.es.length - j) 0 ⟨Nat.zero_le _, rfl⟩ rfl rfl rfl (fun j hy0 => ?_)
      obtain ⟨n3, n4⟩ := hy0
      refine r_seq (r_seq (r_region (r_p (p_move rfl) rfl (r_p (p_move rfl) rfl ?_))))
      refine r_p (p_bin rfl rfl b_lt) rfl ?_
      refine r_nil ?_
      refine r_cond rfl (fun h41 => ?_) (fun h41 => ?_)
      ·(try simp only [decide_eq_true_eq, decide_eq_false_iff_not, Bool.and_eq_true, Bool.or_eq_true, Bool.and_eq_false_iff, Bool.or_eq_false_iff, Bool.not_eq_true, Bool.not_eq_false, Bool.not_eq_true', Bool.not_eq_false', Bool.not_not, bne_iff_ne, beq_iff_eq] at h41)
       have hj : j < st.es.length := by omega
       obtain ⟨u, hu⟩ : ∃ k, st.es[j]? = some k := ⟨_, List.getElem?_eq_getElem hj⟩
       have hum := List.mem_of_getElem? hu
       refine r_skip (r_seq (r_block (r_seq (r_region ?_))))
       refine r_p (p_field0 fo53_2 rfl) rfl ?_
       refine r_p (p_load1 t46 rfl rfl (g_row1 (k := 4) rfl rfl)) rfl ?_
       refine r_p (p_move rfl) rfl ?_
       refine r_p (p_idx_sl (j := j) Tryz.underlying46 t48 rfl rfl (hs_sl (k := 10) rfl) (by first | rfl | omega) hj) rfl ?_
       refine r_p (p_loadA t48 rfl rfl rfl (g_el' (hs_sl (k := 10) rfl) (by intro _; rfl) hu (by rfl))) rfl ?_
       refine r_more 7 13 rfl (txs_kid hum) ?_
       refine r_callN (xs := [.tmp 94]) (rx8_spec u (hsg.2.mem u hum)) cb90 [] [(false, 13)] [] rfl rfl rfl rfl rfl rfl rfl rfl (fun _ _ => rfl) (fun _ _ _ => rfl) rfl (fun _ _ => ?_)
       refine r_p (p_assign rfl) rfl (r_nil (r_seq (r_region (r_p (p_move rfl) rfl ?_))))
       refine r_p (p_not rfl) rfl ?_
       refine r_nil ?_
       refine r_cond rfl (fun h42 => ?_) (fun h42 => ?_)
       ·have q7 : rX u = false := by simpa using h42
        refine r_seq (r_region (r_p (p_assign rfl) rfl (r_nil (r_cret ?_))))
        refine r_ret () trivial rfl (rs1 (rv_tmp rfl)) (congrArg Value.bool (all_no hsm (rY_e hum q7)).symm) [] [] rfl rfl rfl
       ·have q7 : rX u = true := by simpa using h42
        refine r_skip (r_region (r_p (p_move rfl) rfl ?_))
        refine r_p (p_bin rfl rfl (b_add (by first | exact w_i64 (by omega) (by omega) | rfl))) rfl ?_
        refine r_p (p_assign rfl) rfl (r_nil ?_)
        refine r_here (j + 1) ⟨⟨by omega, by rw [all_take hu, n4, q7]; rfl⟩, by omega⟩ rfl rfl rfl
      ·(try simp only [decide_eq_true_eq, decide_eq_false_iff_not, Bool.and_eq_true, Bool.or_eq_true, Bool.and_eq_false_iff, Bool.or_eq_false_iff, Bool.not_eq_true, Bool.not_eq_false, Bool.not_eq_true', Bool.not_eq_false', Bool.not_not, bne_iff_ne, beq_iff_eq] at h41)
       have hj : j = st.es.length := by omega
       subst hj
       rw [List.take_length] at n4
       refine r_exit (r_seq (r_region ?_))
       refine r_p (p_field0 fo53_3 rfl) rfl ?_
       refine r_p (p_load1 t51 rfl rfl (g_row1 (k := 4) rfl rfl)) rfl ?_
       refine r_callN (xs := [.tmp 99]) (ih st hsm).1 cb52 [] [(false, 8)] [] rfl rfl rfl rfl rfl rfl rfl rfl (fun _ _ => rfl) (fun _ _ _ => rfl) rfl (fun _ _ => ?_)
       refine r_p (p_assign rfl) rfl (r_nil (r_seq (r_region ?_)))
       refine r_p (p_field0 fo53_4 rfl) rfl ?_
       refine r_p (p_load1 t51 rfl rfl (g_row1 (k := 4) rfl rfl)) rfl ?_
       refine r_callN (xs := [.tmp 102]) (ih st hsm).2 cb52 [] [(false, 9)] [] rfl rfl rfl rfl rfl rfl rfl rfl (fun _ _ => rfl) (fun _ _ _ => rfl) rfl (fun _ _ => ?_)
       refine r_p (p_assign rfl) rfl (r_nil (r_seq (r_region (r_p (p_move rfl) rfl ?_))))
       refine r_p (p_not rfl) rfl ?_
       refine r_p (p_move rfl) rfl ?_
       refine r_gp [] rfl rfl trivial (fun hg43 => p_move rfl) rfl ?_
       refine r_gp [(107, _)] rfl rfl ⟨rfl, trivial⟩ (fun hg44 => p_not rfl) rfl ?_
       refine r_p (p_pick rfl rfl rfl (by first | exact pick_and | exact pick_or |  rfl)) rfl ?_
       refine r_nil ?_
       refine r_cond rfl (fun h45 => ?_) (fun h45 => ?_)
       ·(try simp only [decide_eq_true_eq, decide_eq_false_iff_not, Bool.and_eq_true, Bool.or_eq_true, Bool.and_eq_false_iff, Bool.or_eq_false_iff, Bool.not_eq_true, Bool.not_eq_false, Bool.not_eq_true', Bool.not_eq_false', Bool.not_not, bne_iff_ne, beq_iff_eq] at h45)
        have q8 := h45
        refine r_seq (r_region (r_p (p_assign rfl) rfl (r_nil (r_cret ?_))))
        refine r_ret () trivial rfl (rs1 (rv_tmp rfl)) (congrArg Value.bool (all_no hsm (rY_s q8)).symm) [] [] rfl rfl rfl
       ·(try simp only [decide_eq_true_eq, decide_eq_false_iff_not, Bool.and_eq_true, Bool.or_eq_true, Bool.and_eq_false_iff, Bool.or_eq_false_iff, Bool.not_eq_true, Bool.not_eq_false, Bool.not_eq_true', Bool.not_eq_false', Bool.not_not, bne_iff_ne, beq_iff_eq] at h45)
        have q8 := h45
        refine r_skip (r_region (r_p (p_move rfl) rfl ?_))
        refine r_p (p_bin rfl rfl (b_add (by first | exact w_i64 (by omega) (by omega) | rfl))) rfl ?_
        refine r_p (p_assign rfl) rfl (r_nil ?_)
        refine r_here (i + 1) ⟨⟨by omega, by rw [all_take hst, n2, rY_ok q2 q4 q5 n4 q8]; rfl⟩, by omega⟩ rfl rfl rfl
 ·(try simp only [decide_eq_true_eq, decide_eq_false_iff_not, Bool.and_eq_true, Bool.or_eq_true, Bool.and_eq_false_iff, Bool.or_eq_false_iff, Bool.not_eq_true, Bool.not_eq_false, Bool.not_eq_true', Bool.not_eq_false', Bool.not_not, bne_iff_ne, beq_iff_eq] at h1)
  have hi : i = l.length := by omega
  subst hi
  rw [List.take_length] at n2
  refine r_exit (r_seq (r_region (r_p (p_assign rfl) rfl (r_nil (r_cret ?_)))))
  refine r_ret () trivial rfl (rs1 (rv_tmp rfl)) (congrArg Value.bool n2.symm) [] [] rfl rfl rfl
theorem ry8_all : ∀ (n : Nat) (v : SV) (l : List Ty), SizeOf.sizeOf l < n → l.length ≤ 1000000 → GYs l → HRy v l
 | 0, _, _, h, _, _ => absurd h (Nat.not_lt_zero _)
 | n + 1, v, l, h, hl, hg => ry8_step v l hl hg fun u hu => by
  have h1 := List.sizeOf_lt_of_mem hu
  have h2 : SizeOf.sizeOf u.body < SizeOf.sizeOf u ∧ SizeOf.sizeOf u.els < SizeOf.sizeOf u := by
   cases u
   simp only [Ty.mk.sizeOf_spec, Ty.body, Ty.els]
   omega
  have h3 := hg.mem u hu
  exact ⟨ry8_all n u.vb u.body (by omega) (GY_body h3).1 (GY_body h3).2, ry8_all n u.vl u.els (by omega) (GY_els h3).1 (GY_els h3).2⟩
theorem ry8_spec (v : SV) (l : List Ty) (hl : l.length ≤ 1000000) (hg : GYs l) : HRy v l := ry8_all _ v l (Nat.lt_succ_self _) hl hg
theorem rF_def (f : Tf) : rF f = (f.ps.all identB && identB f.name && f.body.all rY) := by unfold rF; rw [rYs_all]
theorem rF_no {f : Tf} (h : identB f.name = false ∨ f.body.all rY = false) : rF f = false := by
 rw [rF_def]
 rcases h with h | h <;> rw [h] <;> simp
theorem rF_p {f : Tf} {x : ByteArray} (hm : x ∈ f.ps) (h : identB x = false) : rF f = false := by
 rw [rF_def, all_no hm h]
 rfl
set_option maxHeartbeats 4000000 in
set_option maxRecDepth 100000 in
theorem right8_spec (vp : SV) (fs : List Tf) (hg : GP fs) :
  Spec Tryz.prog 36 [.agg #[sv vp]] [] [tfsA vp fs] (X := Unit) (fun _ => True) (fun _ => .bool (rP fs)) (fun _ => []) (fun _ => []) := by
 refine r_enter Tryz.func36 rfl Tryz.ntmps36 rfl fun w0 M H => ?_
 refine r_more 0 1 rfl tfs_sl ?_
 have hgl := hg.1
 refine r_seq (r_region ?_)
 refine r_boxA rfl rfl fun b1 => ?_
 refine r_p (p_assign rfl) rfl (r_nil (r_seq (r_seq (r_region (r_p (p_assign rfl) rfl (r_nil (r_block ?_)))))))
 refine r_loop (X := Nat) (fun i => i ≤ fs.length ∧ (fs.take i).all rF = true) (fun i => [(1, .pointer (some ⟨b1, 0, none⟩)), (3, .int .i64 (i : Int))]) (fun i => [(1, row b1 29 [sv vp])]) (fun i => [(0, tfsA vp fs), (1, sl 3 eTf (sv vp) fs)]) (fun i => fs.length - i) 0 ⟨Nat.zero_le _, rfl⟩ rfl rfl rfl (fun i hx0 => ?_)
 obtain ⟨n1, n2⟩ := hx0
 refine r_seq (r_seq (r_region (r_p (p_move rfl) rfl ?_)))
 refine r_p (p_field0 fo29_0 rfl) rfl ?_
 refine r_p (p_load1 t27 rfl rfl (g_row1 (k := 1) rfl rfl)) rfl ?_
 refine r_p (p_len_sl Tryz.underlying27 rfl (hs_sl (k := 1) rfl)) rfl ?_
 refine r_p (p_bin rfl rfl b_lt) rfl ?_
 refine r_nil ?_
 refine r_cond rfl (fun h1 => ?_) (fun h1 => ?_)
 ·(try simp only [decide_eq_true_eq, decide_eq_false_iff_not, Bool.and_eq_true, Bool.or_eq_true, Bool.and_eq_false_iff, Bool.or_eq_false_iff, Bool.not_eq_true, Bool.not_eq_false, Bool.not_eq_true', Bool.not_eq_false', Bool.not_not, bne_iff_ne, beq_iff_eq] at h1)
  have hi : i < fs.length := by omega
  obtain ⟨f, hf⟩ : ∃ k, fs[i]? = some k := ⟨_, List.getElem?_eq_getElem hi⟩
  have hfm := List.mem_of_getElem? hf
  have hgf := hg.2 f hfm
  have hpl := hgf.2.2.1
  refine r_more 0 7 rfl (tfs_f hfm) ?_
  refine r_more 7 8 rfl tf_ps ?_
  refine r_skip (r_seq (r_block (r_seq (r_region ?_))))
  refine r_p (p_field0 fo29_0 rfl) rfl ?_
  refine r_p (p_load1 t27 rfl rfl (g_row1 (k := 1) rfl rfl)) rfl ?_
  refine r_p (p_move rfl) rfl ?_
  refine r_p (p_idx_sl (j := i) Tryz.underlying27 t63 rfl rfl (hs_sl (k := 1) rfl) (by first | rfl | omega) (by first | omega | (simp; done) | (simp; omega))) rfl ?_
  refine r_p (p_loadA t63 rfl rfl rfl (g_el' (hs_sl (k := 1) rfl) (by intro _; rfl) hf (by rfl))) rfl ?_
  refine r_alloc t63 rfl rfl fun b4 => ?_
  refine r_store_all (k := 4) t63 rfl rfl rfl rfl rfl rfl ?_
  refine r_nil (r_seq (r_region ?_))
  refine r_p (p_field0 fo63_0 rfl) rfl ?_
  refine r_p (p_load1 t9 rfl rfl (g_row1 (k := 4) rfl rfl)) rfl ?_
  refine r_callN (xs := [.tmp 22]) (isname_spec f.name) cb51 [] [] [] rfl rfl rfl rfl rfl rfl rfl rfl (fun _ _ => rfl) (fun _ _ _ => rfl) rfl (fun _ _ => ?_)
  refine r_p (p_assign rfl) rfl (r_nil (r_seq (r_region ?_)))
  refine r_p (p_field0 fo63_2 rfl) rfl ?_
  refine r_p (p_load1 t51 rfl rfl (g_row1 (k := 4) rfl rfl)) rfl ?_
  refine r_more 7 9 rfl tf_body ?_
  refine r_callN (xs := [.tmp 25]) (ry8_spec f.vb f.body hgf.2.2.2.1 hgf.2.2.2.2.1) cb52 [] [(false, 9)] [] rfl rfl rfl rfl rfl rfl rfl rfl (fun _ _ => rfl) (fun _ _ _ => rfl) rfl (fun _ _ => ?_)
  refine r_p (p_assign rfl) rfl (r_nil (r_seq (r_seq (r_region (r_p (p_move rfl) rfl ?_)))))
  refine r_p (p_not rfl) rfl ?_
  refine r_p (p_move rfl) rfl ?_
  refine r_gp [] rfl rfl trivial (fun hg2 => p_move rfl) rfl ?_
  refine r_gp [(30, _)] rfl rfl ⟨rfl, trivial⟩ (fun hg3 => p_not rfl) rfl ?_
  refine r_p (p_pick rfl rfl rfl (by first | exact pick_and | exact pick_or |  rfl)) rfl ?_
  refine r_nil ?_
  refine r_cond rfl (fun h4 => ?_) (fun h4 => ?_)
  ·(try simp only [decide_eq_true_eq, decide_eq_false_iff_not, Bool.and_eq_true, Bool.or_eq_true, Bool.and_eq_false_iff, Bool.or_eq_false_iff, Bool.not_eq_true, Bool.not_eq_false, Bool.not_eq_true', Bool.not_eq_false', Bool.not_not, bne_iff_ne, beq_iff_eq] at h4)
   have q2 := h4
   refine r_seq (r_region (r_p (p_assign rfl) rfl (r_nil (r_cret ?_))))
   refine r_ret () trivial rfl (rs1 (rv_tmp rfl)) (congrArg Value.bool (show false = rP fs from (all_no (p := rF) hfm (rF_no q2)).symm)) [] [] rfl rfl rfl
  ·(try simp only [decide_eq_true_eq, decide_eq_false_iff_not, Bool.and_eq_true, Bool.or_eq_true, Bool.and_eq_false_iff, Bool.or_eq_false_iff, Bool.not_eq_true, Bool.not_eq_false, Bool.not_eq_true', Bool.not_eq_false', Bool.not_not, bne_iff_ne, beq_iff_eq] at h4)
   have q2 := h4
   refine r_skip (r_seq (r_region (r_p (p_assign rfl) rfl (r_nil (r_block ?_)))))
   refine r_loop (X := Nat) (fun j => j ≤ f.ps.length ∧ (f.ps.take j).all identB = true) (fun j => [(1, .pointer (some ⟨b1, 0, none⟩)), (3, .int .i64 (i : Int)), (4, .pointer (some ⟨b4, 0, none⟩)), (7, .int .i64 (j : Int))]) (fun j => [(1, row b1 29 [sv vp]), (4, row b4 63 (eTf f))]) (fun j => [(0, tfsA vp fs), (1, sl 3 eTf (sv vp) fs), (7, tfA f), (8, sl 1 eS (sv f.vp) f.ps)]) (fun j => f.ps.length - j) 0 ⟨Nat.zero_le _, rfl⟩ rfl rfl rfl (fun j hy0 => ?_)
   obtain ⟨n3, n4⟩ := hy0
   refine r_seq (r_seq (r_region (r_p (p_move rfl) rfl ?_)))
   refine r_p (p_field0 fo63_1 rfl) rfl ?_
   refine r_p (p_load1 t58 rfl rfl (g_row1 (k := 4) rfl rfl)) rfl ?_
   refine r_p (p_len_sl Tryz.underlying58 rfl (hs_sl (k := 8) rfl)) rfl ?_
   refine r_p (p_bin rfl rfl b_lt) rfl ?_
   refine r_nil ?_
   refine r_cond rfl (fun h5 => ?_) (fun h5 => ?_)
   ·(try simp only [decide_eq_true_eq, decide_eq_false_iff_not, Bool.and_eq_true, Bool.or_eq_true, Bool.and_eq_false_iff, Bool.or_eq_false_iff, Bool.not_eq_true, Bool.not_eq_false, Bool.not_eq_true', Bool.not_eq_false', Bool.not_not, bne_iff_ne, beq_iff_eq] at h5)
    have hj : j < f.ps.length := by omega
    obtain ⟨x, hx⟩ : ∃ k, f.ps[j]? = some k := ⟨_, List.getElem?_eq_getElem hj⟩
    have hxm := List.mem_of_getElem? hx
    refine r_skip (r_seq (r_block (r_seq (r_region ?_))))
    refine r_p (p_field0 fo63_1 rfl) rfl ?_
    refine r_p (p_load1 t58 rfl rfl (g_row1 (k := 4) rfl rfl)) rfl ?_
    refine r_p (p_move rfl) rfl ?_
    refine r_p (p_idx_sl (j := j) Tryz.underlying58 t9 rfl rfl (hs_sl (k := 8) rfl) (by first | rfl | omega) (by first | omega | (simp; done) | (simp; omega))) rfl ?_
    refine r_p (p_load1 t9 rfl rfl (g_el' (hs_sl (k := 8) rfl) (by intro _; rfl) hx (by rfl))) rfl ?_
    refine r_callN (xs := [.tmp 44]) (isname_spec x) cb51 [] [] [] rfl rfl rfl rfl rfl rfl rfl rfl (fun _ _ => rfl) (fun _ _ _ => rfl) rfl (fun _ _ => ?_)
    refine r_p (p_assign rfl) rfl (r_nil (r_seq (r_region (r_p (p_move rfl) rfl ?_))))
    refine r_p (p_not rfl) rfl ?_
    refine r_nil ?_
    refine r_cond rfl (fun h6 => ?_) (fun h6 => ?_)
    ·have q4 : identB x = false := by simpa using h6
     refine r_seq (r_region (r_p (p_assign rfl) rfl (r_nil (r_cret ?_))))
     refine r_ret () trivial rfl (rs1 (rv_tmp rfl)) (congrArg Value.bool (show false = rP fs from (all_no (p := rF) hfm (rF_p hxm q4)).symm)) [] [] rfl rfl rfl
    ·have q4 : identB x = true := by simpa using h6
     refine r_skip (r_region (r_p (p_move rfl) rfl ?_))
     refine r_p (p_bin rfl rfl (b_add (by first | exact w_i64 (by omega) (by omega) | rfl))) rfl ?_
     refine r_p (p_assign rfl) rfl (r_nil ?_)
     refine r_here (j + 1) ⟨⟨by omega, by rw [all_take hx, n4, q4]; rfl⟩, by omega⟩ rfl rfl rfl
   ·(try simp only [decide_eq_true_eq, decide_eq_false_iff_not, Bool.and_eq_true, Bool.or_eq_true, Bool.and_eq_false_iff, Bool.or_eq_false_iff, Bool.not_eq_true, Bool.not_eq_false, Bool.not_eq_true', Bool.not_eq_false', Bool.not_not, bne_iff_ne, beq_iff_eq] at h5)
    have hj : j = f.ps.length := by omega
    subst hj
    rw [List.take_length] at n4
    refine r_exit (r_region (r_p (p_move rfl) rfl ?_))
    refine r_p (p_bin rfl rfl (b_add (by first | exact w_i64 (by omega) (by omega) | rfl))) rfl ?_
    refine r_p (p_assign rfl) rfl (r_nil ?_)
    refine r_here (i + 1) ⟨⟨by omega, by rw [all_take hf, n2, rF_def, n4, q2.1, q2.2]; rfl⟩, by omega⟩ rfl rfl rfl
 ·(try simp only [decide_eq_true_eq, decide_eq_false_iff_not, Bool.and_eq_true, Bool.or_eq_true, Bool.and_eq_false_iff, Bool.or_eq_false_iff, Bool.not_eq_true, Bool.not_eq_false, Bool.not_eq_true', Bool.not_eq_false', Bool.not_not, bne_iff_ne, beq_iff_eq] at h1)
  have hi : i = fs.length := by omega
  subst hi
  rw [List.take_length] at n2
  refine r_exit (r_seq (r_region (r_p (p_assign rfl) rfl (r_nil (r_cret ?_)))))
  refine r_ret () trivial rfl (rs1 (rv_tmp rfl)) (congrArg Value.bool n2.symm) [] [] rfl rfl rfl
/-- What something consists of, as a row. -/
def zR (n v s e : Int) : List Value := [.int .i64 n, .int .i64 v, .int .i64 s, .int .i64 e]
abbrev zV (n v s e : Int) : Value := .agg #[.int .i64 n, .int .i64 v, .int .i64 s, .int .i64 e]
theorem zR_eq {n v s e n' v' s' e' : Int} (h1 : n = n') (h2 : v = v') (h3 : s = s') (h4 : e = e') : zR n v s e = zR n' v' s' e' := by rw [h1, h2, h3, h4]
abbrev sm (n : Int) : Prop := 0 ≤ n ∧ n ≤ 1000000000000
mutual
/-- The depth of statements. -/
def dS : Ty → Nat
 | .mk _ _ _ _ _ body _ els => max (dSs body) (dSs els) + 1
def dSs : List Ty → Nat
 | [] => 0
 | t :: r => max (dS t) (dSs r)
end
mutual
/-- The depth of the expressions in statements. -/
def dq : Ty → Nat
 | .mk _ _ _ es _ body _ els => max (max (dqs body) (dqs els)) (dXs es)
def dqs : List Ty → Nat
 | [] => 0
 | t :: r => max (dq t) (dqs r)
end
theorem dSs_app : ∀ a b : List Ty, dSs (a ++ b) = max (dSs a) (dSs b)
 | [], b => by simp [dSs]
 | t :: r, b => by simp only [List.cons_append, dSs, dSs_app r b]; omega
theorem dqs_app : ∀ a b : List Ty, dqs (a ++ b) = max (dqs a) (dqs b)
 | [], b => by simp [dqs]
 | t :: r, b => by simp only [List.cons_append, dqs, dqs_app r b]; omega
theorem dSs_take {l : List Ty} {i : Nat} {k : Ty} (h : l[i]? = some k) : dSs (l.take (i + 1)) = max (dSs (l.take i)) (dS k) := by
 rw [take_snoc h, dSs_app]
 show max _ (max (dS k) 0) = _
 omega
theorem dqs_take {l : List Ty} {i : Nat} {k : Ty} (h : l[i]? = some k) : dqs (l.take (i + 1)) = max (dqs (l.take i)) (dq k) := by
 rw [take_snoc h, dqs_app]
 show max _ (max (dq k) 0) = _
 omega
theorem dS_eq (t : Ty) : dS t = max (dSs t.body) (dSs t.els) + 1 := by cases t; rfl
theorem dq_eq (t : Ty) : dq t = max (max (dqs t.body) (dqs t.els)) (dXs t.es) := by cases t; rfl
theorem nX_def (t : Tx) : nX t = nXs t.kids + 1 ∧ dX t = dXs t.kids + 1 := by cases t; exact ⟨rfl, rfl⟩
theorem nY_def (t : Ty) : nY t = 1 + nXs t.es + nYs t.body + nYs t.els := by cases t; rfl
theorem vY_def (t : Ty) : vY t = (if t.kind = 1 then 1 else 0) + vYs t.body + vYs t.els := by cases t; rfl
mutual
theorem dS_le : ∀ t : Ty, dS t ≤ nY t ∧ dq t ≤ nY t
 | .mk _ _ _ es _ body _ els => by
  have h1 := dSs_le body
  have h2 := dSs_le els
  have h3 := dXs_le es
  rw [dS, dq, nY]
  omega
theorem dSs_le : ∀ l : List Ty, dSs l ≤ nYs l ∧ dqs l ≤ nYs l
 | [] => by rw [dSs, dqs, nYs]; omega
 | t :: r => by
  have h1 := dS_le t
  have h2 := dSs_le r
  rw [dSs, dqs, nYs]
  omega
end
mutual
theorem dp_iff : ∀ (d : Nat) (t : Ty), dpY d t = true ↔ d + dS t > 9 ∨ dq t > 8
 | d, .mk k nm v es vb body vl els => by
  rw [dpY, dS, dq]
  simp only [Bool.or_eq_true, decide_eq_true_eq]
  rw [dps_iff (d + 1) body, dps_iff (d + 1) els]
  omega
theorem dps_iff : ∀ (d : Nat) (l : List Ty), dpYs d l = true ↔ (0 < dSs l ∧ d + dSs l > 9) ∨ dqs l > 8
 | d, [] => by rw [dpYs, dSs, dqs]; simp
 | d, t :: r => by
  rw [dpYs, dSs, dqs, Bool.or_eq_true, dp_iff d t, dps_iff d r]
  have h1 : 0 < dS t := by rw [dS_eq]; omega
  omega
end
theorem big_iff (f : Tf) : big f ↔ f.ps.length > 4 ∨ f.ps.length + vYs f.body > 12 ∨ nYs f.body > 400 ∨ dSs f.body > 8 ∨ dqs f.body > 8 := by
 unfold big
 rw [dps_iff]
 omega
/-- The contract of stmtSize. -/
def HSz (v : SV) (l : List Ty) : Prop := Spec Tryz.prog 38 [sv v] [] [tysA v l] (X := Unit) (fun _ => True) (fun _ => zV (nYs l : Int) (vYs l : Int) (dSs l : Int) (dqs l : Int)) (fun _ => []) (fun _ => [])
def HEz (t : Tx) : Prop := Spec Tryz.prog 54 [xV t] [] [txsA t.v t.kids] (X := Unit) (fun _ => True) (fun _ => zV (nX t : Int) 0 0 (dX t : Int)) (fun _ => []) (fun _ => [])
set_option maxRecDepth 100000 in
theorem join_spec (a b c d a2 b2 c2 d2 : Int) (h1 : sm a) (h2 : sm b) (h3 : sm a2) (h4 : sm b2) :
  Spec Tryz.prog 53 [zV a b c d, zV a2 b2 c2 d2] [] [] (X := Unit) (fun _ => True) (fun _ => zV (a + a2) (b + b2) (max c c2) (max d d2)) (fun _ => []) (fun _ => []) := by
 refine r_enter Tryz.func53 rfl Tryz.ntmps53 rfl fun w0 M H => ?_
 refine r_seq (r_region ?_)
 refine r_boxA rfl rfl fun b2 => ?_
 refine r_boxA rfl rfl fun b3 => ?_
 refine r_alloc t86 rfl rfl fun b4 => ?_
 refine r_nil (r_seq (r_region ?_))
 refine r_p (p_field0 fo86_0 rfl) rfl ?_
 refine r_p (p_load1 t3 rfl rfl (g_row1 (k := 2) rfl rfl)) rfl ?_
 refine r_p (p_field0 fo86_0 rfl) rfl ?_
 refine r_p (p_load1 t3 rfl rfl (g_row1 (k := 3) rfl rfl)) rfl ?_
 refine r_p (p_bin rfl rfl (b_add (by first | exact w_i64 (by omega) (by omega) | rfl))) rfl ?_
 refine r_p (p_field0 fo86_1 rfl) rfl ?_
 refine r_p (p_load1 t3 rfl rfl (g_row1 (k := 2) rfl rfl)) rfl ?_
 refine r_p (p_field0 fo86_1 rfl) rfl ?_
 refine r_p (p_load1 t3 rfl rfl (g_row1 (k := 3) rfl rfl)) rfl ?_
 refine r_p (p_bin rfl rfl (b_add (by first | exact w_i64 (by omega) (by omega) | rfl))) rfl ?_
 refine r_p (p_field0 fo86_2 rfl) rfl ?_
 refine r_p (p_load1 t3 rfl rfl (g_row1 (k := 2) rfl rfl)) rfl ?_
 refine r_p (p_field0 fo86_2 rfl) rfl ?_
 refine r_p (p_load1 t3 rfl rfl (g_row1 (k := 3) rfl rfl)) rfl ?_
 refine r_p (p_max rfl rfl rfl) rfl ?_
 refine r_p (p_field0 fo86_3 rfl) rfl ?_
 refine r_p (p_load1 t3 rfl rfl (g_row1 (k := 2) rfl rfl)) rfl ?_
 refine r_p (p_field0 fo86_3 rfl) rfl ?_
 refine r_p (p_load1 t3 rfl rfl (g_row1 (k := 3) rfl rfl)) rfl ?_
 refine r_p (p_max rfl rfl rfl) rfl ?_
 refine r_p (p_build (parts := [(0, .tmp 9), (1, .tmp 14), (2, .tmp 19), (3, .tmp 24)]) t86 pl86 rfl rfl) rfl ?_
 refine r_store_all (k := 4) t86 rfl rfl rfl rfl rfl rfl ?_
 refine r_nil (r_cret ?_)
 refine r_ret () trivial rfl (rs1 (rv_cellA t86 rfl rfl rfl (g_all (k := 4) rfl))) rfl [] [] rfl rfl rfl
set_option maxHeartbeats 2000000 in
set_option maxRecDepth 100000 in
theorem exprsize_step (t : Tx) (ht : nX t ≤ 1000000) (hkl : t.kids.length ≤ 1000000) (ih : ∀ u ∈ t.kids, HEz u) :
  Spec Tryz.prog 54 [xV t] [] [txsA t.v t.kids] (X := Unit) (fun _ => True) (fun _ => zV (nX t : Int) 0 0 (dX t : Int)) (fun _ => []) (fun _ => []) := by
 refine r_enter Tryz.func54 rfl Tryz.ntmps54 rfl fun w0 M H => ?_
 refine r_more 0 1 rfl txs_sl ?_
 obtain ⟨hn1, hn2⟩ := nX_def t
 have hdxl := dXs_le t.kids
 refine r_seq (r_region ?_)
 refine r_boxA rfl rfl fun b1 => ?_
 refine r_alloc t86 rfl rfl fun b2 => ?_
 refine r_nil (r_seq (r_region ?_))
 refine r_p (p_build (parts := []) t86 pl86 rfl rfl) rfl ?_
 refine r_alloc t86 rfl rfl fun b3 => ?_
 refine r_store_all (k := 3) t86 rfl rfl rfl rfl rfl rfl ?_
 refine r_nil (r_seq (r_seq (r_region (r_p (p_assign rfl) rfl (r_nil (r_block ?_))))))
 refine r_loop (X := Nat) (fun i => i ≤ t.kids.length) (fun i => [(1, .pointer (some ⟨b1, 0, none⟩)), (2, .pointer (some ⟨b2, 0, none⟩)), (3, .pointer (some ⟨b3, 0, none⟩)), (4, .int .i64 (i : Int))]) (fun i => [(1, row b1 48 (eTx t)), (2, row b2 86 (zR 0 0 0 0)), (3, row b3 86 (zR (nXs (t.kids.take i) : Int) 0 0 (dXs (t.kids.take i) : Int)))]) (fun i => [(0, txsA t.v t.kids), (1, sl 4 eTx (sv t.v) t.kids)]) (fun i => t.kids.length - i) 0 (Nat.zero_le _) rfl rfl rfl (fun i n1 => ?_)
 refine r_seq (r_seq (r_region (r_p (p_move rfl) rfl ?_)))
 refine r_p (p_field0 fo48_3 rfl) rfl ?_
 refine r_p (p_load1 t46 rfl rfl (g_row1 (k := 1) rfl rfl)) rfl ?_
 refine r_p (p_len_sl Tryz.underlying46 rfl (hs_sl (k := 1) rfl)) rfl ?_
 refine r_p (p_bin rfl rfl b_lt) rfl ?_
 refine r_nil ?_
 refine r_cond rfl (fun h1 => ?_) (fun h1 => ?_)
 ·(try simp only [decide_eq_true_eq, decide_eq_false_iff_not, Bool.and_eq_true, Bool.or_eq_true, Bool.and_eq_false_iff, Bool.or_eq_false_iff, Bool.not_eq_true, Bool.not_eq_false, Bool.not_eq_true', Bool.not_eq_false', Bool.not_not, bne_iff_ne, beq_iff_eq] at h1)
  have hi : i < t.kids.length := by omega
  obtain ⟨u, hu⟩ : ∃ u, t.kids[i]? = some u := ⟨_, List.getElem?_eq_getElem hi⟩
  have hum := List.mem_of_getElem? hu
  refine r_more 0 7 rfl (txs_kid hum) ?_
  have hle := nXs_le t.kids (i + 1)
  rw [nXs_take hu] at hle
  have hdu := dX_le u
  refine r_skip (r_seq (r_block ?_))
  refine r_draw [13, 14, 15, 16, 17, 18, 19, 20] _ rfl (stg_mem (V := [(0, 13, _), (1, 14, _), (2, 15, _), (3, 16, _), (4, 17, _), (5, 18, _)]) [0, 1, 2, 3, 4, 5] 6 [6, 5, 4, 3, 2, 1] [] (fun _ => []) rfl rfl (prs_cons (pri rfl (p_loadA t86 rfl rfl rfl (g_all (k := 3) rfl))) (prs_cons (pri rfl (p_field0 fo48_3 rfl)) (prs_cons (pri rfl (p_load1 t46 rfl rfl (g_row1 (k := 1) rfl rfl))) (prs_cons (pri rfl (p_move rfl)) (prs_cons (pri rfl (p_idx_sl (j := i) Tryz.underlying46 t48 rfl rfl (hs_sl (k := 1) rfl) (by first | rfl | omega) (by first | omega | (simp; done) | (simp; omega)))) (prs_cons (pri rfl (p_loadA t48 rfl rfl rfl (g_el' (hs_sl (k := 1) rfl) (by intro _; rfl) hu (by rfl)))) prs_nil)))))) rfl rfl rfl rfl rfl rfl rfl rfl rfl rfl rfl (fun _ _ => rfl) rfl (ms_callN (xs := [.tmp 18]) (ih u hum) cb54 [] [(false, 7)] [] rfl rfl rfl rfl rfl rfl rfl rfl (fun _ _ => rfl) (fun _ _ _ => rfl)) (fun _ _ => stg_mem [0] 7 [7, 6, 5, 4, 3, 2, 1, 0] [] (fun _ => []) rfl rfl (prs_cons (pri rfl (p_loadA t86 rfl rfl rfl (g_all (k := 3) rfl))) prs_nil) rfl rfl rfl rfl rfl rfl rfl rfl rfl rfl rfl (fun _ _ => rfl) rfl (ms_callN (xs := [.tmp 13, .tmp 19]) (join_spec (nXs (t.kids.take i) : Int) 0 0 (dXs (t.kids.take i) : Int) (nX u : Int) 0 0 (dX u : Int) ⟨by omega, by omega⟩ ⟨by omega, by omega⟩ ⟨by omega, by omega⟩ ⟨by omega, by omega⟩) cb53 [] [] [] rfl rfl rfl rfl rfl rfl rfl rfl (fun _ _ => rfl) (fun _ _ _ => rfl)) (fun _ _ => stg_mem0 [] 8 [8, 7, 6, 5, 4, 3, 2, 1, 0] [] (fun _ => []) rfl rfl prs_nil rfl rfl rfl rfl rfl rfl rfl rfl rfl (fun _ _ => rfl) rfl (ms_store_all (k := 3) t86 rfl rfl rfl rfl rfl rfl) (fun _ _ => stg_end [] rfl rfl prs_nil rfl rfl rfl ?_))))
  refine r_region (r_p (p_move rfl) rfl ?_)
  refine r_p (p_bin rfl rfl (b_add (by first | exact w_i64 (by omega) (by omega) | rfl))) rfl ?_
  refine r_p (p_assign rfl) rfl (r_nil ?_)
  refine r_here (i + 1) ⟨by omega, by omega⟩ rfl (by rw [zR_eq (n := ((nXs (t.kids.take (i + 1)) : Nat) : Int)) (n' := (nXs (t.kids.take i) : Int) + (nX u : Int)) (e' := max (dXs (t.kids.take i) : Int) (dX u : Int)) (e := ((dXs (t.kids.take (i + 1)) : Nat) : Int)) (by rw [nXs_take hu, Int.natCast_add]) (show (0 : Int) = 0 + 0 from rfl) (show (0 : Int) = max 0 0 from rfl) (by rw [dXs_take hu]; omega)]; rfl) rfl
 ·(try simp only [decide_eq_true_eq, decide_eq_false_iff_not, Bool.and_eq_true, Bool.or_eq_true, Bool.and_eq_false_iff, Bool.or_eq_false_iff, Bool.not_eq_true, Bool.not_eq_false, Bool.not_eq_true', Bool.not_eq_false', Bool.not_not, bne_iff_ne, beq_iff_eq] at h1)
  have hi : i = t.kids.length := by omega
  subst hi
  rw [List.take_length]
  refine r_exit (r_seq (r_region ?_))
  refine r_p (p_field0 fo86_0 rfl) rfl ?_
  refine r_p (p_load1 t3 rfl rfl (g_row1 (k := 3) rfl rfl)) rfl ?_
  refine r_p (p_bin rfl rfl (b_add (by first | exact w_i64 (by omega) (by omega) | rfl))) rfl ?_
  refine r_p (p_field0 fo86_0 rfl) rfl ?_
  refine r_store_row (k := 3) t3 rfl rfl rfl rfl rfl rfl rfl rfl ?_
  refine r_nil (r_seq (r_region ?_))
  refine r_p (p_field0 fo86_3 rfl) rfl ?_
  refine r_p (p_load1 t3 rfl rfl (g_row1 (k := 3) rfl rfl)) rfl ?_
  refine r_p (p_bin rfl rfl (b_add (by first | exact w_i64 (by omega) (by omega) | rfl))) rfl ?_
  refine r_p (p_field0 fo86_3 rfl) rfl ?_
  refine r_store_row (k := 3) t3 rfl rfl rfl rfl rfl rfl rfl rfl ?_
  refine r_nil (r_seq (r_region ?_))
  refine r_p (p_loadA t86 rfl rfl rfl (g_all (k := 3) rfl)) rfl ?_
  refine r_store_all (k := 2) t86 rfl rfl rfl rfl rfl rfl ?_
  refine r_nil (r_cret ?_)
  have hfin : zV ((nXs t.kids : Int) + 1) 0 0 ((dXs t.kids : Int) + 1) = zV (nX t : Int) 0 0 (dX t : Int) := by rw [hn1, hn2]; rfl
  refine r_ret () trivial rfl (rs1 (rv_cellA t86 rfl rfl rfl (g_all (k := 2) rfl))) (by rw [← hfin]; rfl) [] [] rfl rfl rfl
theorem exprsize_all : ∀ (n : Nat) (t : Tx), SizeOf.sizeOf t < n → GX t → nX t ≤ 1000000 → HEz t
 | 0, _, h, _, _ => absurd h (Nat.not_lt_zero _)
 | n + 1, t, h, ht, hn => exprsize_step t hn (GX_len ht) fun u hu => exprsize_all n u (by have := tx_lt hu; omega) ((GX_kids ht).mem u hu) (by
  obtain ⟨i, hi⟩ := List.getElem?_of_mem hu
  have hle := nXs_le t.kids (i + 1)
  rw [nXs_take hi] at hle
  have := (nX_def t).1
  omega)
theorem exprsize_spec (t : Tx) (ht : GX t) (hn : nX t ≤ 1000000) : HEz t := exprsize_all _ t (Nat.lt_succ_self _) ht hn
set_option maxHeartbeats 8000000 in
set_option maxRecDepth 100000 in
theorem stmtsize_step (v : SV) (l : List Ty) (hn : nYs l ≤ 1000000) (hl : l.length ≤ 1000000) (hg : GYs l) (ih : ∀ u ∈ l, HSz u.vb u.body ∧ HSz u.vl u.els) :
  Spec Tryz.prog 38 [sv v] [] [tysA v l] (X := Unit) (fun _ => True) (fun _ => zV (nYs l : Int) (vYs l : Int) (dSs l : Int) (dqs l : Int)) (fun _ => []) (fun _ => []) := by
 refine r_enter Tryz.func38 rfl Tryz.ntmps38 rfl fun w0 M H => ?_
 refine r_more 0 1 rfl tys_sl ?_
 refine r_seq (r_region ?_)
 refine r_alloc t86 rfl rfl fun b2 => ?_
 refine r_nil (r_seq (r_region ?_))
 refine r_p (p_build (parts := []) t86 pl86 rfl rfl) rfl ?_
 refine r_alloc t86 rfl rfl fun b3 => ?_
 refine r_store_all (k := 3) t86 rfl rfl rfl rfl rfl rfl ?_
 refine r_nil (r_seq (r_seq (r_region (r_p (p_assign rfl) rfl (r_nil (r_block ?_))))))
 refine r_loop (X := Nat) (fun i => i ≤ l.length) (fun i => [(0, sv v), (2, .pointer (some ⟨b2, 0, none⟩)), (3, .pointer (some ⟨b3, 0, none⟩)), (4, .int .i64 (i : Int))]) (fun i => [(2, row b2 86 (zR 0 0 0 0)), (3, row b3 86 (zR (nYs (l.take i) : Int) (vYs (l.take i) : Int) (dSs (l.take i) : Int) (dqs (l.take i) : Int)))]) (fun i => [(0, tysA v l), (1, sl 5 eTy (sv v) l)]) (fun i => l.length - i) 0 (Nat.zero_le _) rfl rfl rfl (fun i n1 => ?_)
 refine r_seq (r_seq (r_region (r_p (p_move rfl) rfl (r_p (p_move rfl) rfl ?_))))
 refine r_p (p_len_sl Tryz.underlying51 rfl (hs_sl (k := 1) rfl)) rfl ?_
 refine r_p (p_bin rfl rfl b_lt) rfl ?_
 refine r_nil ?_
 refine r_cond rfl (fun h1 => ?_) (fun h1 => ?_)
 ·(try simp only [decide_eq_true_eq, decide_eq_false_iff_not, Bool.and_eq_true, Bool.or_eq_true, Bool.and_eq_false_iff, Bool.or_eq_false_iff, Bool.not_eq_true, Bool.not_eq_false, Bool.not_eq_true', Bool.not_eq_false', Bool.not_not, bne_iff_ne, beq_iff_eq] at h1)
  have hi : i < l.length := by omega
  obtain ⟨st, hst⟩ : ∃ k, l[i]? = some k := ⟨_, List.getElem?_eq_getElem hi⟩
  have hsm := List.mem_of_getElem? hst
  have hsg := GY_es (hg.mem st hsm)
  have hle := nYs_le l (i + 1)
  rw [nYs_take hst] at hle
  have hny := nY_def st
  have hvy := vY_le st
  have hva := vYs_le (l.take i)
  have hvb := vYs_le st.body
  have hvs := vYs_le st.els
  have hvy2 : (vY st : Int) = ((vYs st.body : Int) + (vYs st.els : Int)) + (if st.kind = 1 then 1 else 0 : Int) := by
   rw [vY_def]
   split <;> omega
  have hki : 0 ≤ (if st.kind = 1 then 1 else 0 : Int) ∧ (if st.kind = 1 then 1 else 0 : Int) ≤ 1 := by split <;> omega
  have hdsb := dSs_le st.body
  have hdse := dSs_le st.els
  have hdsi := dSs_le (l.take i)
  have hnl := nYs_le l i
  have hdxe := dXs_le st.es
  refine r_more 0 7 rfl (tys_es hsm) ?_
  refine r_more 0 8 rfl (tys_body hsm) ?_
  refine r_more 0 9 rfl (tys_els hsm) ?_
  refine r_more 7 10 rfl txs_sl ?_
  refine r_skip (r_seq (r_block (r_seq (r_region (r_p (p_move rfl) rfl (r_p (p_move rfl) rfl ?_))))))
  refine r_p (p_idx_sl (j := i) Tryz.underlying51 t53 rfl rfl (hs_sl (k := 1) rfl) (by first | rfl | omega) (by first | omega | (simp; done) | (simp; omega))) rfl ?_
  refine r_p (p_loadA t53 rfl rfl rfl (g_el' (hs_sl (k := 1) rfl) (by intro _; rfl) hst (by rfl))) rfl ?_
  refine r_alloc t53 rfl rfl fun b5 => ?_
  refine r_store_all (k := 5) t53 rfl rfl rfl rfl rfl rfl ?_
  refine r_nil ?_
  refine r_seq_cut (X := Nat) (fun _ => True) (fun y => [(0, sv v), (2, .pointer (some ⟨b2, 0, none⟩)), (3, .pointer (some ⟨b3, 0, none⟩)), (4, .int .i64 (i : Int)), (5, .pointer (some ⟨b5, 0, none⟩)), (6, .pointer (some ⟨y, 0, none⟩))]) (fun y => [(2, row b2 86 (zR 0 0 0 0)), (3, row b3 86 (zR (nYs (l.take i) : Int) (vYs (l.take i) : Int) (dSs (l.take i) : Int) (dqs (l.take i) : Int))), (5, row b5 53 (eTy st)), (6, row y 86 (zR ((nYs st.body : Int) + (nYs st.els : Int)) ((vYs st.body : Int) + (vYs st.els : Int)) (max (dSs st.body : Int) (dSs st.els : Int)) (max (dqs st.body : Int) (dqs st.els : Int))))]) (fun y => [(0, tysA v l), (1, sl 5 eTy (sv v) l), (7, txsA st.ve st.es), (8, tysA st.vb st.body), (9, tysA st.vl st.els), (10, sl 4 eTx (sv st.ve) st.es)]) ?_ (fun b6 _ => ?_)
  ·refine r_draw [19, 20, 21, 22, 23, 24, 25, 6] _ rfl (stg_alts (V := [(0, 19, _), (1, 20, _), (3, 22, _), (4, 23, _)]) [0, 1, 3, 4] rfl rfl (prs_cons (pri rfl (p_field0 fo53_3 rfl)) (prs_cons (pri rfl (p_load1 t51 rfl rfl (g_row1 (k := 5) rfl rfl))) (prs_cons (pri rfl (p_field0 fo53_4 rfl)) (prs_cons (pri rfl (p_load1 t51 rfl rfl (g_row1 (k := 5) rfl rfl))) prs_nil)))) rfl [2, 7] rfl rfl (nx_cons (nx_mem 2 [2, 1, 0] [] (fun _ => []) rfl rfl rfl rfl rfl rfl rfl rfl rfl (fun _ _ => rfl) rfl (ms_callN (xs := [.tmp 20]) (ih st hsm).1 cb38 [] [(false, 8)] [] rfl rfl rfl rfl rfl rfl rfl rfl (fun _ _ => rfl) (fun _ _ _ => rfl)) (fun _ _ => stg_alts [3, 4] rfl rfl (prs_cons (pri rfl (p_field0 fo53_4 rfl)) (prs_cons (pri rfl (p_load1 t51 rfl rfl (g_row1 (k := 5) rfl rfl))) prs_nil)) rfl [5, 7] rfl rfl (nx_cons (nx_mem 5 [5, 4, 3, 2, 1, 0] [] (fun _ => []) rfl rfl rfl rfl rfl rfl rfl rfl rfl (fun _ _ => rfl) rfl (ms_callN (xs := [.tmp 23]) (ih st hsm).2 cb38 [] [(false, 9)] [] rfl rfl rfl rfl rfl rfl rfl rfl (fun _ _ => rfl) (fun _ _ _ => rfl)) (fun _ _ => stg_alts [] rfl rfl prs_nil rfl [6, 7] rfl rfl (nx_cons (nx_mem 6 [6, 5, 4, 3, 2, 1, 0] [] (fun _ => []) rfl rfl rfl rfl rfl rfl rfl rfl rfl (fun _ _ => rfl) rfl (ms_callN (xs := [.tmp 21, .tmp 24]) (join_spec _ _ _ _ _ _ _ _ ⟨by omega, by omega⟩ ⟨by omega, by omega⟩ ⟨by omega, by omega⟩ ⟨by omega, by omega⟩) cb53 [] [] [] rfl rfl rfl rfl rfl rfl rfl rfl (fun _ _ => rfl) (fun _ _ _ => rfl)) (fun _ _ => stg_mem [] 7 [7, 6, 5, 4, 3, 2, 1, 0] [] (fun b6 => []) rfl rfl prs_nil rfl rfl rfl rfl rfl rfl rfl rfl rfl rfl rfl (fun _ _ => rfl) rfl (ms_alloc t86 rfl) (fun b6 _ => stg_mem0 [] 8 [8, 7, 6, 5, 4, 3, 2, 1, 0] [] (fun _ => []) rfl rfl prs_nil rfl rfl rfl rfl rfl rfl rfl rfl rfl (fun _ _ => rfl) rfl (ms_store_all (k := 6) t86 rfl rfl rfl rfl rfl rfl) (fun _ _ => stg_end [] rfl rfl prs_nil rfl rfl rfl ?_)))) (nx_cons (nx_mem 7 [7, 5, 4, 3, 2, 1, 0] [] (fun b6 => []) rfl rfl rfl rfl rfl rfl rfl rfl rfl (fun _ _ => rfl) rfl (ms_alloc t86 rfl) (fun b6 _ => stg_mem [] 6 [7, 6, 5, 4, 3, 2, 1, 0] [] (fun _ => []) rfl rfl prs_nil rfl rfl rfl rfl rfl rfl rfl rfl rfl rfl rfl (fun _ _ => rfl) rfl (ms_callN (xs := [.tmp 21, .tmp 24]) (join_spec _ _ _ _ _ _ _ _ ⟨by omega, by omega⟩ ⟨by omega, by omega⟩ ⟨by omega, by omega⟩ ⟨by omega, by omega⟩) cb53 [] [] [] rfl rfl rfl rfl rfl rfl rfl rfl (fun _ _ => rfl) (fun _ _ _ => rfl)) (fun _ _ => stg_mem0 [] 8 [8, 7, 6, 5, 4, 3, 2, 1, 0] [] (fun _ => []) rfl rfl prs_nil rfl rfl rfl rfl rfl rfl rfl rfl rfl (fun _ _ => rfl) rfl (ms_store_all (k := 6) t86 rfl rfl rfl rfl rfl rfl) (fun _ _ => stg_end [] rfl rfl prs_nil rfl rfl rfl ?_)))) nx_nil)))) (nx_cons (nx_mem 7 [7, 2, 1, 0] [] (fun b6 => []) rfl rfl rfl rfl rfl rfl rfl rfl rfl (fun _ _ => rfl) rfl (ms_alloc t86 rfl) (fun b6 _ => stg_mem [3, 4] 5 [7, 5, 4, 3, 2, 1, 0] [] (fun _ => []) rfl rfl (prs_cons (pri rfl (p_field0 fo53_4 rfl)) (prs_cons (pri rfl (p_load1 t51 rfl rfl (g_row1 (k := 5) rfl rfl))) prs_nil)) rfl rfl rfl rfl rfl rfl rfl rfl rfl rfl rfl (fun _ _ => rfl) rfl (ms_callN (xs := [.tmp 23]) (ih st hsm).2 cb38 [] [(false, 9)] [] rfl rfl rfl rfl rfl rfl rfl rfl (fun _ _ => rfl) (fun _ _ _ => rfl)) (fun _ _ => stg_mem [] 6 [7, 6, 5, 4, 3, 2, 1, 0] [] (fun _ => []) rfl rfl prs_nil rfl rfl rfl rfl rfl rfl rfl rfl rfl rfl rfl (fun _ _ => rfl) rfl (ms_callN (xs := [.tmp 21, .tmp 24]) (join_spec _ _ _ _ _ _ _ _ ⟨by omega, by omega⟩ ⟨by omega, by omega⟩ ⟨by omega, by omega⟩ ⟨by omega, by omega⟩) cb53 [] [] [] rfl rfl rfl rfl rfl rfl rfl rfl (fun _ _ => rfl) (fun _ _ _ => rfl)) (fun _ _ => stg_mem0 [] 8 [8, 7, 6, 5, 4, 3, 2, 1, 0] [] (fun _ => []) rfl rfl prs_nil rfl rfl rfl rfl rfl rfl rfl rfl rfl (fun _ _ => rfl) rfl (ms_store_all (k := 6) t86 rfl rfl rfl rfl rfl rfl) (fun _ _ => stg_end [] rfl rfl prs_nil rfl rfl rfl ?_))))) nx_nil)))) (nx_cons (nx_mem 7 [7] [] (fun b6 => []) rfl rfl rfl rfl rfl rfl rfl rfl rfl (fun _ _ => rfl) rfl (ms_alloc t86 rfl) (fun b6 _ => stg_mem [0, 1, 3, 4] 2 [7, 2, 1, 0] [] (fun _ => []) rfl rfl (prs_cons (pri rfl (p_field0 fo53_3 rfl)) (prs_cons (pri rfl (p_load1 t51 rfl rfl (g_row1 (k := 5) rfl rfl))) (prs_cons (pri rfl (p_field0 fo53_4 rfl)) (prs_cons (pri rfl (p_load1 t51 rfl rfl (g_row1 (k := 5) rfl rfl))) prs_nil)))) rfl rfl rfl rfl rfl rfl rfl rfl rfl rfl rfl (fun _ _ => rfl) rfl (ms_callN (xs := [.tmp 20]) (ih st hsm).1 cb38 [] [(false, 8)] [] rfl rfl rfl rfl rfl rfl rfl rfl (fun _ _ => rfl) (fun _ _ _ => rfl)) (fun _ _ => stg_mem [3, 4] 5 [7, 5, 4, 3, 2, 1, 0] [] (fun _ => []) rfl rfl (prs_cons (pri rfl (p_field0 fo53_4 rfl)) (prs_cons (pri rfl (p_load1 t51 rfl rfl (g_row1 (k := 5) rfl rfl))) prs_nil)) rfl rfl rfl rfl rfl rfl rfl rfl rfl rfl rfl (fun _ _ => rfl) rfl (ms_callN (xs := [.tmp 23]) (ih st hsm).2 cb38 [] [(false, 9)] [] rfl rfl rfl rfl rfl rfl rfl rfl (fun _ _ => rfl) (fun _ _ _ => rfl)) (fun _ _ => stg_mem [] 6 [7, 6, 5, 4, 3, 2, 1, 0] [] (fun _ => []) rfl rfl prs_nil rfl rfl rfl rfl rfl rfl rfl rfl rfl rfl rfl (fun _ _ => rfl) rfl (ms_callN (xs := [.tmp 21, .tmp 24]) (join_spec _ _ _ _ _ _ _ _ ⟨by omega, by omega⟩ ⟨by omega, by omega⟩ ⟨by omega, by omega⟩ ⟨by omega, by omega⟩) cb53 [] [] [] rfl rfl rfl rfl rfl rfl rfl rfl (fun _ _ => rfl) (fun _ _ _ => rfl)) (fun _ _ => stg_mem0 [] 8 [8, 7, 6, 5, 4, 3, 2, 1, 0] [] (fun _ => []) rfl rfl prs_nil rfl rfl rfl rfl rfl rfl rfl rfl rfl (fun _ _ => rfl) rfl (ms_store_all (k := 6) t86 rfl rfl rfl rfl rfl rfl) (fun _ _ => stg_end [] rfl rfl prs_nil rfl rfl rfl ?_)))))) nx_nil)))
   ·refine r_here b6 trivial rfl rfl rfl
   ·refine r_here b6 trivial rfl rfl rfl
   ·refine r_here b6 trivial rfl rfl rfl
   ·refine r_here b6 trivial rfl rfl rfl
  ·refine r_seq (r_region ?_)
   refine r_p (p_field0 fo86_2 rfl) rfl ?_
   refine r_p (p_load1 t3 rfl rfl (g_row1 (k := 6) rfl rfl)) rfl ?_
   refine r_p (p_bin rfl rfl (b_add (by first | exact w_i64 (by omega) (by omega) | rfl))) rfl ?_
   refine r_p (p_field0 fo86_2 rfl) rfl ?_
   refine r_store_row (k := 6) t3 rfl rfl rfl rfl rfl rfl rfl rfl ?_
   refine r_nil (r_seq (r_region ?_))
   refine r_p (p_field0 fo86_0 rfl) rfl ?_
   refine r_p (p_load1 t3 rfl rfl (g_row1 (k := 6) rfl rfl)) rfl ?_
   refine r_p (p_bin rfl rfl (b_add (by first | exact w_i64 (by omega) (by omega) | rfl))) rfl ?_
   refine r_p (p_field0 fo86_0 rfl) rfl ?_
   refine r_store_row (k := 6) t3 rfl rfl rfl rfl rfl rfl rfl rfl ?_
   refine r_nil ?_
   refine r_seq_cut (X := Unit) (fun _ => True) (fun _ => [(0, sv v), (2, .pointer (some ⟨b2, 0, none⟩)), (3, .pointer (some ⟨b3, 0, none⟩)), (4, .int .i64 (i : Int)), (5, .pointer (some ⟨b5, 0, none⟩)), (6, .pointer (some ⟨b6, 0, none⟩))]) (fun _ => [(2, row b2 86 (zR 0 0 0 0)), (3, row b3 86 (zR (nYs (l.take i) : Int) (vYs (l.take i) : Int) (dSs (l.take i) : Int) (dqs (l.take i) : Int))), (5, row b5 53 (eTy st)), (6, row b6 86 (zR ((nYs st.body : Int) + (nYs st.els : Int) + 1) (((vYs st.body : Int) + (vYs st.els : Int)) + (if st.kind = 1 then 1 else 0 : Int)) (max (dSs st.body : Int) (dSs st.els : Int) + 1) (max (dqs st.body : Int) (dqs st.els : Int))))]) (fun _ => [(0, tysA v l), (1, sl 5 eTy (sv v) l), (7, txsA st.ve st.es), (8, tysA st.vb st.body), (9, tysA st.vl st.els), (10, sl 4 eTx (sv st.ve) st.es)]) ?_ (fun _ _ => ?_)
   ·refine r_seq (r_region ?_)
    refine r_p (p_field0 fo53_0 rfl) rfl ?_
    refine r_p (p_load1 t3 rfl rfl (g_row1 (k := 5) rfl rfl)) rfl ?_
    refine r_p (p_bin rfl rfl b_eq) rfl ?_
    refine r_nil ?_
    refine r_cond rfl (fun h2 => ?_) (fun h2 => ?_)
    ·have q1 : st.kind = 1 := of_decide_eq_true h2
     refine r_region ?_
     refine r_p (p_field0 fo86_1 rfl) rfl ?_
     refine r_p (p_load1 t3 rfl rfl (g_row1 (k := 6) rfl rfl)) rfl ?_
     refine r_p (p_bin rfl rfl (b_add (by first | exact w_i64 (by omega) (by omega) | rfl))) rfl ?_
     refine r_p (p_field0 fo86_1 rfl) rfl ?_
     refine r_store_row (k := 6) t3 rfl rfl rfl rfl rfl rfl rfl rfl ?_
     refine r_nil ?_
     refine r_here () trivial rfl (by rw [if_pos q1]; rfl) rfl
    ·have q1 : ¬ st.kind = 1 := of_decide_eq_false h2
     refine r_skip ?_
     refine r_here () trivial rfl (by rw [if_neg q1, Int.add_zero]; rfl) rfl
   ·refine r_seq (r_seq (r_region (r_p (p_assign rfl) rfl (r_nil (r_block ?_)))))
    refine r_loop (X := Nat) (fun j => j ≤ st.es.length) (fun j => [(0, sv v), (2, .pointer (some ⟨b2, 0, none⟩)), (3, .pointer (some ⟨b3, 0, none⟩)), (4, .int .i64 (i : Int)), (5, .pointer (some ⟨b5, 0, none⟩)), (6, .pointer (some ⟨b6, 0, none⟩)), (7, .int .i64 (j : Int))]) (fun j => [(2, row b2 86 (zR 0 0 0 0)), (3, row b3 86 (zR (nYs (l.take i) : Int) (vYs (l.take i) : Int) (dSs (l.take i) : Int) (dqs (l.take i) : Int))), (5, row b5 53 (eTy st)), (6, row b6 86 (zR (((nYs st.body : Int) + (nYs st.els : Int) + 1) + (nXs (st.es.take j) : Int)) (((vYs st.body : Int) + (vYs st.els : Int)) + (if st.kind = 1 then 1 else 0 : Int)) (max (dSs st.body : Int) (dSs st.els : Int) + 1) (max (max (dqs st.body : Int) (dqs st.els : Int)) (dXs (st.es.take j) : Int))))]) (fun j => [(0, tysA v l), (1, sl 5 eTy (sv v) l), (7, txsA st.ve st.es), (8, tysA st.vb st.body), (9, tysA st.vl st.els), (10, sl 4 eTx (sv st.ve) st.es)]) (fun j => st.es.length - j) 0 (Nat.zero_le _) rfl (by rw [show (((nYs st.body : Int) + (nYs st.els : Int) + 1) + (nXs (st.es.take 0) : Int)) = ((nYs st.body : Int) + (nYs st.els : Int) + 1) by simp [nXs], show max (max (dqs st.body : Int) (dqs st.els : Int)) (dXs (st.es.take 0) : Int) = (max (dqs st.body : Int) (dqs st.els : Int)) by simp [dXs] <;> omega]; rfl) rfl (fun j n2 => ?_)
    refine r_seq (r_seq (r_region (r_p (p_move rfl) rfl ?_)))
    refine r_p (p_field0 fo53_2 rfl) rfl ?_
    refine r_p (p_load1 t46 rfl rfl (g_row1 (k := 5) rfl rfl)) rfl ?_
    refine r_p (p_len_sl Tryz.underlying46 rfl (hs_sl (k := 10) rfl)) rfl ?_
    refine r_p (p_bin rfl rfl b_lt) rfl ?_
    refine r_nil ?_
    refine r_cond rfl (fun h3 => ?_) (fun h3 => ?_)
    ·(try simp only [decide_eq_true_eq, decide_eq_false_iff_not, Bool.and_eq_true, Bool.or_eq_true, Bool.and_eq_false_iff, Bool.or_eq_false_iff, Bool.not_eq_true, Bool.not_eq_false, Bool.not_eq_true', Bool.not_eq_false', Bool.not_not, bne_iff_ne, beq_iff_eq] at h3)
     have hj : j < st.es.length := by omega
     obtain ⟨u, hu⟩ : ∃ k, st.es[j]? = some k := ⟨_, List.getElem?_eq_getElem hj⟩
     have hum := List.mem_of_getElem? hu
     refine r_more 7 11 rfl (txs_kid hum) ?_
     have hlx := nXs_le st.es (j + 1)
     rw [nXs_take hu] at hlx
     have hdu := dX_le u
     refine r_skip (r_seq (r_block ?_))
     refine r_draw [48, 49, 50, 51, 52, 53, 54, 55] _ rfl (stg_mem (V := [(0, 48, _), (1, 49, _), (2, 50, _), (3, 51, _), (4, 52, _), (5, 53, _)]) [0, 1, 2, 3, 4, 5] 6 [6, 5, 4, 3, 2, 1] [] (fun _ => []) rfl rfl (prs_cons (pri rfl (p_loadA t86 rfl rfl rfl (g_all (k := 6) rfl))) (prs_cons (pri rfl (p_field0 fo53_2 rfl)) (prs_cons (pri rfl (p_load1 t46 rfl rfl (g_row1 (k := 5) rfl rfl))) (prs_cons (pri rfl (p_move rfl)) (prs_cons (pri rfl (p_idx_sl (j := j) Tryz.underlying46 t48 rfl rfl (hs_sl (k := 10) rfl) (by first | rfl | omega) (by first | omega | (simp; done) | (simp; omega)))) (prs_cons (pri rfl (p_loadA t48 rfl rfl rfl (g_el' (hs_sl (k := 10) rfl) (by intro _; rfl) hu (by rfl)))) prs_nil)))))) rfl rfl rfl rfl rfl rfl rfl rfl rfl rfl rfl (fun _ _ => rfl) rfl (ms_callN (xs := [.tmp 53]) (exprsize_spec u (hsg.2.mem u hum) (by omega)) cb54 [] [(false, 11)] [] rfl rfl rfl rfl rfl rfl rfl rfl (fun _ _ => rfl) (fun _ _ _ => rfl)) (fun _ _ => stg_mem [0] 7 [7, 6, 5, 4, 3, 2, 1, 0] [] (fun _ => []) rfl rfl (prs_cons (pri rfl (p_loadA t86 rfl rfl rfl (g_all (k := 6) rfl))) prs_nil) rfl rfl rfl rfl rfl rfl rfl rfl rfl rfl rfl (fun _ _ => rfl) rfl (ms_callN (xs := [.tmp 48, .tmp 54]) (join_spec (((nYs st.body : Int) + (nYs st.els : Int) + 1) + (nXs (st.es.take j) : Int)) (((vYs st.body : Int) + (vYs st.els : Int)) + (if st.kind = 1 then 1 else 0 : Int)) (max (dSs st.body : Int) (dSs st.els : Int) + 1) (max (max (dqs st.body : Int) (dqs st.els : Int)) (dXs (st.es.take j) : Int)) (nX u : Int) 0 0 (dX u : Int) ⟨by omega, by omega⟩ ⟨by omega, by omega⟩ ⟨by omega, by omega⟩ ⟨by omega, by omega⟩) cb53 [] [] [] rfl rfl rfl rfl rfl rfl rfl rfl (fun _ _ => rfl) (fun _ _ _ => rfl)) (fun _ _ => stg_mem0 [] 8 [8, 7, 6, 5, 4, 3, 2, 1, 0] [] (fun _ => []) rfl rfl prs_nil rfl rfl rfl rfl rfl rfl rfl rfl rfl (fun _ _ => rfl) rfl (ms_store_all (k := 6) t86 rfl rfl rfl rfl rfl rfl) (fun _ _ => stg_end [] rfl rfl prs_nil rfl rfl rfl ?_))))
     refine r_region (r_p (p_move rfl) rfl ?_)
     refine r_p (p_bin rfl rfl (b_add (by first | exact w_i64 (by omega) (by omega) | rfl))) rfl ?_
     refine r_p (p_assign rfl) rfl (r_nil ?_)
     refine r_here (j + 1) ⟨by omega, by omega⟩ rfl (by rw [zR_eq (n := ((nYs st.body : Int) + (nYs st.els : Int) + 1) + ((nXs (st.es.take (j + 1)) : Nat) : Int)) (v := ((vYs st.body : Int) + (vYs st.els : Int)) + (if st.kind = 1 then 1 else 0 : Int)) (s := (max (dSs st.body : Int) (dSs st.els : Int) + 1)) (e := max (max (dqs st.body : Int) (dqs st.els : Int)) ((dXs (st.es.take (j + 1)) : Nat) : Int)) (n' := ((nYs st.body : Int) + (nYs st.els : Int) + 1) + (nXs (st.es.take j) : Int) + (nX u : Int)) (v' := ((vYs st.body : Int) + (vYs st.els : Int)) + (if st.kind = 1 then 1 else 0 : Int) + 0) (s' := max (max (dSs st.body : Int) (dSs st.els : Int) + 1) 0) (e' := max (max (max (dqs st.body : Int) (dqs st.els : Int)) (dXs (st.es.take j) : Int)) (dX u : Int)) (by rw [nXs_take hu] <;> omega) (by rw [Int.add_zero]) (by omega) (by rw [dXs_take hu] <;> omega)]; rfl) rfl
    ·(try simp only [decide_eq_true_eq, decide_eq_false_iff_not, Bool.and_eq_true, Bool.or_eq_true, Bool.and_eq_false_iff, Bool.or_eq_false_iff, Bool.not_eq_true, Bool.not_eq_false, Bool.not_eq_true', Bool.not_eq_false', Bool.not_not, bne_iff_ne, beq_iff_eq] at h3)
     have hj : j = st.es.length := by omega
     subst hj
     rw [List.take_length]
     refine r_exit (r_region ?_)
     refine r_p (p_loadA t86 rfl rfl rfl (g_all (k := 3) rfl)) rfl ?_
     refine r_p (p_loadA t86 rfl rfl rfl (g_all (k := 6) rfl)) rfl ?_
     refine r_callN (xs := [.tmp 56, .tmp 57]) (join_spec (nYs (l.take i) : Int) (vYs (l.take i) : Int) (dSs (l.take i) : Int) (dqs (l.take i) : Int) (((nYs st.body : Int) + (nYs st.els : Int) + 1) + (nXs st.es : Int)) (((vYs st.body : Int) + (vYs st.els : Int)) + (if st.kind = 1 then 1 else 0 : Int)) (max (dSs st.body : Int) (dSs st.els : Int) + 1) (max (max (dqs st.body : Int) (dqs st.els : Int)) (dXs st.es : Int)) ⟨by omega, by omega⟩ ⟨by omega, by omega⟩ ⟨by omega, by omega⟩ ⟨by omega, by omega⟩) cb53 [] [] [] rfl rfl rfl rfl rfl rfl rfl rfl (fun _ _ => rfl) (fun _ _ _ => rfl) rfl (fun _ _ => ?_)
     refine r_store_all (k := 3) t86 rfl rfl rfl rfl rfl rfl ?_
     refine r_nil (r_region (r_p (p_move rfl) rfl ?_))
     refine r_p (p_bin rfl rfl (b_add (by first | exact w_i64 (by omega) (by omega) | rfl))) rfl ?_
     refine r_p (p_assign rfl) rfl (r_nil ?_)
     refine r_here (i + 1) ⟨by omega, by omega⟩ rfl (by rw [zR_eq (n := ((nYs (l.take (i + 1)) : Nat) : Int)) (v := ((vYs (l.take (i + 1)) : Nat) : Int)) (s := ((dSs (l.take (i + 1)) : Nat) : Int)) (e := ((dqs (l.take (i + 1)) : Nat) : Int)) (n' := (nYs (l.take i) : Int) + (((nYs st.body : Int) + (nYs st.els : Int) + 1) + (nXs st.es : Int))) (v' := (vYs (l.take i) : Int) + (((vYs st.body : Int) + (vYs st.els : Int)) + (if st.kind = 1 then 1 else 0 : Int))) (s' := max (dSs (l.take i) : Int) (max (dSs st.body : Int) (dSs st.els : Int) + 1)) (e' := max (dqs (l.take i) : Int) (max (max (dqs st.body : Int) (dqs st.els : Int)) (dXs st.es : Int))) (by rw [nYs_take hst] <;> omega) (by rw [vYs_take hst, Int.natCast_add, hvy2]) (by rw [dSs_take hst, dS_eq] <;> omega) (by rw [dqs_take hst, dq_eq] <;> omega)]; rfl) rfl
 ·(try simp only [decide_eq_true_eq, decide_eq_false_iff_not, Bool.and_eq_true, Bool.or_eq_true, Bool.and_eq_false_iff, Bool.or_eq_false_iff, Bool.not_eq_true, Bool.not_eq_false, Bool.not_eq_true', Bool.not_eq_false', Bool.not_not, bne_iff_ne, beq_iff_eq] at h1)
  have hi : i = l.length := by omega
  subst hi
  rw [List.take_length]
  refine r_exit (r_seq (r_region ?_))
  refine r_p (p_loadA t86 rfl rfl rfl (g_all (k := 3) rfl)) rfl ?_
  refine r_store_all (k := 2) t86 rfl rfl rfl rfl rfl rfl ?_
  refine r_nil (r_cret ?_)
  refine r_ret () trivial rfl (rs1 (rv_cellA t86 rfl rfl rfl (g_all (k := 2) rfl))) rfl [] [] rfl rfl rfl
theorem stmtsize_all : ∀ (n : Nat) (v : SV) (l : List Ty), SizeOf.sizeOf l < n → l.length ≤ 1000000 → GYs l → nYs l ≤ 1000000 → HSz v l
 | 0, _, _, h, _, _, _ => absurd h (Nat.not_lt_zero _)
 | n + 1, v, l, h, hl, hg, hn => stmtsize_step v l hn hl hg fun u hu => by
  have h1 := List.sizeOf_lt_of_mem hu
  have h2 : SizeOf.sizeOf u.body < SizeOf.sizeOf u ∧ SizeOf.sizeOf u.els < SizeOf.sizeOf u := by
   cases u
   simp only [Ty.mk.sizeOf_spec, Ty.body, Ty.els]
   omega
  have h3 := hg.mem u hu
  obtain ⟨i, hi⟩ := List.getElem?_of_mem hu
  have hle := nYs_le l (i + 1)
  rw [nYs_take hi] at hle
  have h4 := nY_def u
  exact ⟨stmtsize_all n u.vb u.body (by omega) (GY_body h3).1 (GY_body h3).2 (by omega), stmtsize_all n u.vl u.els (by omega) (GY_els h3).1 (GY_els h3).2 (by omega)⟩
theorem stmtsize_spec (v : SV) (l : List Ty) (hl : l.length ≤ 1000000) (hg : GYs l) (hn : nYs l ≤ 1000000) : HSz v l := stmtsize_all _ v l (Nat.lt_succ_self _) hl hg hn
end Go.Proofs.YtdcbbkpdlcojfaaGreat
