/-
  Part of the proof: the texts AP, AQ, AR, AS, AT, AU, AE, AF, KD, AG, AH, AV, AW, KG. Conditions are with the theorems.
-/
import Derived.Orders
import Derived.Recover
import Derived.Test.YtdcbbkpdlcojfaaP11a
import Derived.Test.YtdcbbkpdlcojfaaP11b
namespace Go.Proofs.Ytdcbbkpdlcojfaa
set_option linter.unusedSimpArgs false
set_option linter.unusedVariables false
open Go.RowKit

def vI (p : ByteArray × Int) : Value := .int .i64 p.2
theorem okX_1 {k : Int} {nm : ByteArray} {n : Nat} (h : k = 1 ∨ k = 5) : okX k nm n = ((nm == ⟨#[]⟩) && decide ((n : Int) = 0)) := by
  unfold okX
  rw [if_pos h, ba_eq]
  congr 1
  exact decide_eq_decide.2 (by omega)
theorem okX_2 {k : Int} {nm : ByteArray} {n : Nat} (h : k = 2) : okX k nm n = (identB nm && decide ((n : Int) = 0)) := by
  subst h
  show (identB nm && decide (n = 0)) = _
  congr 1
  exact decide_eq_decide.2 (by omega)
theorem okX_3 {k : Int} {nm : ByteArray} {n : Nat} (h : k = 3) : okX k nm n = identB nm := by
  subst h
  rfl
theorem okX_4 {k : Int} {nm : ByteArray} {n : Nat} (h : k = 4) : okX k nm n = ((nm == ⟨#[]⟩) && decide ((n : Int) = 1)) := by
  subst h
  show (decide (nm = oNil) && decide (n = 1)) = _
  rw [ba_eq]
  congr 1
  exact decide_eq_decide.2 (by omega)
theorem okX_6 {k : Int} {nm : ByteArray} {n : Nat} (h : k = 6) : okX k nm n = (memB nm unL && decide ((n : Int) = 1)) := by
  subst h
  show (memB nm unL && decide (n = 1)) = _
  congr 1
  exact decide_eq_decide.2 (by omega)
theorem okX_7 {k : Int} {nm : ByteArray} {n : Nat} (h : k = 7) : okX k nm n = (isBin nm && decide ((n : Int) = 2)) := by
  subst h
  show (isBin nm && decide (n = 2)) = _
  congr 1
  exact decide_eq_decide.2 (by omega)
theorem okX_0 {k : Int} {nm : ByteArray} {n : Nat} (h1 : ¬ k = 1) (h5 : ¬ k = 5) (h2 : ¬ k = 2) (h3 : ¬ k = 3) (h4 : ¬ k = 4) (h6 : ¬ k = 6) (h7 : ¬ k = 7) : okX k nm n = false := by
  unfold okX
  rw [if_neg (fun h => h.elim h1 h5), if_neg h2, if_neg h3, if_neg h4, if_neg h6, if_neg h7]
theorem not_any_not {α : Type} (p : α → Bool) : ∀ l : List α, (!(l.any fun x => !p x)) = l.all p
  | [] => rfl
  | a :: r => by rw [List.any_cons, List.all_cons, ← not_any_not p r]; cases p a <;> simp
theorem rX_eq (t : Tx) : rX t = (okX t.kind t.name t.kids.length && (decide (t.kind = 1) || decide (t.n = 0)) && !(t.kids.any fun u => !rX u)) := by
  rw [not_any_not]
  cases t
  rw [rX, rXs_all]
  rfl
set_option maxHeartbeats 1000000 in
set_option maxRecDepth 100000 in
theorem levels_spec  :
    Spec Try.prog 107 [] [] [] (X := Nat) (fun _ => True) (fun b => .map (some b)) (fun b => [mp mkS Prod.fst vI (some b) lvL]) (fun _ => []) := by
  refine r_enter Try.func107 rfl Try.ntmps107 rfl fun w0 M H => ?_
  refine r_seq ?_
  refine r_region ?_
  refine r_p (p_assign rfl) rfl ?_
  refine r_nil ?_
  refine r_seq ?_
  refine r_region ?_
  refine r_makeMap (Prod.fst : ByteArray × Int → ByteArray) mkS vI rfl fun b1 => ?_
  refine r_insert (k := 1) (α := ByteArray × Int) (kf := Prod.fst) (vf := vI) (oOr, 0) [(oOr, 0)] Try.underlying144 keyS rfl rfl rfl rfl (List.Perm.of_eq rfl) ?_
  refine r_insert (k := 1) (α := ByteArray × Int) (kf := Prod.fst) (vf := vI) (oXor, 1) [(oXor, 1), (oOr, 0)] Try.underlying144 keyS rfl rfl rfl rfl (List.Perm.of_eq rfl) ?_
  refine r_insert (k := 1) (α := ByteArray × Int) (kf := Prod.fst) (vf := vI) (oAnd, 2) [(oAnd, 2), (oXor, 1), (oOr, 0)] Try.underlying144 keyS rfl rfl rfl rfl (List.Perm.of_eq rfl) ?_
  refine r_insert (k := 1) (α := ByteArray × Int) (kf := Prod.fst) (vf := vI) (oEq, 3) [(oEq, 3), (oAnd, 2), (oXor, 1), (oOr, 0)] Try.underlying144 keyS rfl rfl rfl rfl (List.Perm.of_eq rfl) ?_
  refine r_insert (k := 1) (α := ByteArray × Int) (kf := Prod.fst) (vf := vI) (oNe, 3) [(oNe, 3), (oEq, 3), (oAnd, 2), (oXor, 1), (oOr, 0)] Try.underlying144 keyS rfl rfl rfl rfl (List.Perm.of_eq rfl) ?_
  refine r_insert (k := 1) (α := ByteArray × Int) (kf := Prod.fst) (vf := vI) (oLt, 4) [(oLt, 4), (oNe, 3), (oEq, 3), (oAnd, 2), (oXor, 1), (oOr, 0)] Try.underlying144 keyS rfl rfl rfl rfl (List.Perm.of_eq rfl) ?_
  refine r_insert (k := 1) (α := ByteArray × Int) (kf := Prod.fst) (vf := vI) (oLe, 4) [(oLe, 4), (oLt, 4), (oNe, 3), (oEq, 3), (oAnd, 2), (oXor, 1), (oOr, 0)] Try.underlying144 keyS rfl rfl rfl rfl (List.Perm.of_eq rfl) ?_
  refine r_insert (k := 1) (α := ByteArray × Int) (kf := Prod.fst) (vf := vI) (oGt, 4) [(oGt, 4), (oLe, 4), (oLt, 4), (oNe, 3), (oEq, 3), (oAnd, 2), (oXor, 1), (oOr, 0)] Try.underlying144 keyS rfl rfl rfl rfl (List.Perm.of_eq rfl) ?_
  refine r_insert (k := 1) (α := ByteArray × Int) (kf := Prod.fst) (vf := vI) (oGe, 4) [(oGe, 4), (oGt, 4), (oLe, 4), (oLt, 4), (oNe, 3), (oEq, 3), (oAnd, 2), (oXor, 1), (oOr, 0)] Try.underlying144 keyS rfl rfl rfl rfl (List.Perm.of_eq rfl) ?_
  refine r_insert (k := 1) (α := ByteArray × Int) (kf := Prod.fst) (vf := vI) (oShl, 5) [(oShl, 5), (oGe, 4), (oGt, 4), (oLe, 4), (oLt, 4), (oNe, 3), (oEq, 3), (oAnd, 2), (oXor, 1), (oOr, 0)] Try.underlying144 keyS rfl rfl rfl rfl (List.Perm.of_eq rfl) ?_
  refine r_insert (k := 1) (α := ByteArray × Int) (kf := Prod.fst) (vf := vI) (oShr, 5) [(oShr, 5), (oShl, 5), (oGe, 4), (oGt, 4), (oLe, 4), (oLt, 4), (oNe, 3), (oEq, 3), (oAnd, 2), (oXor, 1), (oOr, 0)] Try.underlying144 keyS rfl rfl rfl rfl (List.Perm.of_eq rfl) ?_
  refine r_insert (k := 1) (α := ByteArray × Int) (kf := Prod.fst) (vf := vI) (oAdd, 6) [(oAdd, 6), (oShr, 5), (oShl, 5), (oGe, 4), (oGt, 4), (oLe, 4), (oLt, 4), (oNe, 3), (oEq, 3), (oAnd, 2), (oXor, 1), (oOr, 0)] Try.underlying144 keyS rfl rfl rfl rfl (List.Perm.of_eq rfl) ?_
  refine r_insert (k := 1) (α := ByteArray × Int) (kf := Prod.fst) (vf := vI) (oSub, 6) [(oSub, 6), (oAdd, 6), (oShr, 5), (oShl, 5), (oGe, 4), (oGt, 4), (oLe, 4), (oLt, 4), (oNe, 3), (oEq, 3), (oAnd, 2), (oXor, 1), (oOr, 0)] Try.underlying144 keyS rfl rfl rfl rfl (List.Perm.of_eq rfl) ?_
  refine r_insert (k := 1) (α := ByteArray × Int) (kf := Prod.fst) (vf := vI) (oMul, 7) [(oMul, 7), (oSub, 6), (oAdd, 6), (oShr, 5), (oShl, 5), (oGe, 4), (oGt, 4), (oLe, 4), (oLt, 4), (oNe, 3), (oEq, 3), (oAnd, 2), (oXor, 1), (oOr, 0)] Try.underlying144 keyS rfl rfl rfl rfl (List.Perm.of_eq rfl) ?_
  refine r_insert (k := 1) (α := ByteArray × Int) (kf := Prod.fst) (vf := vI) (oQuo, 7) [(oQuo, 7), (oMul, 7), (oSub, 6), (oAdd, 6), (oShr, 5), (oShl, 5), (oGe, 4), (oGt, 4), (oLe, 4), (oLt, 4), (oNe, 3), (oEq, 3), (oAnd, 2), (oXor, 1), (oOr, 0)] Try.underlying144 keyS rfl rfl rfl rfl (List.Perm.of_eq rfl) ?_
  refine r_insert (k := 1) (α := ByteArray × Int) (kf := Prod.fst) (vf := vI) (oRem, 7) [(oRem, 7), (oQuo, 7), (oMul, 7), (oSub, 6), (oAdd, 6), (oShr, 5), (oShl, 5), (oGe, 4), (oGt, 4), (oLe, 4), (oLt, 4), (oNe, 3), (oEq, 3), (oAnd, 2), (oXor, 1), (oOr, 0)] Try.underlying144 keyS rfl rfl rfl rfl (List.Perm.of_eq rfl) ?_
  refine r_p (p_move rfl) rfl ?_
  refine r_p (p_assign rfl) rfl ?_
  refine r_nil ?_
  refine r_cret ?_
  refine r_ret b1 trivial rfl (rs1 (rv_tmp rfl)) rfl [1] [] rfl rfl rfl
set_option maxRecDepth 100000 in
theorem rx1_spec (v : SV) (l : List Tx) (ih : ∀ u ∈ l, Spec Try.prog 105 [xV u] [] [txsA u.v u.kids] (X := Unit) (fun _ => True) (fun _ => .bool (rX u)) (fun _ => []) (fun _ => [])) (u : Tx) (hu : u ∈ l) :
    Spec Try.prog 108 [xV u] [] [txsA v l] (X := Unit) (fun _ => True) (fun _ => .bool (!rX u)) (fun _ => []) (fun _ => []) := by
  refine r_enter Try.func108 rfl Try.ntmps108 rfl fun w0 M H => ?_
  refine r_more 0 7 rfl (txs_kid hu) ?_
  refine r_seq ?_
  refine r_region ?_
  refine r_boxA rfl rfl fun b1 => ?_
  refine r_p (p_assign rfl) rfl ?_
  refine r_nil ?_
  refine r_seq ?_
  refine r_region ?_
  refine r_p (p_loadA t57 rfl rfl rfl (g_all (k := 1) rfl)) rfl ?_
  refine r_call (xs := [.tmp 3]) (ih u hu) cb105 [] [(false, 7)] [] [] rfl rfl rfl rfl rfl rfl rfl rfl (fun _ _ => rfl) (fun _ _ _ => rfl) rfl (fun _ _ => ?_)
  refine r_p (p_not rfl) rfl ?_
  refine r_p (p_assign rfl) rfl ?_
  refine r_nil ?_
  refine r_cret ?_
  refine r_ret () trivial rfl (rs1 (rv_tmp rfl)) rfl [] [] rfl rfl rfl
set_option maxRecDepth 100000 in
theorem rx2_spec (v : SV) (l : List Tx) (ih : ∀ u ∈ l, Spec Try.prog 105 [xV u] [] [txsA u.v u.kids] (X := Unit) (fun _ => True) (fun _ => .bool (rX u)) (fun _ => []) (fun _ => [])) (u : Tx) (hu : u ∈ l) :
    Spec Try.prog 104 [xV u] [] [txsA v l] (X := Unit) (fun _ => True) (fun _ => .bool (!rX u)) (fun _ => []) (fun _ => []) := by
  refine r_enter Try.func104 rfl Try.ntmps104 rfl fun w0 M H => ?_
  refine r_more 0 7 rfl (txs_kid hu) ?_
  refine r_seq ?_
  refine r_region ?_
  refine r_boxA rfl rfl fun b1 => ?_
  refine r_p (p_assign rfl) rfl ?_
  refine r_nil ?_
  refine r_seq ?_
  refine r_region ?_
  refine r_p (p_loadA t57 rfl rfl rfl (g_all (k := 1) rfl)) rfl ?_
  refine r_call (xs := [.tmp 3]) (ih u hu) cb105 [] [(false, 7)] [] [] rfl rfl rfl rfl rfl rfl rfl rfl (fun _ _ => rfl) (fun _ _ _ => rfl) rfl (fun _ _ => ?_)
  refine r_p (p_not rfl) rfl ?_
  refine r_p (p_assign rfl) rfl ?_
  refine r_nil ?_
  refine r_cret ?_
  refine r_ret () trivial rfl (rs1 (rv_tmp rfl)) rfl [] [] rfl rfl rfl
set_option maxHeartbeats 4000000 in
set_option maxRecDepth 100000 in
theorem rx_step (t : Tx) (ht : GX t) (ih : ∀ u ∈ t.kids, Spec Try.prog 105 [xV u] [] [txsA u.v u.kids] (X := Unit) (fun _ => True) (fun _ => .bool (rX u)) (fun _ => []) (fun _ => [])) :
    Spec Try.prog 105 [xV t] [] [txsA t.v t.kids] (X := Unit) (fun _ => True) (fun _ => .bool (rX t)) (fun _ => []) (fun _ => []) := by
  refine r_enter Try.func105 rfl Try.ntmps105 rfl fun w0 M H => ?_
  refine r_more 0 1 rfl txs_sl ?_
  have hnm := GX_name ht
  have hkl := GX_len ht
  refine r_seq ?_
  refine r_region ?_
  refine r_boxA rfl rfl fun b1 => ?_
  refine r_p (p_assign rfl) rfl ?_
  refine r_nil ?_
  refine r_seq ?_
  refine r_region ?_
  refine r_p (p_assign rfl) rfl ?_
  refine r_nil ?_
  refine r_seq ?_
  refine r_drawM [0, 1, 2, 3, 4, 5, 6, 7, 8] [0, 1, 2, 3, 4, 5, 7, 6, 8] [7, 8, 9, 10, 6, 11, 12, 4, 5] _ rfl rfl rfl (stg_mem (V := [(1, 8, _), (2, 9, _)]) [1, 2] 0 [0] [3, 4, 5, 6, 7, 8] (fun bm => [(3, 10, _), (4, 6, _), (5, 11, _), (6, 12, _), (7, 4, _), (8, 5, _)]) rfl rfl (prs_cons (pri rfl (p_field0 fo57_2 rfl)) (prs_cons (pri rfl (p_load1 t9 rfl rfl (g_row1 (k := 1) rfl rfl))) prs_nil)) rfl rfl rfl rfl rfl rfl rfl rfl rfl rfl rfl (fun _ _ => rfl) rfl (ms_call (xs := []) levels_spec cb107 [] [] [60] [] rfl rfl rfl rfl rfl rfl rfl rfl (fun _ _ => rfl) (fun _ _ _ => rfl)) (fun bm _ => stg_end [3, 4, 5, 6, 7, 8, 1, 2] rfl rfl (prs_cons (pri rfl (p_lookup Try.underlying144 keyS t3 rfl rfl (hm_own (k := 60) rfl) rfl)) (prs_cons (pri rfl (p_move rfl)) (prs_cons (pri rfl (p_extract rfl rfl)) (prs_cons (pri rfl (p_extract rfl rfl)) (prs_cons (pri rfl (p_assign rfl)) (prs_cons (pri rfl (p_assign rfl)) (prs_cons (pri rfl (p_field0 fo57_2 rfl)) (prs_cons (pri rfl (p_load1 t9 rfl rfl (g_row1 (k := 1) rfl rfl))) prs_nil)))))))) rfl rfl rfl ?_))
  refine r_seq_cut (X := Unit) (fun _ => True) (fun _ => [(1, .pointer (some ⟨b1, 0, none⟩)), (3, .bool (okX t.kind t.name t.kids.length))]) (fun _ => [(1, row b1 57 (eTx t))]) (fun _ => [(0, txsA t.v t.kids), (1, sl 4 eTx (sv t.v) t.kids)]) ?_ (fun _ _ => ?_)
  · refine r_seq ?_
    refine r_region ?_
    refine r_p (p_field0 fo57_0 rfl) rfl ?_
    refine r_p (p_load1 t3 rfl rfl (g_row1 (k := 1) rfl rfl)) rfl ?_
    refine r_nil ?_
    refine r_block ?_
    refine r_seq ?_
    refine r_seq ?_
    refine r_region ?_
    refine r_p (p_bin rfl rfl b_eq) rfl ?_
    refine r_p (p_assign rfl) rfl ?_
    refine r_nil ?_
    refine r_cond rfl (fun h1 => ?_) (fun h1 => ?_)
    · have q1 : t.kind = 1 := of_decide_eq_true h1
      refine r_skip ?_
      refine r_cond rfl (fun h2 => ?_) (fun h2 => ?_)
      · (try simp only [decide_eq_true_eq, decide_eq_false_iff_not, Bool.and_eq_true, Bool.or_eq_true, Bool.and_eq_false_iff, Bool.or_eq_false_iff, Bool.not_eq_true, Bool.not_eq_false, Bool.not_eq_true', Bool.not_eq_false', Bool.not_not, bne_iff_ne, beq_iff_eq] at h2)
        refine r_region ?_
        refine r_p (p_field0 fo57_2 rfl) rfl ?_
        refine r_p (p_load1 t9 rfl rfl (g_row1 (k := 1) rfl rfl)) rfl ?_
        refine r_p (p_bin rfl rfl b_seq) rfl ?_
        refine r_p (p_move rfl) rfl ?_
        refine r_gp [] rfl rfl trivial (fun hg3 => p_field0 fo57_3 rfl) rfl ?_
        refine r_gp [(22, _)] rfl rfl ⟨rfl, trivial⟩ (fun hg4 => p_load1 t51 rfl rfl (g_row1 (k := 1) rfl rfl)) rfl ?_
        refine r_gp [(22, _), (23, _)] rfl rfl ⟨rfl, rfl, trivial⟩ (fun hg5 => p_len_sl Try.underlying51 rfl (hs_sl (k := 1) rfl)) rfl ?_
        refine r_gp [(22, _), (23, _), (24, _)] rfl rfl ⟨rfl, rfl, rfl, trivial⟩ (fun hg6 => p_bin rfl rfl b_eq) rfl ?_
        refine r_p (p_pick rfl rfl rfl (by first | exact pick_and | exact pick_or |  rfl)) rfl ?_
        refine r_p (p_assign rfl) rfl ?_
        refine r_nil ?_
        refine r_here () trivial (by rw [okX_1 (.inl q1)]; rfl) rfl rfl
      · exact absurd (decide_eq_true q1) (by rw [h2]; simp)
    · have q1 : ¬ t.kind = 1 := of_decide_eq_false h1
      refine r_region ?_
      refine r_p (p_bin rfl rfl b_eq) rfl ?_
      refine r_p (p_assign rfl) rfl ?_
      refine r_nil ?_
      refine r_cond rfl (fun h7 => ?_) (fun h7 => ?_)
      · have q5 : t.kind = 5 := of_decide_eq_true h7
        refine r_region ?_
        refine r_p (p_field0 fo57_2 rfl) rfl ?_
        refine r_p (p_load1 t9 rfl rfl (g_row1 (k := 1) rfl rfl)) rfl ?_
        refine r_p (p_bin rfl rfl b_seq) rfl ?_
        refine r_p (p_move rfl) rfl ?_
        refine r_gp [] rfl rfl trivial (fun hg8 => p_field0 fo57_3 rfl) rfl ?_
        refine r_gp [(22, _)] rfl rfl ⟨rfl, trivial⟩ (fun hg9 => p_load1 t51 rfl rfl (g_row1 (k := 1) rfl rfl)) rfl ?_
        refine r_gp [(22, _), (23, _)] rfl rfl ⟨rfl, rfl, trivial⟩ (fun hg10 => p_len_sl Try.underlying51 rfl (hs_sl (k := 1) rfl)) rfl ?_
        refine r_gp [(22, _), (23, _), (24, _)] rfl rfl ⟨rfl, rfl, rfl, trivial⟩ (fun hg11 => p_bin rfl rfl b_eq) rfl ?_
        refine r_p (p_pick rfl rfl rfl (by first | exact pick_and | exact pick_or |  rfl)) rfl ?_
        refine r_p (p_assign rfl) rfl ?_
        refine r_nil ?_
        refine r_here () trivial (by rw [okX_1 (.inr q5)]; rfl) rfl rfl
      · have q5 : ¬ t.kind = 5 := of_decide_eq_false h7
        refine r_seq ?_
        refine r_region ?_
        refine r_p (p_bin rfl rfl b_eq) rfl ?_
        refine r_p (p_assign rfl) rfl ?_
        refine r_nil ?_
        refine r_cond rfl (fun h12 => ?_) (fun h12 => ?_)
        · have q2 : t.kind = 2 := of_decide_eq_true h12
          refine r_region ?_
          refine r_p (p_field0 fo57_2 rfl) rfl ?_
          refine r_p (p_load1 t9 rfl rfl (g_row1 (k := 1) rfl rfl)) rfl ?_
          refine r_call (xs := [.tmp 30]) (ident_spec t.name hnm.1 hnm.2) cb77 [] [] [] [] rfl rfl rfl rfl rfl rfl rfl rfl (fun _ _ => rfl) (fun _ _ _ => rfl) rfl (fun _ _ => ?_)
          refine r_p (p_move rfl) rfl ?_
          refine r_gp [] rfl rfl trivial (fun hg13 => p_field0 fo57_3 rfl) rfl ?_
          refine r_gp [(33, _)] rfl rfl ⟨rfl, trivial⟩ (fun hg14 => p_load1 t51 rfl rfl (g_row1 (k := 1) rfl rfl)) rfl ?_
          refine r_gp [(33, _), (34, _)] rfl rfl ⟨rfl, rfl, trivial⟩ (fun hg15 => p_len_sl Try.underlying51 rfl (hs_sl (k := 1) rfl)) rfl ?_
          refine r_gp [(33, _), (34, _), (35, _)] rfl rfl ⟨rfl, rfl, rfl, trivial⟩ (fun hg16 => p_bin rfl rfl b_eq) rfl ?_
          refine r_p (p_pick rfl rfl rfl (by first | exact pick_and | exact pick_or |  rfl)) rfl ?_
          refine r_p (p_assign rfl) rfl ?_
          refine r_nil ?_
          refine r_here () trivial (by rw [okX_2 q2]; rfl) rfl rfl
        · have q2 : ¬ t.kind = 2 := of_decide_eq_false h12
          refine r_seq ?_
          refine r_region ?_
          refine r_p (p_bin rfl rfl b_eq) rfl ?_
          refine r_p (p_assign rfl) rfl ?_
          refine r_nil ?_
          refine r_cond rfl (fun h17 => ?_) (fun h17 => ?_)
          · have q3 : t.kind = 3 := of_decide_eq_true h17
            refine r_region ?_
            refine r_p (p_field0 fo57_2 rfl) rfl ?_
            refine r_p (p_load1 t9 rfl rfl (g_row1 (k := 1) rfl rfl)) rfl ?_
            refine r_call (xs := [.tmp 41]) (ident_spec t.name hnm.1 hnm.2) cb77 [] [] [] [] rfl rfl rfl rfl rfl rfl rfl rfl (fun _ _ => rfl) (fun _ _ _ => rfl) rfl (fun _ _ => ?_)
            refine r_p (p_assign rfl) rfl ?_
            refine r_nil ?_
            refine r_here () trivial (by rw [okX_3 q3]; rfl) rfl rfl
          · have q3 : ¬ t.kind = 3 := of_decide_eq_false h17
            refine r_seq ?_
            refine r_region ?_
            refine r_p (p_bin rfl rfl b_eq) rfl ?_
            refine r_p (p_assign rfl) rfl ?_
            refine r_nil ?_
            refine r_cond rfl (fun h18 => ?_) (fun h18 => ?_)
            · have q4 : t.kind = 4 := of_decide_eq_true h18
              refine r_region ?_
              refine r_p (p_field0 fo57_2 rfl) rfl ?_
              refine r_p (p_load1 t9 rfl rfl (g_row1 (k := 1) rfl rfl)) rfl ?_
              refine r_p (p_bin rfl rfl b_seq) rfl ?_
              refine r_p (p_move rfl) rfl ?_
              refine r_gp [] rfl rfl trivial (fun hg19 => p_field0 fo57_3 rfl) rfl ?_
              refine r_gp [(49, _)] rfl rfl ⟨rfl, trivial⟩ (fun hg20 => p_load1 t51 rfl rfl (g_row1 (k := 1) rfl rfl)) rfl ?_
              refine r_gp [(49, _), (50, _)] rfl rfl ⟨rfl, rfl, trivial⟩ (fun hg21 => p_len_sl Try.underlying51 rfl (hs_sl (k := 1) rfl)) rfl ?_
              refine r_gp [(49, _), (50, _), (51, _)] rfl rfl ⟨rfl, rfl, rfl, trivial⟩ (fun hg22 => p_bin rfl rfl b_eq) rfl ?_
              refine r_p (p_pick rfl rfl rfl (by first | exact pick_and | exact pick_or |  rfl)) rfl ?_
              refine r_p (p_assign rfl) rfl ?_
              refine r_nil ?_
              refine r_here () trivial (by rw [okX_4 q4]; rfl) rfl rfl
            · have q4 : ¬ t.kind = 4 := of_decide_eq_false h18
              refine r_seq ?_
              refine r_region ?_
              refine r_p (p_bin rfl rfl b_eq) rfl ?_
              refine r_p (p_assign rfl) rfl ?_
              refine r_nil ?_
              refine r_cond rfl (fun h23 => ?_) (fun h23 => ?_)
              · have q6 : t.kind = 6 := of_decide_eq_true h23
                refine r_region ?_
                refine r_bslice eS unL (parts := [(0, .const (.string (ByteArray.mk #[45]))), (1, .const (.string (ByteArray.mk #[126]))), (2, .const (.string (ByteArray.mk #[33])))]) Try.underlying62 t9 rfl (by decide) (by intro _; rfl) rfl (by decide) (by decide) rfl rfl rfl rfl fun v56 => ?_
                refine r_p (p_field0 fo57_2 rfl) rfl ?_
                refine r_p (p_load1 t9 rfl rfl (g_row1 (k := 1) rfl rfl)) rfl ?_
                refine r_freeze 56 21 rfl own_to_sl ?_
                refine r_call (xs := [.tmp 56, .tmp 58]) (contains_spec v56 unL (by decide) t.name) cb87 [] [(false, 21)] [] [] rfl rfl rfl rfl rfl rfl rfl rfl (fun _ _ => rfl) (fun _ _ _ => rfl) rfl (fun _ _ => ?_)
                refine r_p (p_move rfl) rfl ?_
                refine r_gp [] rfl rfl trivial (fun hg24 => p_field0 fo57_3 rfl) rfl ?_
                refine r_gp [(61, _)] rfl rfl ⟨rfl, trivial⟩ (fun hg25 => p_load1 t51 rfl rfl (g_row1 (k := 1) rfl rfl)) rfl ?_
                refine r_gp [(61, _), (62, _)] rfl rfl ⟨rfl, rfl, trivial⟩ (fun hg26 => p_len_sl Try.underlying51 rfl (hs_sl (k := 1) rfl)) rfl ?_
                refine r_gp [(61, _), (62, _), (63, _)] rfl rfl ⟨rfl, rfl, rfl, trivial⟩ (fun hg27 => p_bin rfl rfl b_eq) rfl ?_
                refine r_p (p_pick rfl rfl rfl (by first | exact pick_and | exact pick_or |  rfl)) rfl ?_
                refine r_p (p_assign rfl) rfl ?_
                refine r_nil ?_
                refine r_here () trivial (by rw [okX_6 q6]; rfl) rfl rfl
              · have q6 : ¬ t.kind = 6 := of_decide_eq_false h23
                refine r_seq ?_
                refine r_region ?_
                refine r_p (p_bin rfl rfl b_eq) rfl ?_
                refine r_p (p_assign rfl) rfl ?_
                refine r_nil ?_
                refine r_cond rfl (fun h28 => ?_) (fun h28 => ?_)
                · have q7 : t.kind = 7 := of_decide_eq_true h28
                  refine r_region ?_
                  refine r_p (p_move rfl) rfl ?_
                  refine r_p (p_move rfl) rfl ?_
                  refine r_gp [] rfl rfl trivial (fun hg29 => p_field0 fo57_3 rfl) rfl ?_
                  refine r_gp [(70, _)] rfl rfl ⟨rfl, trivial⟩ (fun hg30 => p_load1 t51 rfl rfl (g_row1 (k := 1) rfl rfl)) rfl ?_
                  refine r_gp [(70, _), (71, _)] rfl rfl ⟨rfl, rfl, trivial⟩ (fun hg31 => p_len_sl Try.underlying51 rfl (hs_sl (k := 1) rfl)) rfl ?_
                  refine r_gp [(70, _), (71, _), (72, _)] rfl rfl ⟨rfl, rfl, rfl, trivial⟩ (fun hg32 => p_bin rfl rfl b_eq) rfl ?_
                  refine r_p (p_pick rfl rfl rfl (by first | exact pick_and | exact pick_or |  rfl)) rfl ?_
                  refine r_p (p_assign rfl) rfl ?_
                  refine r_nil ?_
                  refine r_here () trivial (by rw [okX_7 q7]; rfl) rfl rfl
                · have q7 : ¬ t.kind = 7 := of_decide_eq_false h28
                  refine r_skip ?_
                  refine r_here () trivial (by rw [okX_0 q1 q5 q2 q3 q4 q6 q7]; rfl) rfl rfl
  · refine r_seq ?_
    refine r_region ?_
    refine r_p (p_move rfl) rfl ?_
    refine r_p (p_move rfl) rfl ?_
    refine r_gp [] rfl rfl trivial (fun hg33 => p_field0 fo57_0 rfl) rfl ?_
    refine r_gp [(77, _)] rfl rfl ⟨rfl, trivial⟩ (fun hg34 => p_load1 t3 rfl rfl (g_row1 (k := 1) rfl rfl)) rfl ?_
    refine r_gp [(77, _), (78, _)] rfl rfl ⟨rfl, rfl, trivial⟩ (fun hg35 => p_bin rfl rfl b_eq) rfl ?_
    refine r_gp [(77, _), (78, _), (79, _)] rfl rfl ⟨rfl, rfl, rfl, trivial⟩ (fun hg36 => p_move rfl) rfl ?_
    refine r_gp2 [] [(77, _), (78, _), (79, _), (80, _)] rfl rfl trivial ⟨rfl, rfl, rfl, rfl, trivial⟩ (fun hg37 hg37' => p_field0 fo57_1 rfl) rfl ?_
    refine r_gp2 [(81, _)] [(77, _), (78, _), (79, _), (80, _)] rfl rfl ⟨rfl, trivial⟩ ⟨rfl, rfl, rfl, rfl, trivial⟩ (fun hg38 hg38' => p_load1 t22 rfl rfl (g_row1 (k := 1) rfl rfl)) rfl ?_
    refine r_gp2 [(81, _), (82, _)] [(77, _), (78, _), (79, _), (80, _)] rfl rfl ⟨rfl, rfl, trivial⟩ ⟨rfl, rfl, rfl, rfl, trivial⟩ (fun hg39 hg39' => p_bin rfl rfl b_eq) rfl ?_
    refine r_gp [(77, _), (78, _), (79, _), (80, _)] rfl rfl ⟨rfl, rfl, rfl, rfl, trivial⟩ (fun hg40 => p_pick rfl rfl rfl (by first | exact pick_and | exact pick_or | exact pick_and2 hg40 | exact pick_or2 hg40 | rfl)) rfl ?_
    refine r_p (p_pick rfl rfl rfl (by first | exact pick_and | exact pick_or |  rfl)) rfl ?_
    refine r_p (p_move rfl) rfl ?_
    refine r_gp [] rfl rfl trivial (fun hg41 => p_field0 fo57_3 rfl) rfl ?_
    refine r_gp [(87, _)] rfl rfl ⟨rfl, trivial⟩ (fun hg42 => p_load1 t51 rfl rfl (g_row1 (k := 1) rfl rfl)) rfl ?_
    refine r_gms [(87, _), (88, _)] rfl rfl ⟨rfl, rfl, trivial⟩ (fun hg43 => ms_call (xs := [.tmp 88, .func 108]) (conx_spec t.v t.kids hkl 108 [] (txsA t.v t.kids) (fun u => !rX u) cb108 (fun u hu => rx1_spec t.v t.kids ih u hu)) cb103 [] [(false, 1), (false, 0)] [] [] rfl rfl rfl rfl rfl rfl rfl rfl (fun _ _ => rfl) (fun _ _ _ => rfl)) rfl ?_
    refine r_gp [(87, _), (88, _), (89, _)] rfl rfl ⟨rfl, rfl, rfl, trivial⟩ (fun hg44 => p_not rfl) rfl ?_
    refine r_p (p_pick rfl rfl rfl (by first | exact pick_and | exact pick_or |  rfl)) rfl ?_
    refine r_p (p_assign rfl) rfl ?_
    refine r_nil ?_
    refine r_cret ?_
    refine r_ret () trivial rfl (rs1 (rv_tmp rfl)) (congrArg Value.bool (rX_eq t).symm) [] [] rfl rfl rfl
theorem rx_all : ∀ (n : Nat) (t : Tx), SizeOf.sizeOf t < n → GX t → Spec Try.prog 105 [xV t] [] [txsA t.v t.kids] (X := Unit) (fun _ => True) (fun _ => .bool (rX t)) (fun _ => []) (fun _ => [])
  | 0, _, h, _ => absurd h (Nat.not_lt_zero _)
  | n + 1, t, h, ht => rx_step t ht fun u hu => rx_all n u (by have := tx_lt hu; omega) ((GX_kids ht).mem u hu)
theorem rx_spec (t : Tx) (ht : GX t) : Spec Try.prog 105 [xV t] [] [txsA t.v t.kids] (X := Unit) (fun _ => True) (fun _ => .bool (rX t)) (fun _ => []) (fun _ => []) := rx_all _ t (Nat.lt_succ_self _) ht

end Go.Proofs.Ytdcbbkpdlcojfaa
namespace Go.Proofs.Ytdcbbkpdlcojfaa
set_option linter.unusedSimpArgs false
set_option linter.unusedVariables false
open Go.RowKit

theorem rY_eq (t : Ty) : rY t = (decide (t.kind ≥ 1) && decide (t.kind ≤ 8) && decide ((t.es.length : Int) = if t.kind = 3 then 2 else 1) && ((decide (t.kind = 1) || decide (t.kind = 2)) && identB t.name || !(decide (t.kind = 1) || decide (t.kind = 2)) && (t.name == ⟨#[]⟩)) &&
      (decide ((if t.kind = 4 then 2 else if t.kind = 5 then 1 else 0 : Int) > 0) || decide ((t.body.length : Int) = 0)) && (decide ((if t.kind = 4 then 2 else if t.kind = 5 then 1 else 0 : Int) > 1) || decide ((t.els.length : Int) = 0)) && !(t.es.any fun u => !rX u) && t.body.all rY && t.els.all rY) := by
  rw [not_any_not]
  have e1 : decide ((t.es.length : Int) = if t.kind = 3 then 2 else 1) = decide (t.es.length = if t.kind = 3 then 2 else 1) := decide_eq_decide.2 (by split <;> omega)
  have e2 : ((decide (t.kind = 1) || decide (t.kind = 2)) && identB t.name || !(decide (t.kind = 1) || decide (t.kind = 2)) && (t.name == ⟨#[]⟩)) = (if t.kind = 1 ∨ t.kind = 2 then identB t.name else decide (t.name = oNil)) := by
    rw [ba_eq]
    by_cases h : t.kind = 1 ∨ t.kind = 2
    · rw [if_pos h]
      have : (decide (t.kind = 1) || decide (t.kind = 2)) = true := by simpa using h
      rw [this]
      simp
    · rw [if_neg h]
      have : (decide (t.kind = 1) || decide (t.kind = 2)) = false := by simpa using h
      rw [this]
      simp only [Bool.false_and, Bool.not_false, Bool.true_and, Bool.false_or]
      rfl
  have e3 : (decide ((if t.kind = 4 then 2 else if t.kind = 5 then 1 else 0 : Int) > 0) || decide ((t.body.length : Int) = 0)) = (decide (t.kind = 4) || decide (t.kind = 5) || decide (t.body.length = 0)) := by
    rw [show decide ((t.body.length : Int) = 0) = decide (t.body.length = 0) from decide_eq_decide.2 (by omega)]
    congr 1
    by_cases h4 : t.kind = 4
    · simp [h4]
    · by_cases h5 : t.kind = 5
      · simp [h5]
      · simp [h4, h5]
  have e4 : (decide ((if t.kind = 4 then 2 else if t.kind = 5 then 1 else 0 : Int) > 1) || decide ((t.els.length : Int) = 0)) = (decide (t.kind = 4) || decide (t.els.length = 0)) := by
    rw [show decide ((t.els.length : Int) = 0) = decide (t.els.length = 0) from decide_eq_decide.2 (by omega)]
    congr 1
    by_cases h4 : t.kind = 4
    · simp [h4]
    · by_cases h5 : t.kind = 5
      · simp [h5]
      · simp [h4, h5]
  rw [e1, e2, e3, e4]
  cases t
  rw [rY, rXs_all, rYs_all, rYs_all]
  rfl
theorem rF_eq (f : Tf) : (f.ps.any (fun s => !identB s) || !identB f.name || !(f.body.all rY)) = !rF f := by
  unfold rF
  rw [rYs_all, ← not_any_not identB f.ps]
  cases f.ps.any (fun s => !identB s) <;> cases identB f.name <;> cases f.body.all rY <;> rfl
theorem tfs_fns {v : SV} {l : List Tf} : ∀ w G, (tfsA v l).pred w G → (∀ b, G b → b < w.heap.size) → ∃ G', (fnsA l).pred w G' ∧ ∀ b, G' b → G b := fun w G h _ => ⟨G, h.2, fun _ hb => hb⟩
set_option maxRecDepth 100000 in
theorem ry1_spec (v : SV) (l : List Ty) (ih : ∀ u ∈ l, Spec Try.prog 95 [yV u] [] [txsA u.ve u.es, tysA u.vb u.body, tysA u.vl u.els] (X := Unit) (fun _ => True) (fun _ => .bool (rY u)) (fun _ => []) (fun _ => [])) (u : Ty) (hu : u ∈ l) :
    Spec Try.prog 94 [yV u] [] [tysA v l] (X := Unit) (fun _ => True) (fun _ => .bool (!rY u)) (fun _ => []) (fun _ => []) := by
  refine r_enter Try.func94 rfl Try.ntmps94 rfl fun w0 M H => ?_
  refine r_more 0 7 rfl (tys_es hu) ?_
  refine r_more 0 8 rfl (tys_body hu) ?_
  refine r_more 0 9 rfl (tys_els hu) ?_
  refine r_seq ?_
  refine r_region ?_
  refine r_boxA rfl rfl fun b1 => ?_
  refine r_p (p_assign rfl) rfl ?_
  refine r_nil ?_
  refine r_seq ?_
  refine r_region ?_
  refine r_p (p_loadA t54 rfl rfl rfl (g_all (k := 1) rfl)) rfl ?_
  refine r_call (xs := [.tmp 3]) (ih u hu) cb95 [] [(false, 7), (false, 8), (false, 9)] [] [] rfl rfl rfl rfl rfl rfl rfl rfl (fun _ _ => rfl) (fun _ _ _ => rfl) rfl (fun _ _ => ?_)
  refine r_p (p_not rfl) rfl ?_
  refine r_p (p_assign rfl) rfl ?_
  refine r_nil ?_
  refine r_cret ?_
  refine r_ret () trivial rfl (rs1 (rv_tmp rfl)) rfl [] [] rfl rfl rfl
set_option maxRecDepth 100000 in
theorem rblk_spec (v : SV) (l : List Ty) (hl : l.length ≤ 1000000) (ih : ∀ u ∈ l, Spec Try.prog 95 [yV u] [] [txsA u.ve u.es, tysA u.vb u.body, tysA u.vl u.els] (X := Unit) (fun _ => True) (fun _ => .bool (rY u)) (fun _ => []) (fun _ => [])) :
    Spec Try.prog 78 [sv v] [] [tysA v l] (X := Unit) (fun _ => True) (fun _ => .bool (l.all rY)) (fun _ => []) (fun _ => []) := by
  refine r_enter Try.func78 rfl Try.ntmps78 rfl fun w0 M H => ?_
  refine r_more 0 1 rfl tys_sl ?_
  refine r_seq ?_
  refine r_region ?_
  refine r_p (p_assign rfl) rfl ?_
  refine r_nil ?_
  refine r_seq ?_
  refine r_region ?_
  refine r_p (p_move rfl) rfl ?_
  refine r_call (xs := [.tmp 3, .func 94]) (cony_spec v l hl 94 [] (tysA v l) (fun u => !rY u) cb94 (fun u hu => ry1_spec v l ih u hu)) cb93 [] [(false, 1), (false, 0)] [] [] rfl rfl rfl rfl rfl rfl rfl rfl (fun _ _ => rfl) (fun _ _ _ => rfl) rfl (fun _ _ => ?_)
  refine r_p (p_not rfl) rfl ?_
  refine r_p (p_assign rfl) rfl ?_
  refine r_nil ?_
  refine r_cret ?_
  refine r_ret () trivial rfl (rs1 (rv_tmp rfl)) (congrArg Value.bool (not_any_not rY l)) [] [] rfl rfl rfl
set_option maxHeartbeats 8000000 in
set_option maxRecDepth 100000 in
theorem ry_step (t : Ty) (ht : GY t) (ihb : ∀ u ∈ t.body, Spec Try.prog 95 [yV u] [] [txsA u.ve u.es, tysA u.vb u.body, tysA u.vl u.els] (X := Unit) (fun _ => True) (fun _ => .bool (rY u)) (fun _ => []) (fun _ => [])) (ihl : ∀ u ∈ t.els, Spec Try.prog 95 [yV u] [] [txsA u.ve u.es, tysA u.vb u.body, tysA u.vl u.els] (X := Unit) (fun _ => True) (fun _ => .bool (rY u)) (fun _ => []) (fun _ => [])) :
    Spec Try.prog 95 [yV t] [] [txsA t.ve t.es, tysA t.vb t.body, tysA t.vl t.els] (X := Unit) (fun _ => True) (fun _ => .bool (rY t)) (fun _ => []) (fun _ => []) := by
  refine r_enter Try.func95 rfl Try.ntmps95 rfl fun w0 M H => ?_
  refine r_more 0 3 rfl txs_sl ?_
  refine r_more 1 4 rfl tys_sl ?_
  refine r_more 2 5 rfl tys_sl ?_
  have hnm := GY_name ht
  obtain ⟨hel, heg⟩ := GY_es ht
  obtain ⟨hbl, hbg⟩ := GY_body ht
  obtain ⟨hll, hlg⟩ := GY_els ht
  refine r_seq ?_
  refine r_region ?_
  refine r_boxA rfl rfl fun b1 => ?_
  refine r_p (p_assign rfl) rfl ?_
  refine r_nil ?_
  refine r_seq ?_
  refine r_region ?_
  refine r_p (p_field0 fo54_0 rfl) rfl ?_
  refine r_p (p_load1 t3 rfl rfl (g_row1 (k := 1) rfl rfl)) rfl ?_
  refine r_p (p_bin rfl rfl b_eq) rfl ?_
  refine r_p (p_move rfl) rfl ?_
  refine r_gp [] rfl rfl trivial (fun hg1 => p_field0 fo54_0 rfl) rfl ?_
  refine r_gp [(10, _)] rfl rfl ⟨rfl, trivial⟩ (fun hg2 => p_load1 t3 rfl rfl (g_row1 (k := 1) rfl rfl)) rfl ?_
  refine r_gp [(10, _), (11, _)] rfl rfl ⟨rfl, rfl, trivial⟩ (fun hg3 => p_bin rfl rfl b_eq) rfl ?_
  refine r_p (p_pick rfl rfl rfl (by first | exact pick_and | exact pick_or |  rfl)) rfl ?_
  refine r_p (p_assign rfl) rfl ?_
  refine r_nil ?_
  refine r_seq ?_
  refine r_region ?_
  refine r_p (p_assign rfl) rfl ?_
  refine r_nil ?_
  refine r_seq_cut (X := Unit) (fun _ => True) (fun _ => [(1, .pointer (some ⟨b1, 0, none⟩)), (3, .bool (decide (t.kind = 1) || decide (t.kind = 2))), (4, .int .i64 (if t.kind = 3 then 2 else 1))]) (fun _ => [(1, row b1 54 (eTy t))]) (fun _ => [(0, txsA t.ve t.es), (1, tysA t.vb t.body), (2, tysA t.vl t.els), (3, sl 4 eTx (sv t.ve) t.es), (4, sl 5 eTy (sv t.vb) t.body), (5, sl 5 eTy (sv t.vl) t.els)]) ?_ (fun _ _ => ?_)
  · refine r_seq ?_
    refine r_region ?_
    refine r_p (p_field0 fo54_0 rfl) rfl ?_
    refine r_p (p_load1 t3 rfl rfl (g_row1 (k := 1) rfl rfl)) rfl ?_
    refine r_p (p_bin rfl rfl b_eq) rfl ?_
    refine r_nil ?_
    refine r_cond rfl (fun h4 => ?_) (fun h4 => ?_)
    · have q3 : t.kind = 3 := of_decide_eq_true h4
      refine r_region ?_
      refine r_p (p_assign rfl) rfl ?_
      refine r_nil ?_
      refine r_here () trivial (by rw [if_pos q3]; rfl) rfl rfl
    · have q3 : ¬ t.kind = 3 := of_decide_eq_false h4
      refine r_skip ?_
      refine r_here () trivial (by rw [if_neg q3]; rfl) rfl rfl
  · refine r_seq ?_
    refine r_region ?_
    refine r_p (p_assign rfl) rfl ?_
    refine r_nil ?_
    refine r_seq_cut (X := Unit) (fun _ => True) (fun _ => [(1, .pointer (some ⟨b1, 0, none⟩)), (3, .bool (decide (t.kind = 1) || decide (t.kind = 2))), (4, .int .i64 (if t.kind = 3 then 2 else 1)), (5, .int .i64 (if t.kind = 4 then 2 else if t.kind = 5 then 1 else 0))]) (fun _ => [(1, row b1 54 (eTy t))]) (fun _ => [(0, txsA t.ve t.es), (1, tysA t.vb t.body), (2, tysA t.vl t.els), (3, sl 4 eTx (sv t.ve) t.es), (4, sl 5 eTy (sv t.vb) t.body), (5, sl 5 eTy (sv t.vl) t.els)]) ?_ (fun _ _ => ?_)
    · refine r_seq ?_
      refine r_region ?_
      refine r_p (p_field0 fo54_0 rfl) rfl ?_
      refine r_p (p_load1 t3 rfl rfl (g_row1 (k := 1) rfl rfl)) rfl ?_
      refine r_nil ?_
      refine r_block ?_
      refine r_seq ?_
      refine r_region ?_
      refine r_p (p_bin rfl rfl b_eq) rfl ?_
      refine r_p (p_assign rfl) rfl ?_
      refine r_nil ?_
      refine r_cond rfl (fun h5 => ?_) (fun h5 => ?_)
      · have q4 : t.kind = 4 := of_decide_eq_true h5
        refine r_region ?_
        refine r_p (p_assign rfl) rfl ?_
        refine r_nil ?_
        refine r_here () trivial (by rw [if_pos q4]; rfl) rfl rfl
      · have q4 : ¬ t.kind = 4 := of_decide_eq_false h5
        refine r_seq ?_
        refine r_region ?_
        refine r_p (p_bin rfl rfl b_eq) rfl ?_
        refine r_p (p_assign rfl) rfl ?_
        refine r_nil ?_
        refine r_cond rfl (fun h6 => ?_) (fun h6 => ?_)
        · have q5 : t.kind = 5 := of_decide_eq_true h6
          refine r_region ?_
          refine r_p (p_assign rfl) rfl ?_
          refine r_nil ?_
          refine r_here () trivial (by rw [if_neg q4, if_pos q5]; rfl) rfl rfl
        · have q5 : ¬ t.kind = 5 := of_decide_eq_false h6
          refine r_skip ?_
          refine r_here () trivial (by rw [if_neg q4, if_neg q5]; rfl) rfl rfl
    · refine r_seq ?_
      refine r_region ?_
      refine r_p (p_field0 fo54_0 rfl) rfl ?_
      refine r_p (p_load1 t3 rfl rfl (g_row1 (k := 1) rfl rfl)) rfl ?_
      refine r_p (p_bin rfl rfl b_ge) rfl ?_
      refine r_p (p_move rfl) rfl ?_
      refine r_gp [] rfl rfl trivial (fun hg7 => p_field0 fo54_0 rfl) rfl ?_
      refine r_gp [(27, _)] rfl rfl ⟨rfl, trivial⟩ (fun hg8 => p_load1 t3 rfl rfl (g_row1 (k := 1) rfl rfl)) rfl ?_
      refine r_gp [(27, _), (28, _)] rfl rfl ⟨rfl, rfl, trivial⟩ (fun hg9 => p_bin rfl rfl b_le) rfl ?_
      refine r_p (p_pick rfl rfl rfl (by first | exact pick_and | exact pick_or |  rfl)) rfl ?_
      refine r_p (p_move rfl) rfl ?_
      refine r_gp [] rfl rfl trivial (fun hg10 => p_field0 fo54_2 rfl) rfl ?_
      refine r_gp [(32, _)] rfl rfl ⟨rfl, trivial⟩ (fun hg11 => p_load1 t51 rfl rfl (g_row1 (k := 1) rfl rfl)) rfl ?_
      refine r_gp [(32, _), (33, _)] rfl rfl ⟨rfl, rfl, trivial⟩ (fun hg12 => p_len_sl Try.underlying51 rfl (hs_sl (k := 3) rfl)) rfl ?_
      refine r_gp [(32, _), (33, _), (34, _)] rfl rfl ⟨rfl, rfl, rfl, trivial⟩ (fun hg13 => p_move rfl) rfl ?_
      refine r_gp [(32, _), (33, _), (34, _), (35, _)] rfl rfl ⟨rfl, rfl, rfl, rfl, trivial⟩ (fun hg14 => p_bin rfl rfl b_eq) rfl ?_
      refine r_p (p_pick rfl rfl rfl (by first | exact pick_and | exact pick_or |  rfl)) rfl ?_
      refine r_p (p_move rfl) rfl ?_
      refine r_gp [] rfl rfl trivial (fun hg15 => p_move rfl) rfl ?_
      refine r_gp [(39, _)] rfl rfl ⟨rfl, trivial⟩ (fun hg16 => p_move rfl) rfl ?_
      refine r_gp2 [] [(39, _), (40, _)] rfl rfl trivial ⟨rfl, rfl, trivial⟩ (fun hg17 hg17' => p_field0 fo54_1 rfl) rfl ?_
      refine r_gp2 [(41, _)] [(39, _), (40, _)] rfl rfl ⟨rfl, trivial⟩ ⟨rfl, rfl, trivial⟩ (fun hg18 hg18' => p_load1 t9 rfl rfl (g_row1 (k := 1) rfl rfl)) rfl ?_
      refine r_gms2 [(41, _), (42, _)] [(39, _), (40, _)] rfl rfl ⟨rfl, rfl, trivial⟩ ⟨rfl, rfl, trivial⟩ (fun hg19 hg19' => ms_call (xs := [.tmp 42]) (ident_spec t.name hnm.1 hnm.2) cb77 [] [] [] [] rfl rfl rfl rfl rfl rfl rfl rfl (fun _ _ => rfl) (fun _ _ _ => rfl)) rfl ?_
      refine r_gp [(39, _), (40, _)] rfl rfl ⟨rfl, rfl, trivial⟩ (fun hg20 => p_pick rfl rfl rfl (by first | exact pick_and | exact pick_or | exact pick_and2 hg20 | exact pick_or2 hg20 | rfl)) rfl ?_
      refine r_gp [(39, _), (40, _), (44, _)] rfl rfl ⟨rfl, rfl, rfl, trivial⟩ (fun hg21 => p_move rfl) rfl ?_
      refine r_gp2 [] [(39, _), (40, _), (44, _), (45, _)] rfl rfl trivial ⟨rfl, rfl, rfl, rfl, trivial⟩ (fun hg22 hg22' => p_move rfl) rfl ?_
      refine r_gp2 [(46, _)] [(39, _), (40, _), (44, _), (45, _)] rfl rfl ⟨rfl, trivial⟩ ⟨rfl, rfl, rfl, rfl, trivial⟩ (fun hg23 hg23' => p_not rfl) rfl ?_
      refine r_gp2 [(46, _), (47, _)] [(39, _), (40, _), (44, _), (45, _)] rfl rfl ⟨rfl, rfl, trivial⟩ ⟨rfl, rfl, rfl, rfl, trivial⟩ (fun hg24 hg24' => p_move rfl) rfl ?_
      refine r_gp2 [] [(46, _), (47, _), (48, _)] rfl rfl trivial ⟨rfl, rfl, rfl, trivial⟩ (fun hg25 hg25' => p_field0 fo54_1 rfl) rfl ?_
      refine r_gp2 [(49, _)] [(46, _), (47, _), (48, _)] rfl rfl ⟨rfl, trivial⟩ ⟨rfl, rfl, rfl, trivial⟩ (fun hg26 hg26' => p_load1 t9 rfl rfl (g_row1 (k := 1) rfl rfl)) rfl ?_
      refine r_gp2 [(49, _), (50, _)] [(46, _), (47, _), (48, _)] rfl rfl ⟨rfl, rfl, trivial⟩ ⟨rfl, rfl, rfl, trivial⟩ (fun hg27 hg27' => p_bin rfl rfl b_seq) rfl ?_
      refine r_gp2 [(46, _), (47, _), (48, _)] [(39, _), (40, _), (44, _), (45, _)] rfl rfl ⟨rfl, rfl, rfl, trivial⟩ ⟨rfl, rfl, rfl, rfl, trivial⟩ (fun hg28 hg28' => p_pick rfl rfl rfl (by first | exact pick_and | exact pick_or | exact pick_and2 hg28 | exact pick_or2 hg28 |exact pick_and2 (band2 hg28 hg28') | exact pick_or2 (band2 hg28 hg28') | rfl)) rfl ?_
      refine r_gp [(39, _), (40, _), (44, _), (45, _)] rfl rfl ⟨rfl, rfl, rfl, rfl, trivial⟩ (fun hg29 => p_pick rfl rfl rfl (by first | exact pick_and | exact pick_or | exact pick_and2 hg29 | exact pick_or2 hg29 | rfl)) rfl ?_
      refine r_p (p_pick rfl rfl rfl (by first | exact pick_and | exact pick_or |  rfl)) rfl ?_
      refine r_p (p_move rfl) rfl ?_
      refine r_gp [] rfl rfl trivial (fun hg30 => p_move rfl) rfl ?_
      refine r_gp [(56, _)] rfl rfl ⟨rfl, trivial⟩ (fun hg31 => p_bin rfl rfl b_gt) rfl ?_
      refine r_gp [(56, _), (57, _)] rfl rfl ⟨rfl, rfl, trivial⟩ (fun hg32 => p_move rfl) rfl ?_
      refine r_gp2 [] [(56, _), (57, _), (58, _)] rfl rfl trivial ⟨rfl, rfl, rfl, trivial⟩ (fun hg33 hg33' => p_field0 fo54_3 rfl) rfl ?_
      refine r_gp2 [(59, _)] [(56, _), (57, _), (58, _)] rfl rfl ⟨rfl, trivial⟩ ⟨rfl, rfl, rfl, trivial⟩ (fun hg34 hg34' => p_load1 t52 rfl rfl (g_row1 (k := 1) rfl rfl)) rfl ?_
      refine r_gp2 [(59, _), (60, _)] [(56, _), (57, _), (58, _)] rfl rfl ⟨rfl, rfl, trivial⟩ ⟨rfl, rfl, rfl, trivial⟩ (fun hg35 hg35' => p_len_sl Try.underlying52 rfl (hs_sl (k := 4) rfl)) rfl ?_
      refine r_gp2 [(59, _), (60, _), (61, _)] [(56, _), (57, _), (58, _)] rfl rfl ⟨rfl, rfl, rfl, trivial⟩ ⟨rfl, rfl, rfl, trivial⟩ (fun hg36 hg36' => p_bin rfl rfl b_eq) rfl ?_
      refine r_gp [(56, _), (57, _), (58, _)] rfl rfl ⟨rfl, rfl, rfl, trivial⟩ (fun hg37 => p_pick rfl rfl rfl (by first | exact pick_and | exact pick_or | exact pick_and2 hg37 | exact pick_or2 hg37 | rfl)) rfl ?_
      refine r_p (p_pick rfl rfl rfl (by first | exact pick_and | exact pick_or |  rfl)) rfl ?_
      refine r_p (p_move rfl) rfl ?_
      refine r_gp [] rfl rfl trivial (fun hg38 => p_move rfl) rfl ?_
      refine r_gp [(66, _)] rfl rfl ⟨rfl, trivial⟩ (fun hg39 => p_bin rfl rfl b_gt) rfl ?_
      refine r_gp [(66, _), (67, _)] rfl rfl ⟨rfl, rfl, trivial⟩ (fun hg40 => p_move rfl) rfl ?_
      refine r_gp2 [] [(66, _), (67, _), (68, _)] rfl rfl trivial ⟨rfl, rfl, rfl, trivial⟩ (fun hg41 hg41' => p_field0 fo54_4 rfl) rfl ?_
      refine r_gp2 [(69, _)] [(66, _), (67, _), (68, _)] rfl rfl ⟨rfl, trivial⟩ ⟨rfl, rfl, rfl, trivial⟩ (fun hg42 hg42' => p_load1 t52 rfl rfl (g_row1 (k := 1) rfl rfl)) rfl ?_
      refine r_gp2 [(69, _), (70, _)] [(66, _), (67, _), (68, _)] rfl rfl ⟨rfl, rfl, trivial⟩ ⟨rfl, rfl, rfl, trivial⟩ (fun hg43 hg43' => p_len_sl Try.underlying52 rfl (hs_sl (k := 5) rfl)) rfl ?_
      refine r_gp2 [(69, _), (70, _), (71, _)] [(66, _), (67, _), (68, _)] rfl rfl ⟨rfl, rfl, rfl, trivial⟩ ⟨rfl, rfl, rfl, trivial⟩ (fun hg44 hg44' => p_bin rfl rfl b_eq) rfl ?_
      refine r_gp [(66, _), (67, _), (68, _)] rfl rfl ⟨rfl, rfl, rfl, trivial⟩ (fun hg45 => p_pick rfl rfl rfl (by first | exact pick_and | exact pick_or | exact pick_and2 hg45 | exact pick_or2 hg45 | rfl)) rfl ?_
      refine r_p (p_pick rfl rfl rfl (by first | exact pick_and | exact pick_or |  rfl)) rfl ?_
      refine r_p (p_move rfl) rfl ?_
      refine r_gp [] rfl rfl trivial (fun hg46 => p_field0 fo54_2 rfl) rfl ?_
      refine r_gp [(76, _)] rfl rfl ⟨rfl, trivial⟩ (fun hg47 => p_load1 t51 rfl rfl (g_row1 (k := 1) rfl rfl)) rfl ?_
      refine r_gms [(76, _), (77, _)] rfl rfl ⟨rfl, rfl, trivial⟩ (fun hg48 => ms_call (xs := [.tmp 77, .func 104]) (conx_spec t.ve t.es hel 104 [] (txsA t.ve t.es) (fun u => !rX u) cb104 (fun u hu => rx2_spec t.ve t.es (fun u hu => rx_spec u (heg.mem u hu)) u hu)) cb103 [] [(false, 3), (false, 0)] [] [] rfl rfl rfl rfl rfl rfl rfl rfl (fun _ _ => rfl) (fun _ _ _ => rfl)) rfl ?_
      refine r_gp [(76, _), (77, _), (78, _)] rfl rfl ⟨rfl, rfl, rfl, trivial⟩ (fun hg49 => p_not rfl) rfl ?_
      refine r_p (p_pick rfl rfl rfl (by first | exact pick_and | exact pick_or |  rfl)) rfl ?_
      refine r_p (p_move rfl) rfl ?_
      refine r_gp [] rfl rfl trivial (fun hg50 => p_field0 fo54_3 rfl) rfl ?_
      refine r_gp [(82, _)] rfl rfl ⟨rfl, trivial⟩ (fun hg51 => p_load1 t52 rfl rfl (g_row1 (k := 1) rfl rfl)) rfl ?_
      refine r_gms [(82, _), (83, _)] rfl rfl ⟨rfl, rfl, trivial⟩ (fun hg52 => ms_call (xs := [.tmp 83]) (rblk_spec t.vb t.body hbl ihb) cb78 [] [(false, 1)] [] [] rfl rfl rfl rfl rfl rfl rfl rfl (fun _ _ => rfl) (fun _ _ _ => rfl)) rfl ?_
      refine r_p (p_pick rfl rfl rfl (by first | exact pick_and | exact pick_or |  rfl)) rfl ?_
      refine r_p (p_move rfl) rfl ?_
      refine r_gp [] rfl rfl trivial (fun hg53 => p_field0 fo54_4 rfl) rfl ?_
      refine r_gp [(87, _)] rfl rfl ⟨rfl, trivial⟩ (fun hg54 => p_load1 t52 rfl rfl (g_row1 (k := 1) rfl rfl)) rfl ?_
      refine r_gms [(87, _), (88, _)] rfl rfl ⟨rfl, rfl, trivial⟩ (fun hg55 => ms_call (xs := [.tmp 88]) (rblk_spec t.vl t.els hll ihl) cb78 [] [(false, 2)] [] [] rfl rfl rfl rfl rfl rfl rfl rfl (fun _ _ => rfl) (fun _ _ _ => rfl)) rfl ?_
      refine r_p (p_pick rfl rfl rfl (by first | exact pick_and | exact pick_or |  rfl)) rfl ?_
      refine r_p (p_assign rfl) rfl ?_
      refine r_nil ?_
      refine r_cret ?_
      refine r_ret () trivial rfl (rs1 (rv_tmp rfl)) (congrArg Value.bool (rY_eq t).symm) [] [] rfl rfl rfl
theorem ry_all : ∀ (n : Nat) (t : Ty), SizeOf.sizeOf t < n → GY t → Spec Try.prog 95 [yV t] [] [txsA t.ve t.es, tysA t.vb t.body, tysA t.vl t.els] (X := Unit) (fun _ => True) (fun _ => .bool (rY t)) (fun _ => []) (fun _ => [])
  | 0, _, h, _ => absurd h (Nat.not_lt_zero _)
  | n + 1, t, h, ht => ry_step t ht (fun u hu => ry_all n u (by have := ty_lt (.inl hu); omega) ((GY_body ht).2.mem u hu)) (fun u hu => ry_all n u (by have := ty_lt (.inr hu); omega) ((GY_els ht).2.mem u hu))
theorem ry_spec (t : Ty) (ht : GY t) : Spec Try.prog 95 [yV t] [] [txsA t.ve t.es, tysA t.vb t.body, tysA t.vl t.els] (X := Unit) (fun _ => True) (fun _ => .bool (rY t)) (fun _ => []) (fun _ => []) := ry_all _ t (Nat.lt_succ_self _) ht
set_option maxRecDepth 100000 in
theorem right11_spec (s : ByteArray) (hs : nmB s) :
    Spec Try.prog 76 [.string s] [] [] (X := Unit) (fun _ => True) (fun _ => .bool (!identB s)) (fun _ => []) (fun _ => []) := by
  refine r_enter Try.func76 rfl Try.ntmps76 rfl fun w0 M H => ?_
  refine r_seq ?_
  refine r_region ?_
  refine r_p (p_assign rfl) rfl ?_
  refine r_nil ?_
  refine r_seq ?_
  refine r_region ?_
  refine r_p (p_move rfl) rfl ?_
  refine r_call (xs := [.tmp 3]) (ident_spec s hs.1 hs.2) cb77 [] [] [] [] rfl rfl rfl rfl rfl rfl rfl rfl (fun _ _ => rfl) (fun _ _ _ => rfl) rfl (fun _ _ => ?_)
  refine r_p (p_not rfl) rfl ?_
  refine r_p (p_assign rfl) rfl ?_
  refine r_nil ?_
  refine r_cret ?_
  refine r_ret () trivial rfl (rs1 (rv_tmp rfl)) rfl [] [] rfl rfl rfl
set_option maxHeartbeats 1000000 in
set_option maxRecDepth 100000 in
theorem right1_spec (f : Tf) (fs : List Tf) (hf : f ∈ fs) (hg : GF f) :
    Spec Try.prog 74 [tfV f] [] [fnsA fs] (X := Unit) (fun _ => True) (fun _ => .bool (!rF f)) (fun _ => []) (fun _ => []) := by
  refine r_enter Try.func74 rfl Try.ntmps74 rfl fun w0 M H => ?_
  refine r_more 0 1 rfl (fns_f hf) ?_
  refine r_more 1 2 rfl tf_ps ?_
  refine r_more 1 3 rfl tf_body ?_
  obtain ⟨g1, g2, g3, g4, g5, g6⟩ := hg
  refine r_seq ?_
  refine r_region ?_
  refine r_boxA rfl rfl fun b1 => ?_
  refine r_p (p_assign rfl) rfl ?_
  refine r_nil ?_
  refine r_seq ?_
  refine r_region ?_
  refine r_p (p_field0 fo64_1 rfl) rfl ?_
  refine r_p (p_load1 t62 rfl rfl (g_row1 (k := 1) rfl rfl)) rfl ?_
  refine r_call (xs := [.tmp 5, .func 76]) (cons_spec f.vp f.ps g3 76 (fun s => !identB s) cb76 (fun s hs => right11_spec s (g2 s hs))) cb75 [] [(false, 2)] [] [] rfl rfl rfl rfl rfl rfl rfl rfl (fun _ _ => rfl) (fun _ _ _ => rfl) rfl (fun _ _ => ?_)
  refine r_p (p_assign rfl) rfl ?_
  refine r_nil ?_
  refine r_seq ?_
  refine r_region ?_
  refine r_p (p_move rfl) rfl ?_
  refine r_p (p_move rfl) rfl ?_
  refine r_gp [] rfl rfl trivial (fun hg1 => p_field0 fo64_0 rfl) rfl ?_
  refine r_gp [(9, _)] rfl rfl ⟨rfl, trivial⟩ (fun hg2 => p_load1 t9 rfl rfl (g_row1 (k := 1) rfl rfl)) rfl ?_
  refine r_gms [(9, _), (10, _)] rfl rfl ⟨rfl, rfl, trivial⟩ (fun hg3 => ms_call (xs := [.tmp 10]) (ident_spec f.name g1.1 g1.2) cb77 [] [] [] [] rfl rfl rfl rfl rfl rfl rfl rfl (fun _ _ => rfl) (fun _ _ _ => rfl)) rfl ?_
  refine r_gp [(9, _), (10, _), (11, _)] rfl rfl ⟨rfl, rfl, rfl, trivial⟩ (fun hg4 => p_not rfl) rfl ?_
  refine r_p (p_pick rfl rfl rfl (by first | exact pick_and | exact pick_or |  rfl)) rfl ?_
  refine r_p (p_move rfl) rfl ?_
  refine r_gp [] rfl rfl trivial (fun hg5 => p_field0 fo64_2 rfl) rfl ?_
  refine r_gp [(15, _)] rfl rfl ⟨rfl, trivial⟩ (fun hg6 => p_load1 t52 rfl rfl (g_row1 (k := 1) rfl rfl)) rfl ?_
  refine r_gms [(15, _), (16, _)] rfl rfl ⟨rfl, rfl, trivial⟩ (fun hg7 => ms_call (xs := [.tmp 16]) (rblk_spec f.vb f.body g4 (fun u hu => ry_spec u (g5.mem u hu))) cb78 [] [(false, 3)] [] [] rfl rfl rfl rfl rfl rfl rfl rfl (fun _ _ => rfl) (fun _ _ _ => rfl)) rfl ?_
  refine r_gp [(15, _), (16, _), (17, _)] rfl rfl ⟨rfl, rfl, rfl, trivial⟩ (fun hg8 => p_not rfl) rfl ?_
  refine r_p (p_pick rfl rfl rfl (by first | exact pick_and | exact pick_or |  rfl)) rfl ?_
  refine r_p (p_assign rfl) rfl ?_
  refine r_nil ?_
  refine r_cret ?_
  refine r_ret () trivial rfl (rs1 (rv_tmp rfl)) (congrArg Value.bool (rF_eq f)) [] [] rfl rfl rfl
set_option maxRecDepth 100000 in
theorem right_spec (vp : SV) (fs : List Tf) (hg : GP fs) :
    Spec Try.prog 66 [.agg #[sv vp]] [] [tfsA vp fs] (X := Unit) (fun _ => True) (fun _ => .bool (rP fs)) (fun _ => []) (fun _ => []) := by
  refine r_enter Try.func66 rfl Try.ntmps66 rfl fun w0 M H => ?_
  refine r_more 0 1 rfl tfs_sl ?_
  refine r_more 0 2 rfl tfs_fns ?_
  refine r_seq ?_
  refine r_region ?_
  refine r_boxA rfl rfl fun b1 => ?_
  refine r_p (p_assign rfl) rfl ?_
  refine r_nil ?_
  refine r_seq ?_
  refine r_region ?_
  refine r_p (p_field0 fo40_0 rfl) rfl ?_
  refine r_p (p_load1 t38 rfl rfl (g_row1 (k := 1) rfl rfl)) rfl ?_
  refine r_call (xs := [.tmp 4, .func 74]) (conf_spec vp fs hg.1 74 [] (fnsA fs) (fun f => !rF f) cb74 (fun f hf => right1_spec f fs hf (hg.2 f hf))) cb73 [] [(false, 1), (false, 2)] [] [] rfl rfl rfl rfl rfl rfl rfl rfl (fun _ _ => rfl) (fun _ _ _ => rfl) rfl (fun _ _ => ?_)
  refine r_p (p_not rfl) rfl ?_
  refine r_p (p_assign rfl) rfl ?_
  refine r_nil ?_
  refine r_cret ?_
  refine r_ret () trivial rfl (rs1 (rv_tmp rfl)) (congrArg Value.bool (not_any_not rF fs)) [] [] rfl rfl rfl

end Go.Proofs.Ytdcbbkpdlcojfaa
namespace Go.Proofs.Ytdcbbkpdlcojfaa
set_option linter.unusedSimpArgs false
set_option linter.unusedVariables false
open Go.RowKit

/-- The checker's cells. -/
def cR (vp vn : SV) (nd va : Int) (dp : Bool) (er : Int) : List Value := [sv vp, sv vn, .int .i64 nd, .int .i64 va, .bool dp, .int .i64 er]
theorem take_snoc {α : Type} {l : List α} {i : Nat} {k : α} (h : l[i]? = some k) : l.take (i + 1) = l.take i ++ [k] := by
  obtain ⟨hi, hk⟩ := List.getElem?_eq_some_iff.1 h
  rw [List.take_add_one, List.getElem?_eq_getElem hi, hk]
  rfl
theorem nXs_app : ∀ (a b : List Tx), nXs (a ++ b) = nXs a + nXs b
  | [], b => by simp [nXs]
  | t :: r, b => by simp [nXs, nXs_app r b, Nat.add_assoc]
theorem dXs_app : ∀ (a b : List Tx), dXs (a ++ b) = max (dXs a) (dXs b)
  | [], b => by simp [dXs]
  | t :: r, b => by simp [dXs, dXs_app r b, Nat.max_assoc]
theorem nYs_app : ∀ (a b : List Ty), nYs (a ++ b) = nYs a + nYs b
  | [], b => by simp [nYs]
  | t :: r, b => by simp [nYs, nYs_app r b, Nat.add_assoc]
theorem vYs_app : ∀ (a b : List Ty), vYs (a ++ b) = vYs a + vYs b
  | [], b => by simp [vYs]
  | t :: r, b => by simp [vYs, vYs_app r b, Nat.add_assoc]
theorem dpYs_app (d : Nat) : ∀ (a b : List Ty), dpYs d (a ++ b) = (dpYs d a || dpYs d b)
  | [], b => by simp [dpYs]
  | t :: r, b => by simp [dpYs, dpYs_app d r b, Bool.or_assoc]
theorem nXs_one (t : Tx) : nXs [t] = nX t := by simp [nXs]
theorem dXs_one (t : Tx) : dXs [t] = dX t := by simp [dXs]
theorem nYs_one (t : Ty) : nYs [t] = nY t := by simp [nYs]
theorem vYs_one (t : Ty) : vYs [t] = vY t := by simp [vYs]
theorem dpYs_one (d : Nat) (t : Ty) : dpYs d [t] = dpY d t := by simp [dpYs]
theorem nX_eq (t : Tx) : nX t = nXs t.kids + 1 := by cases t; rfl
theorem dX_eq (t : Tx) : dX t = dXs t.kids + 1 := by cases t; rfl
theorem nY_eq (t : Ty) : nY t = 1 + nXs t.es + nYs t.body + nYs t.els := by cases t; rfl
theorem vY_eq (t : Ty) : vY t = (if t.kind = 1 then 1 else 0) + vYs t.body + vYs t.els := by cases t; rfl
theorem dpY_eq (d : Nat) (t : Ty) : dpY d t = (decide (d > 8) || decide (dXs t.es > 8) || dpYs (d + 1) t.body || dpYs (d + 1) t.els) := by cases t; rfl
theorem nXs_take {l : List Tx} {i : Nat} {k : Tx} (h : l[i]? = some k) : nXs (l.take (i + 1)) = nXs (l.take i) + nX k := by rw [take_snoc h, nXs_app, nXs_one]
theorem dXs_take {l : List Tx} {i : Nat} {k : Tx} (h : l[i]? = some k) : dXs (l.take (i + 1)) = max (dXs (l.take i)) (dX k) := by rw [take_snoc h, dXs_app, dXs_one]
theorem nXs_le : ∀ (l : List Tx) (i : Nat), nXs (l.take i) ≤ nXs l := fun l i => by
  have h := nXs_app (l.take i) (l.drop i)
  rw [List.take_append_drop] at h
  omega
theorem nYs_le : ∀ (l : List Ty) (i : Nat), nYs (l.take i) ≤ nYs l := fun l i => by
  have h := nYs_app (l.take i) (l.drop i)
  rw [List.take_append_drop] at h
  omega
theorem nYs_take {l : List Ty} {i : Nat} {k : Ty} (h : l[i]? = some k) : nYs (l.take (i + 1)) = nYs (l.take i) + nY k := by rw [take_snoc h, nYs_app, nYs_one]
theorem vYs_take {l : List Ty} {i : Nat} {k : Ty} (h : l[i]? = some k) : vYs (l.take (i + 1)) = vYs (l.take i) + vY k := by rw [take_snoc h, vYs_app, vYs_one]
theorem dpYs_take {d : Nat} {l : List Ty} {i : Nat} {k : Ty} (h : l[i]? = some k) : dpYs d (l.take (i + 1)) = (dpYs d (l.take i) || dpY d k) := by rw [take_snoc h, dpYs_app, dpYs_one]
mutual
theorem dX_le : ∀ t : Tx, dX t ≤ nX t
  | .mk _ _ _ _ kids => by
    have := dXs_le kids
    rw [dX, nX]
    omega
theorem dXs_le : ∀ l : List Tx, dXs l ≤ nXs l
  | [] => Nat.le_refl _
  | t :: r => by
    have h1 := dX_le t
    have h2 := dXs_le r
    rw [dXs, nXs]
    omega
end
mutual
theorem vY_le : ∀ t : Ty, vY t ≤ nY t
  | .mk k _ _ _ _ body _ els => by
    have h1 := vYs_le body
    have h2 := vYs_le els
    rw [vY, nY]
    split <;> omega
theorem vYs_le : ∀ l : List Ty, vYs l ≤ nYs l
  | [] => Nat.le_refl _
  | t :: r => by
    have h1 := vY_le t
    have h2 := vYs_le r
    rw [vYs, nYs]
    omega
end
theorem cast_max (a b : Nat) : ((max a b : Nat) : Int) = max (a : Int) (b : Int) := by omega
theorem dec_max {a b : Nat} : (decide (a > 8) || decide (b > 8)) = decide (max a b > 8) := by
  by_cases h : a > 8
  · have : max a b > 8 := by omega
    simp [h, this]
  · by_cases h2 : b > 8
    · have : max a b > 8 := by omega
      simp [h2, this]
    · have : ¬ max a b > 8 := by omega
      simp [h, h2, this]
set_option maxRecDepth 100000 in
theorem cfail_spec (c : Nat) (vp vn : SV) (nd va : Int) (dp : Bool) (er : Int) (e : Int) :
    Spec Try.prog 82 [.pointer (some ⟨c, 0, none⟩), .int .i64 e] [row c 109 (cR vp vn nd va dp er)] [] (X := Unit) (fun _ => True) (fun _ => .tuple #[]) (fun _ => [row c 109 (cR vp vn nd va dp (fst er e))]) (fun _ => []) := by
  refine r_enter Try.func82 rfl Try.ntmps82 rfl fun w0 M H => ?_
  refine r_seq ?_
  refine r_region ?_
  refine r_p (p_move rfl) rfl ?_
  refine r_p (p_nilCheck rfl) rfl ?_
  refine r_p (p_field0 fo109_5 rfl) rfl ?_
  refine r_p (p_load1 t43 rfl rfl (g_row1 (k := 0) rfl rfl)) rfl ?_
  refine r_p (p_bin rfl rfl b_eq) rfl ?_
  refine r_nil ?_
  refine r_cond rfl (fun h1 => ?_) (fun h1 => ?_)
  · have h0 : er = 0 := of_decide_eq_true h1
    have hfs : fst er e = e := if_pos h0
    refine r_region ?_
    refine r_p (p_move rfl) rfl ?_
    refine r_p (p_move rfl) rfl ?_
    refine r_p (p_nilCheck rfl) rfl ?_
    refine r_p (p_field0 fo109_5 rfl) rfl ?_
    refine r_store_row (k := 0) t43 rfl rfl rfl rfl rfl rfl rfl rfl ?_
    refine r_nil ?_
    rw [hfs]
    refine r_end () trivial rfl rs0 rfl [0] [] rfl rfl rfl
  · have h0 : ¬ er = 0 := of_decide_eq_false h1
    have hfs : fst er e = er := if_neg h0
    refine r_skip ?_
    rw [hfs]
    refine r_end () trivial rfl rs0 rfl [0] [] rfl rfl rfl
theorem fst_if (er z : Int) (b : Bool) (h : b = true) : fst er (if b = true then z else 0) = fst er z := by rw [if_pos h]
theorem fst_ifn (er z : Int) (b : Bool) (h : b = false) : fst er (if b = true then z else 0) = er := by rw [if_neg (by rw [h]; simp), fst_zero]
theorem fst_if' (er z : Int) (b : Bool) (h : b = true) : fst er (if b = true then 0 else z) = er := by rw [if_pos h, fst_zero]
theorem fst_ifn' (er z : Int) (b : Bool) (h : b = false) : fst er (if b = true then 0 else z) = fst er z := by rw [if_neg (by rw [h]; simp)]
set_option maxRecDepth 100000 in
theorem cvar_spec (c : Nat) (vp vn : SV) (nd va : Int) (dp : Bool) (er : Int) (ns : List ByteArray) (hn : ns.length ≤ 1000000) (s : ByteArray) :
    Spec Try.prog 97 [.pointer (some ⟨c, 0, none⟩), .string s] [row c 109 (cR vp vn nd va dp er), own 9 1 eS (sv vn) ns] [] (X := Unit) (fun _ => True) (fun _ => .tuple #[]) (fun _ => [row c 109 (cR vp vn nd va dp (fst er (if memB s ns = true then 0 else 21))), own 9 1 eS (sv vn) ns]) (fun _ => []) := by
  refine r_enter Try.func97 rfl Try.ntmps97 rfl fun w0 M H => ?_
  refine r_seq ?_
  refine r_region ?_
  refine r_p (p_move rfl) rfl ?_
  refine r_p (p_nilCheck rfl) rfl ?_
  refine r_p (p_field0 fo109_1 rfl) rfl ?_
  refine r_p (p_load1 t62 rfl rfl (g_row1 (k := 0) rfl rfl)) rfl ?_
  refine r_p (p_move rfl) rfl ?_
  refine r_call (xs := [.tmp 7, .tmp 8]) (Spec.ro1 (contains_spec vn ns (by omega) s) own_to_sl) cb87 [] [(true, 1)] [] [] rfl rfl rfl rfl rfl rfl rfl rfl (fun _ _ => rfl) (fun _ _ _ => rfl) rfl (fun _ _ => ?_)
  refine r_p (p_not rfl) rfl ?_
  refine r_nil ?_
  refine r_cond rfl (fun h1 => ?_) (fun h1 => ?_)
  · have h0 : memB s ns = false := by simpa using h1
    rw [fst_ifn' _ _ _ h0]
    refine r_region ?_
    refine r_p (p_move rfl) rfl ?_
    refine r_call (xs := [.tmp 11, .const (.int .i64 21)]) (cfail_spec c vp vn nd va dp er 21) cb82 [0] [] [0] [] rfl rfl rfl rfl rfl rfl rfl rfl (fun _ _ => rfl) (fun _ _ _ => rfl) rfl (fun _ _ => ?_)
    refine r_nil ?_
    refine r_end () trivial rfl rs0 rfl [0, 1] [] rfl rfl rfl
  · have h0 : memB s ns = true := by simpa using h1
    rw [fst_if' _ _ _ h0]
    refine r_skip ?_
    refine r_end () trivial rfl rs0 rfl [0, 1] [] rfl rfl rfl
set_option maxHeartbeats 1000000 in
set_option maxRecDepth 100000 in
theorem cdecl_spec (c : Nat) (vp vn : SV) (nd va : Int) (dp : Bool) (er : Int) (ns : List ByteArray) (hn : ns.length ≤ 1000000) (s : ByteArray) :
    Spec Try.prog 83 [.pointer (some ⟨c, 0, none⟩), .string s] [row c 109 (cR vp vn nd va dp er), own 9 1 eS (sv vn) ns] [] (X := SV) (fun _ => True) (fun _ => .tuple #[]) (fun v => [row c 109 (cR vp v nd va dp (fst er (if memB s ns = true then 22 else 0))), own 9 1 eS (sv v) (ns ++ [s])]) (fun _ => []) := by
  refine r_enter Try.func83 rfl Try.ntmps83 rfl fun w0 M H => ?_
  refine r_seq_cut (X := Unit) (fun _ => True) (fun _ => [(0, .pointer (some ⟨c, 0, none⟩)), (1, .string s)]) (fun _ => [(0, row c 109 (cR vp vn nd va dp (fst er (if memB s ns = true then 22 else 0)))), (1, own 9 1 eS (sv vn) ns)]) (fun _ => []) ?_ (fun _ _ => ?_)
  · refine r_seq ?_
    refine r_region ?_
    refine r_p (p_move rfl) rfl ?_
    refine r_p (p_nilCheck rfl) rfl ?_
    refine r_p (p_field0 fo109_1 rfl) rfl ?_
    refine r_p (p_load1 t62 rfl rfl (g_row1 (k := 0) rfl rfl)) rfl ?_
    refine r_p (p_move rfl) rfl ?_
    refine r_call (xs := [.tmp 7, .tmp 8]) (Spec.ro1 (contains_spec vn ns (by omega) s) own_to_sl) cb87 [] [(true, 1)] [] [] rfl rfl rfl rfl rfl rfl rfl rfl (fun _ _ => rfl) (fun _ _ _ => rfl) rfl (fun _ _ => ?_)
    refine r_nil ?_
    refine r_cond rfl (fun h1 => ?_) (fun h1 => ?_)
    · have h0 : memB s ns = true := h1
      rw [fst_if _ _ _ h0]
      refine r_region ?_
      refine r_p (p_move rfl) rfl ?_
      refine r_call (xs := [.tmp 10, .const (.int .i64 22)]) (cfail_spec c vp vn nd va dp er 22) cb82 [0] [] [0] [] rfl rfl rfl rfl rfl rfl rfl rfl (fun _ _ => rfl) (fun _ _ _ => rfl) rfl (fun _ _ => ?_)
      refine r_nil ?_
      refine r_here () trivial rfl rfl rfl
    · have h0 : memB s ns = false := h1
      rw [fst_ifn _ _ _ h0]
      refine r_skip ?_
      refine r_here () trivial rfl rfl rfl
  · refine r_region ?_
    refine r_p (p_move rfl) rfl ?_
    refine r_p (p_move rfl) rfl ?_
    refine r_p (p_nilCheck rfl) rfl ?_
    refine r_p (p_field0 fo109_1 rfl) rfl ?_
    refine r_p (p_load1 t62 rfl rfl (g_row1 (k := 0) rfl rfl)) rfl ?_
    refine r_p (p_move rfl) rfl ?_
    refine r_bslice1 eS _ Try.underlying62 t9 rfl (by decide) (by decide) rfl rfl rfl rfl fun v18 => ?_
    refine r_append 1 Try.underlying62 t9 rfl (by decide) (fun _ => rfl) (fun _ => rfl) rfl rfl rfl (hs_own (k := 18) rfl) (by first | omega | (simp; done) | (simp; omega)) (by unfold maxLen; first | omega | (simp; done) | (simp; omega)) rfl fun v19 => ?_
    refine r_p (p_nilCheck rfl) rfl ?_
    refine r_p (p_field0 fo109_1 rfl) rfl ?_
    refine r_store_row (k := 0) t62 rfl rfl rfl rfl rfl rfl rfl rfl ?_
    refine r_nil ?_
    refine r_end v19 trivial rfl rs0 rfl [0, 1] [] rfl rfl rfl
set_option maxRecDepth 100000 in
theorem find1_spec (f : Tf) (b : Nat) (s : ByteArray) :
    Spec Try.prog 80 [tfV f, .pointer (some ⟨b, 0, none⟩)] [] [row b 9 [.string s]] (X := Unit) (fun _ => True) (fun _ => .bool (decide (f.name = s))) (fun _ => []) (fun _ => []) := by
  refine r_enter Try.func80 rfl Try.ntmps80 rfl fun w0 M H => ?_
  refine r_seq ?_
  refine r_region ?_
  refine r_boxA rfl rfl fun b2 => ?_
  refine r_p (p_assign rfl) rfl ?_
  refine r_nil ?_
  refine r_seq ?_
  refine r_region ?_
  refine r_p (p_field0 fo64_0 rfl) rfl ?_
  refine r_p (p_load1 t9 rfl rfl (g_row1 (k := 2) rfl rfl)) rfl ?_
  refine r_p (p_load1 t9 rfl rfl (g_row1R (k := 0) rfl rfl)) rfl ?_
  refine r_p (p_bin rfl rfl b_seq) rfl ?_
  refine r_p (p_assign rfl) rfl ?_
  refine r_nil ?_
  refine r_cret ?_
  refine r_ret () trivial rfl (rs1 (rv_tmp rfl)) (congrArg Value.bool (ba_eq _ _)) [] [] rfl rfl rfl
set_option maxRecDepth 100000 in
theorem cfind_spec (c : Nat) (vp vn : SV) (nd va : Int) (dp : Bool) (er : Int) (s : ByteArray) (fs : List Tf) (hf : fs.length ≤ 1000000) :
    Spec Try.prog 67 [.pointer (some ⟨c, 0, none⟩), .string s] [row c 109 (cR vp vn nd va dp er)] [sl 3 eTf (sv vp) fs] (X := Unit) (fun _ => True) (fun _ => .int .i64 (fix fs s)) (fun _ => [row c 109 (cR vp vn nd va dp er)]) (fun _ => []) := by
  refine r_enter Try.func67 rfl Try.ntmps67 rfl fun w0 M H => ?_
  refine r_seq ?_
  refine r_region ?_
  refine r_box1 rfl rfl rfl fun b3 => ?_
  refine r_p (p_assign rfl) rfl ?_
  refine r_nil ?_
  refine r_seq ?_
  refine r_region ?_
  refine r_p (p_move rfl) rfl ?_
  refine r_p (p_nilCheck rfl) rfl ?_
  refine r_p (p_field0 fo109_0 rfl) rfl ?_
  refine r_p (p_field0 fo40_0 rfl) rfl ?_
  refine r_p (p_load1 t38 rfl rfl (g_row1 (k := 0) rfl rfl)) rfl ?_
  refine r_p (p_makeFunc (first := []) (cap := [.tmp 3]) rfl rfl) rfl ?_
  refine r_call (xs := [.tmp 9, .tmp 10]) (ixf_spec vp fs hf 80 [.pointer (some ⟨b3, 0, none⟩)] (row b3 9 [.string s]) (fun f => decide (f.name = s)) cb80 (fun f _ => find1_spec f b3 s)) cb79 [] [(false, 0), (true, 3)] [] [] rfl rfl rfl rfl rfl rfl rfl rfl (fun _ _ => rfl) (fun _ _ _ => rfl) rfl (fun _ _ => ?_)
  refine r_p (p_assign rfl) rfl ?_
  refine r_nil ?_
  refine r_cret ?_
  refine r_ret () trivial rfl (rs1 (rv_tmp rfl)) rfl [0] [] rfl rfl rfl
set_option maxHeartbeats 2000000 in
set_option maxRecDepth 100000 in
theorem meas_step (c : Nat) (vp vn : SV) (va er : Int) (t : Tx) (ht : GX t) (ih : ∀ u ∈ t.kids, ∀ (nd : Int) (dp : Bool), 0 ≤ nd → nd + (nX u : Int) ≤ 1000000000000 → Spec Try.prog 96 [.pointer (some ⟨c, 0, none⟩), xV u] [row c 109 (cR vp vn nd va dp er)] [txsA u.v u.kids] (X := Unit) (fun _ => True) (fun _ => .int .i64 (dX u : Int)) (fun _ => [row c 109 (cR vp vn (nd + (nX u : Int)) va (dp || decide (dX u > 8)) er)]) (fun _ => [])) (nd : Int) (dp : Bool) (h0 : 0 ≤ nd) (hn : nd + (nX t : Int) ≤ 1000000000000) :
    Spec Try.prog 96 [.pointer (some ⟨c, 0, none⟩), xV t] [row c 109 (cR vp vn nd va dp er)] [txsA t.v t.kids] (X := Unit) (fun _ => True) (fun _ => .int .i64 (dX t : Int)) (fun _ => [row c 109 (cR vp vn (nd + (nX t : Int)) va (dp || decide (dX t > 8)) er)]) (fun _ => []) := by
  refine r_enter Try.func96 rfl Try.ntmps96 rfl fun w0 M H => ?_
  have hkl := GX_len ht
  have hnx := nX_eq t
  have hdx := dX_eq t
  have hdn := dX_le t
  refine r_more 0 1 rfl txs_sl ?_
  refine r_seq ?_
  refine r_region ?_
  refine r_boxA rfl rfl fun b3 => ?_
  refine r_p (p_assign rfl) rfl ?_
  refine r_nil ?_
  refine r_seq ?_
  refine r_region ?_
  refine r_p (p_move rfl) rfl ?_
  refine r_p (p_nilCheck rfl) rfl ?_
  refine r_p (p_field0 fo109_2 rfl) rfl ?_
  refine r_p (p_load1 t3 rfl rfl (g_row1 (k := 0) rfl rfl)) rfl ?_
  refine r_p (p_bin rfl rfl (b_add (by first | exact w_i64 (by omega) (by omega) | rfl))) rfl ?_
  refine r_p (p_nilCheck rfl) rfl ?_
  refine r_p (p_field0 fo109_2 rfl) rfl ?_
  refine r_store_row (k := 0) t3 rfl rfl rfl rfl rfl rfl rfl rfl ?_
  refine r_nil ?_
  refine r_seq ?_
  refine r_region ?_
  refine r_p (p_assign rfl) rfl ?_
  refine r_nil ?_
  refine r_seq ?_
  refine r_seq ?_
  refine r_region ?_
  refine r_p (p_field0 fo57_3 rfl) rfl ?_
  refine r_p (p_load1 t51 rfl rfl (g_row1 (k := 3) rfl rfl)) rfl ?_
  refine r_p (p_len_sl Try.underlying51 rfl (hs_sl (k := 1) rfl)) rfl ?_
  refine r_p (p_move rfl) rfl ?_
  refine r_nil ?_
  refine r_block ?_
  refine r_loop (X := Nat) (fun i => i ≤ t.kids.length) (fun i => [(0, .pointer (some ⟨c, 0, none⟩)), (3, .pointer (some ⟨b3, 0, none⟩)), (5, .int .i64 (dXs (t.kids.take i) : Int)), (16, sv t.v), (17, .int .i64 (t.kids.length : Int)), (18, .int .i64 (i : Int))]) (fun i => [(0, row c 109 (cR vp vn (nd + 1 + (nXs (t.kids.take i) : Int)) va (dp || decide (dXs (t.kids.take i) > 8)) er)), (3, row b3 57 (eTx t))]) (fun i => [(0, txsA t.v t.kids), (1, sl 4 eTx (sv t.v) t.kids)]) (fun i => t.kids.length - i) 0 (Nat.zero_le _) rfl (by rw [show (dp || decide (dXs (t.kids.take 0) > 8)) = dp by simp [dXs], show nd + 1 + (nXs (t.kids.take 0) : Int) = nd + 1 by simp [nXs]]; rfl) rfl (fun i n1 => ?_)
  refine r_seq ?_
  refine r_region ?_
  refine r_p (p_bin rfl rfl b_lt) rfl ?_
  refine r_nil ?_
  refine r_seq ?_
  refine r_cond rfl (fun h1 => ?_) (fun h1 => ?_)
  · (try simp only [decide_eq_true_eq, decide_eq_false_iff_not, Bool.and_eq_true, Bool.or_eq_true, Bool.and_eq_false_iff, Bool.or_eq_false_iff, Bool.not_eq_true, Bool.not_eq_false, Bool.not_eq_true', Bool.not_eq_false', Bool.not_not, bne_iff_ne, beq_iff_eq] at h1)
    have hi : i < t.kids.length := by omega
    obtain ⟨kid, hkid⟩ : ∃ k, t.kids[i]? = some k := ⟨_, List.getElem?_eq_getElem hi⟩
    have hkm := List.mem_of_getElem? hkid
    have hle := nXs_le t.kids (i + 1)
    rw [nXs_take hkid] at hle
    refine r_skip ?_
    refine r_seq ?_
    refine r_block ?_
    refine r_seq ?_
    refine r_region ?_
    refine r_p (p_idx_sl (j := i) Try.underlying51 t57 rfl rfl (hs_sl (k := 1) rfl) (by first | rfl | omega) (by first | omega | (simp; done) | (simp; omega))) rfl ?_
    refine r_p (p_loadA t57 rfl rfl rfl (g_el' (hs_sl (k := 1) rfl) (by intro _; rfl) hkid (by rfl))) rfl ?_
    refine r_alloc t57 rfl rfl fun b7 => ?_
    refine r_store_all (k := 7) t57 rfl rfl rfl rfl rfl rfl ?_
    refine r_nil ?_
    refine r_region ?_
    refine r_p (p_move rfl) rfl ?_
    refine r_p (p_move rfl) rfl ?_
    refine r_p (p_loadA t57 rfl rfl rfl (g_all (k := 7) rfl)) rfl ?_
    refine r_more 0 8 rfl (txs_kid hkm) ?_
    refine r_call (xs := [.tmp 23, .tmp 24]) (ih kid hkm (nd + 1 + (nXs (t.kids.take i) : Int)) (dp || decide (dXs (t.kids.take i) > 8)) (by omega) (by omega)) cb96 [0] [(false, 8)] [0] [] rfl rfl rfl rfl rfl rfl rfl rfl (fun _ _ => rfl) (fun _ _ _ => rfl) rfl (fun _ _ => ?_)
    refine r_p (p_max rfl rfl rfl) rfl ?_
    refine r_p (p_assign rfl) rfl ?_
    refine r_nil ?_
    refine r_region ?_
    refine r_p (p_bin rfl rfl (b_add (by first | exact w_i64 (by omega) (by omega) | rfl))) rfl ?_
    refine r_p (p_move rfl) rfl ?_
    refine r_nil ?_
    refine r_here (i + 1) ⟨by omega, by omega⟩ (by rw [dXs_take hkid, cast_max]; rfl) (by rw [dXs_take hkid, nXs_take hkid, ← dec_max, ← Bool.or_assoc, Int.natCast_add, ← Int.add_assoc]; rfl) rfl
  · (try simp only [decide_eq_true_eq, decide_eq_false_iff_not, Bool.and_eq_true, Bool.or_eq_true, Bool.and_eq_false_iff, Bool.or_eq_false_iff, Bool.not_eq_true, Bool.not_eq_false, Bool.not_eq_true', Bool.not_eq_false', Bool.not_not, bne_iff_ne, beq_iff_eq] at h1)
    have hi : i = t.kids.length := by omega
    subst hi
    rw [List.take_length]
    refine r_exit ?_
    refine r_seq ?_
    refine r_region ?_
    refine r_p (p_move rfl) rfl ?_
    refine r_p (p_move rfl) rfl ?_
    refine r_p (p_nilCheck rfl) rfl ?_
    refine r_p (p_field0 fo109_4 rfl) rfl ?_
    refine r_p (p_load1 t4 rfl rfl (g_row1 (k := 0) rfl rfl)) rfl ?_
    refine r_p (p_move rfl) rfl ?_
    refine r_gp [] rfl rfl trivial (fun hg2 => p_move rfl) rfl ?_
    refine r_gp [(34, _)] rfl rfl ⟨rfl, trivial⟩ (fun hg3 => p_bin rfl rfl (b_add (by first | exact w_i64 (by omega) (by omega) | rfl))) rfl ?_
    refine r_gp [(34, _), (35, _)] rfl rfl ⟨rfl, rfl, trivial⟩ (fun hg4 => p_bin rfl rfl b_gt) rfl ?_
    refine r_p (p_pick rfl rfl rfl (by first | exact pick_and | exact pick_or |  rfl)) rfl ?_
    refine r_p (p_nilCheck rfl) rfl ?_
    refine r_p (p_field0 fo109_4 rfl) rfl ?_
    refine r_store_row (k := 0) t4 rfl rfl rfl rfl rfl rfl rfl rfl ?_
    refine r_nil ?_
    refine r_seq ?_
    refine r_region ?_
    refine r_p (p_move rfl) rfl ?_
    refine r_p (p_bin rfl rfl (b_add (by first | exact w_i64 (by omega) (by omega) | rfl))) rfl ?_
    refine r_p (p_assign rfl) rfl ?_
    refine r_nil ?_
    refine r_cret ?_
    have hfin : cR vp vn (nd + 1 + (nXs t.kids : Int)) va (dp || decide (dXs t.kids > 8) || decide ((dXs t.kids : Int) + 1 > 8)) er = cR vp vn (nd + (nX t : Int)) va (dp || decide (dX t > 8)) er := by
      rw [hnx, hdx]
      have e1 : nd + 1 + (nXs t.kids : Int) = nd + ((nXs t.kids + 1 : Nat) : Int) := by omega
      have e2 : (dp || decide (dXs t.kids > 8) || decide ((dXs t.kids : Int) + 1 > 8)) = (dp || decide (dXs t.kids + 1 > 8)) := by
        rw [Bool.or_assoc]
        congr 1
        by_cases h : dXs t.kids + 1 > 8
        · have h2 : (dXs t.kids : Int) + 1 > 8 := by omega
          simp [h, h2]
        · have h2 : ¬ (dXs t.kids : Int) + 1 > 8 := by omega
          have h3 : ¬ dXs t.kids > 8 := by omega
          simp [h, h2, h3]
      rw [e1, e2]
    rw [← hfin]
    refine r_ret () trivial rfl (rs1 (rv_tmp rfl)) (by rw [hdx]; rfl) [0] [] rfl rfl rfl
theorem meas_all (c : Nat) (vp vn : SV) (va er : Int) : ∀ (n : Nat) (t : Tx), SizeOf.sizeOf t < n → GX t → ∀ (nd : Int) (dp : Bool), 0 ≤ nd → nd + (nX t : Int) ≤ 1000000000000 → Spec Try.prog 96 [.pointer (some ⟨c, 0, none⟩), xV t] [row c 109 (cR vp vn nd va dp er)] [txsA t.v t.kids] (X := Unit) (fun _ => True) (fun _ => .int .i64 (dX t : Int)) (fun _ => [row c 109 (cR vp vn (nd + (nX t : Int)) va (dp || decide (dX t > 8)) er)]) (fun _ => [])
  | 0, _, h, _ => absurd h (Nat.not_lt_zero _)
  | n + 1, t, h, ht => fun nd dp h0 hn => meas_step c vp vn va er t ht (fun u hu => meas_all c vp vn va er n u (by have := tx_lt hu; omega) ((GX_kids ht).mem u hu)) nd dp h0 hn
theorem meas_spec (c : Nat) (vp vn : SV) (va er : Int) (t : Tx) (ht : GX t) (nd : Int) (dp : Bool) (h0 : 0 ≤ nd) (hn : nd + (nX t : Int) ≤ 1000000000000) : Spec Try.prog 96 [.pointer (some ⟨c, 0, none⟩), xV t] [row c 109 (cR vp vn nd va dp er)] [txsA t.v t.kids] (X := Unit) (fun _ => True) (fun _ => .int .i64 (dX t : Int)) (fun _ => [row c 109 (cR vp vn (nd + (nX t : Int)) va (dp || decide (dX t > 8)) er)]) (fun _ => []) := meas_all c vp vn va er _ t (Nat.lt_succ_self _) ht nd dp h0 hn

end Go.Proofs.Ytdcbbkpdlcojfaa
namespace Go.Proofs.Ytdcbbkpdlcojfaa
set_option linter.unusedSimpArgs false
set_option linter.unusedVariables false
open Go.RowKit

theorem int_mul_pos (n : Nat) : 0 ≤ (n : Int) := Int.natCast_nonneg n
/-- The contract of count. -/
def HCt (c : Nat) (vp vn : SV) (er : Int) (v : SV) (l : List Ty) : Prop := ∀ (d : Nat) (nd va : Int) (dp : Bool), d + nYs l ≤ 1000000000000 → 0 ≤ nd → nd + (nYs l : Int) ≤ 1000000000000 → 0 ≤ va → va + (vYs l : Int) ≤ 1000000000000 →
  Spec Try.prog 81 [.pointer (some ⟨c, 0, none⟩), sv v, .int .i64 (d : Int)] [row c 109 (cR vp vn nd va dp er)] [tysA v l] (X := Unit) (fun _ => True) (fun _ => .tuple #[]) (fun _ => [row c 109 (cR vp vn (nd + (nYs l : Int)) (va + (vYs l : Int)) (dp || dpYs d l) er)]) (fun _ => [])
theorem or_mv (a b c d e : Bool) : (a || b || c || d || e) = (a || (b || c || d || e)) := by cases a <;> rfl
theorem or_mv2 (p q a b c d : Bool) : (p || q || a || b || c || d) = (p || (q || (a || b || c || d))) := by cases p <;> cases q <;> rfl
set_option maxHeartbeats 4000000 in
set_option maxRecDepth 100000 in
theorem count_step (c : Nat) (vp vn : SV) (er : Int) (v : SV) (l : List Ty) (hl : l.length ≤ 1000000) (hg : GYs l) (ih : ∀ u ∈ l, HCt c vp vn er u.vb u.body ∧ HCt c vp vn er u.vl u.els) (d : Nat) (nd va : Int) (dp : Bool) (hd : d + nYs l ≤ 1000000000000) (h0 : 0 ≤ nd) (hn : nd + (nYs l : Int) ≤ 1000000000000) (h1 : 0 ≤ va) (hv : va + (vYs l : Int) ≤ 1000000000000) :
    Spec Try.prog 81 [.pointer (some ⟨c, 0, none⟩), sv v, .int .i64 (d : Int)] [row c 109 (cR vp vn nd va dp er)] [tysA v l] (X := Unit) (fun _ => True) (fun _ => .tuple #[]) (fun _ => [row c 109 (cR vp vn (nd + (nYs l : Int)) (va + (vYs l : Int)) (dp || dpYs d l) er)]) (fun _ => []) := by
  refine r_enter Try.func81 rfl Try.ntmps81 rfl fun w0 M H => ?_
  refine r_more 0 1 rfl tys_sl ?_
  refine r_seq ?_
  refine r_region ?_
  refine r_p (p_move rfl) rfl ?_
  refine r_p (p_len_sl Try.underlying52 rfl (hs_sl (k := 1) rfl)) rfl ?_
  refine r_p (p_move rfl) rfl ?_
  refine r_nil ?_
  refine r_block ?_
  refine r_loop (X := Nat) (fun i => i ≤ l.length) (fun i => [(0, .pointer (some ⟨c, 0, none⟩)), (2, .int .i64 (d : Int)), (10, sv v), (11, .int .i64 (l.length : Int)), (12, .int .i64 (i : Int))]) (fun i => [(0, row c 109 (cR vp vn (nd + (nYs (l.take i) : Int)) (va + (vYs (l.take i) : Int)) (dp || dpYs d (l.take i)) er))]) (fun i => [(0, tysA v l), (1, sl 5 eTy (sv v) l)]) (fun i => l.length - i) 0 (Nat.zero_le _) rfl (by rw [show (dp || dpYs d (l.take 0)) = dp by simp [dpYs], show nd + (nYs (l.take 0) : Int) = nd by simp [nYs], show va + (vYs (l.take 0) : Int) = va by simp [vYs]]; rfl) rfl (fun i n1 => ?_)
  refine r_seq ?_
  refine r_region ?_
  refine r_p (p_bin rfl rfl b_lt) rfl ?_
  refine r_nil ?_
  refine r_seq ?_
  refine r_cond rfl (fun h1 => ?_) (fun h1 => ?_)
  · (try simp only [decide_eq_true_eq, decide_eq_false_iff_not, Bool.and_eq_true, Bool.or_eq_true, Bool.and_eq_false_iff, Bool.or_eq_false_iff, Bool.not_eq_true, Bool.not_eq_false, Bool.not_eq_true', Bool.not_eq_false', Bool.not_not, bne_iff_ne, beq_iff_eq] at h1)
    have hi : i < l.length := by omega
    obtain ⟨st, hst⟩ : ∃ k, l[i]? = some k := ⟨_, List.getElem?_eq_getElem hi⟩
    have hsm := List.mem_of_getElem? hst
    have hsy := hg.mem st hsm
    have hsg := GY_es hsy
    have hle := nYs_le l (i + 1)
    rw [nYs_take hst] at hle
    have hny := nY_eq st
    have hvy := vY_le st
    have hvl := vYs_le l
    have hva := vYs_le (l.take i)
    have hvb := vYs_le st.body
    have hvs := vYs_le st.els
    have hnl := nYs_le l i
    have hvy2 : (vY st : Int) = (if st.kind = 1 then 1 else 0 : Int) + (vYs st.body : Int) + (vYs st.els : Int) := by
      rw [vY_eq]
      split <;> omega
    have hki : 0 ≤ (if st.kind = 1 then 1 else 0 : Int) ∧ (if st.kind = 1 then 1 else 0 : Int) ≤ 1 := by split <;> omega
    have hvv : (vYs (l.take i) : Int) + (vY st : Int) ≤ (vYs l : Int) := by
      have h := vYs_app (l.take (i + 1)) (l.drop (i + 1))
      rw [List.take_append_drop, vYs_take hst] at h
      omega
    refine r_more 0 7 rfl (tys_es hsm) ?_
    refine r_more 0 8 rfl (tys_body hsm) ?_
    refine r_more 0 9 rfl (tys_els hsm) ?_
    refine r_more 7 10 rfl txs_sl ?_
    refine r_skip ?_
    refine r_seq ?_
    refine r_block ?_
    refine r_seq ?_
    refine r_region ?_
    refine r_p (p_idx_sl (j := i) Try.underlying52 t54 rfl rfl (hs_sl (k := 1) rfl) (by first | rfl | omega) (by first | omega | (simp; done) | (simp; omega))) rfl ?_
    refine r_p (p_loadA t54 rfl rfl rfl (g_el' (hs_sl (k := 1) rfl) (by intro _; rfl) hst (by rfl))) rfl ?_
    refine r_alloc t54 rfl rfl fun b7 => ?_
    refine r_store_all (k := 7) t54 rfl rfl rfl rfl rfl rfl ?_
    refine r_nil ?_
    refine r_seq ?_
    refine r_region ?_
    refine r_p (p_move rfl) rfl ?_
    refine r_p (p_nilCheck rfl) rfl ?_
    refine r_p (p_field0 fo109_2 rfl) rfl ?_
    refine r_p (p_load1 t3 rfl rfl (g_row1 (k := 0) rfl rfl)) rfl ?_
    refine r_p (p_bin rfl rfl (b_add (by first | exact w_i64 (by omega) (by omega) | rfl))) rfl ?_
    refine r_p (p_nilCheck rfl) rfl ?_
    refine r_p (p_field0 fo109_2 rfl) rfl ?_
    refine r_store_row (k := 0) t3 rfl rfl rfl rfl rfl rfl rfl rfl ?_
    refine r_nil ?_
    refine r_seq ?_
    refine r_region ?_
    refine r_p (p_move rfl) rfl ?_
    refine r_p (p_move rfl) rfl ?_
    refine r_p (p_nilCheck rfl) rfl ?_
    refine r_p (p_field0 fo109_4 rfl) rfl ?_
    refine r_p (p_load1 t4 rfl rfl (g_row1 (k := 0) rfl rfl)) rfl ?_
    refine r_p (p_move rfl) rfl ?_
    refine r_gp [] rfl rfl trivial (fun hg2 => p_move rfl) rfl ?_
    refine r_gp [(29, _)] rfl rfl ⟨rfl, trivial⟩ (fun hg3 => p_bin rfl rfl b_gt) rfl ?_
    refine r_p (p_pick rfl rfl rfl (by first | exact pick_and | exact pick_or |  rfl)) rfl ?_
    refine r_p (p_nilCheck rfl) rfl ?_
    refine r_p (p_field0 fo109_4 rfl) rfl ?_
    refine r_store_row (k := 0) t4 rfl rfl rfl rfl rfl rfl rfl rfl ?_
    refine r_nil ?_
    refine r_seq_cut (X := Unit) (fun _ => True) (fun _ => [(0, .pointer (some ⟨c, 0, none⟩)), (2, .int .i64 (d : Int)), (10, sv v), (11, .int .i64 (l.length : Int)), (12, .int .i64 (i : Int)), (7, .pointer (some ⟨b7, 0, none⟩))]) (fun _ => [(0, row c 109 (cR vp vn (nd + (nYs (l.take i) : Int) + 1) (va + (vYs (l.take i) : Int) + (if st.kind = 1 then 1 else 0 : Int)) (dp || dpYs d (l.take i) || decide (d > 8)) er)), (7, row b7 54 (eTy st))]) (fun _ => [(0, tysA v l), (1, sl 5 eTy (sv v) l), (7, txsA st.ve st.es), (8, tysA st.vb st.body), (9, tysA st.vl st.els), (10, sl 4 eTx (sv st.ve) st.es)]) ?_ (fun _ _ => ?_)
    · refine r_seq ?_
      refine r_region ?_
      refine r_p (p_field0 fo54_0 rfl) rfl ?_
      refine r_p (p_load1 t3 rfl rfl (g_row1 (k := 7) rfl rfl)) rfl ?_
      refine r_p (p_bin rfl rfl b_eq) rfl ?_
      refine r_nil ?_
      refine r_cond rfl (fun h4 => ?_) (fun h4 => ?_)
      · have q1 : st.kind = 1 := of_decide_eq_true h4
        refine r_region ?_
        refine r_p (p_move rfl) rfl ?_
        refine r_p (p_nilCheck rfl) rfl ?_
        refine r_p (p_field0 fo109_3 rfl) rfl ?_
        refine r_p (p_load1 t3 rfl rfl (g_row1 (k := 0) rfl rfl)) rfl ?_
        refine r_p (p_bin rfl rfl (b_add (by first | exact w_i64 (by omega) (by omega) | rfl))) rfl ?_
        refine r_p (p_nilCheck rfl) rfl ?_
        refine r_p (p_field0 fo109_3 rfl) rfl ?_
        refine r_store_row (k := 0) t3 rfl rfl rfl rfl rfl rfl rfl rfl ?_
        refine r_nil ?_
        refine r_here () trivial rfl (by rw [show decide (d > 8) = decide ((d : Int) > 8) from decide_eq_decide.2 (by omega), if_pos q1]; rfl) rfl
      · have q1 : ¬ st.kind = 1 := of_decide_eq_false h4
        refine r_skip ?_
        refine r_here () trivial rfl (by rw [show decide (d > 8) = decide ((d : Int) > 8) from decide_eq_decide.2 (by omega), if_neg q1, Int.add_zero]; rfl) rfl
    · refine r_seq ?_
      refine r_seq ?_
      refine r_region ?_
      refine r_p (p_field0 fo54_2 rfl) rfl ?_
      refine r_p (p_load1 t51 rfl rfl (g_row1 (k := 7) rfl rfl)) rfl ?_
      refine r_p (p_len_sl Try.underlying51 rfl (hs_sl (k := 10) rfl)) rfl ?_
      refine r_p (p_move rfl) rfl ?_
      refine r_nil ?_
      refine r_block ?_
      refine r_loop (X := Nat) (fun j => j ≤ st.es.length) (fun j => [(0, .pointer (some ⟨c, 0, none⟩)), (2, .int .i64 (d : Int)), (10, sv v), (11, .int .i64 (l.length : Int)), (12, .int .i64 (i : Int)), (7, .pointer (some ⟨b7, 0, none⟩)), (45, sv st.ve), (46, .int .i64 (st.es.length : Int)), (47, .int .i64 (j : Int))]) (fun j => [(0, row c 109 (cR vp vn (nd + (nYs (l.take i) : Int) + 1 + (nXs (st.es.take j) : Int)) (va + (vYs (l.take i) : Int) + (if st.kind = 1 then 1 else 0 : Int)) (dp || dpYs d (l.take i) || decide (d > 8) || decide (dXs (st.es.take j) > 8)) er)), (7, row b7 54 (eTy st))]) (fun j => [(0, tysA v l), (1, sl 5 eTy (sv v) l), (7, txsA st.ve st.es), (8, tysA st.vb st.body), (9, tysA st.vl st.els), (10, sl 4 eTx (sv st.ve) st.es)]) (fun j => st.es.length - j) 0 (Nat.zero_le _) rfl (by rw [show (dp || dpYs d (l.take i) || decide (d > 8) || decide (dXs (st.es.take 0) > 8)) = (dp || dpYs d (l.take i) || decide (d > 8)) by simp [dXs], show nd + (nYs (l.take i) : Int) + 1 + (nXs (st.es.take 0) : Int) = nd + (nYs (l.take i) : Int) + 1 by simp [nXs]]; rfl) rfl (fun j n2 => ?_)
      refine r_seq ?_
      refine r_region ?_
      refine r_p (p_bin rfl rfl b_lt) rfl ?_
      refine r_nil ?_
      refine r_seq ?_
      refine r_cond rfl (fun h5 => ?_) (fun h5 => ?_)
      · (try simp only [decide_eq_true_eq, decide_eq_false_iff_not, Bool.and_eq_true, Bool.or_eq_true, Bool.and_eq_false_iff, Bool.or_eq_false_iff, Bool.not_eq_true, Bool.not_eq_false, Bool.not_eq_true', Bool.not_eq_false', Bool.not_not, bne_iff_ne, beq_iff_eq] at h5)
        have hj : j < st.es.length := by omega
        obtain ⟨kid, hkid⟩ : ∃ k, st.es[j]? = some k := ⟨_, List.getElem?_eq_getElem hj⟩
        have hkm := List.mem_of_getElem? hkid
        have hlx := nXs_le st.es (j + 1)
        rw [nXs_take hkid] at hlx
        have hdx := dX_le kid
        refine r_skip ?_
        refine r_seq ?_
        refine r_block ?_
        refine r_seq ?_
        refine r_region ?_
        refine r_p (p_idx_sl (j := j) Try.underlying51 t57 rfl rfl (hs_sl (k := 10) rfl) (by first | rfl | omega) (by first | omega | (simp; done) | (simp; omega))) rfl ?_
        refine r_p (p_loadA t57 rfl rfl rfl (g_el' (hs_sl (k := 10) rfl) (by intro _; rfl) hkid (by rfl))) rfl ?_
        refine r_alloc t57 rfl rfl fun b9 => ?_
        refine r_store_all (k := 9) t57 rfl rfl rfl rfl rfl rfl ?_
        refine r_nil ?_
        refine r_region ?_
        refine r_p (p_move rfl) rfl ?_
        refine r_p (p_loadA t57 rfl rfl rfl (g_all (k := 9) rfl)) rfl ?_
        refine r_more 7 12 rfl (txs_kid hkm) ?_
        refine r_call (xs := [.tmp 51, .tmp 52]) (meas_spec c vp vn (va + (vYs (l.take i) : Int) + (if st.kind = 1 then 1 else 0 : Int)) er kid (hsg.2.mem kid hkm) (nd + (nYs (l.take i) : Int) + 1 + (nXs (st.es.take j) : Int)) (dp || dpYs d (l.take i) || decide (d > 8) || decide (dXs (st.es.take j) > 8)) (by omega) (by omega)) cb96 [0] [(false, 12)] [0] [] rfl rfl rfl rfl rfl rfl rfl rfl (fun _ _ => rfl) (fun _ _ _ => rfl) rfl (fun _ _ => ?_)
        refine r_nil ?_
        refine r_region ?_
        refine r_p (p_bin rfl rfl (b_add (by first | exact w_i64 (by omega) (by omega) | rfl))) rfl ?_
        refine r_p (p_move rfl) rfl ?_
        refine r_nil ?_
        refine r_here (j + 1) ⟨by omega, by omega⟩ rfl (by rw [dXs_take hkid, nXs_take hkid, ← dec_max, ← Bool.or_assoc, Int.natCast_add, ← Int.add_assoc]; rfl) rfl
      · (try simp only [decide_eq_true_eq, decide_eq_false_iff_not, Bool.and_eq_true, Bool.or_eq_true, Bool.and_eq_false_iff, Bool.or_eq_false_iff, Bool.not_eq_true, Bool.not_eq_false, Bool.not_eq_true', Bool.not_eq_false', Bool.not_not, bne_iff_ne, beq_iff_eq] at h5)
        have hj : j = st.es.length := by omega
        subst hj
        rw [List.take_length]
        refine r_exit ?_
        refine r_seq ?_
        refine r_region ?_
        refine r_p (p_move rfl) rfl ?_
        refine r_p (p_field0 fo54_3 rfl) rfl ?_
        refine r_p (p_load1 t52 rfl rfl (g_row1 (k := 7) rfl rfl)) rfl ?_
        refine r_p (p_move rfl) rfl ?_
        refine r_p (p_bin rfl rfl (b_add (by first | exact w_i64 (by omega) (by omega) | rfl))) rfl ?_
        refine r_call (xs := [.tmp 55, .tmp 57, .tmp 59]) ((ih st hsm).1 (d + 1) (nd + (nYs (l.take i) : Int) + 1 + (nXs st.es : Int)) (va + (vYs (l.take i) : Int) + (if st.kind = 1 then 1 else 0 : Int)) (dp || dpYs d (l.take i) || decide (d > 8) || decide (dXs st.es > 8)) (by omega) (by omega) (by omega) (by omega) (by omega)) cb81 [0] [(false, 8)] [0] [] rfl rfl rfl rfl rfl rfl rfl rfl (fun _ _ => rfl) (fun _ _ _ => rfl) rfl (fun _ _ => ?_)
        refine r_nil ?_
        refine r_region ?_
        refine r_p (p_move rfl) rfl ?_
        refine r_p (p_field0 fo54_4 rfl) rfl ?_
        refine r_p (p_load1 t52 rfl rfl (g_row1 (k := 7) rfl rfl)) rfl ?_
        refine r_p (p_move rfl) rfl ?_
        refine r_p (p_bin rfl rfl (b_add (by first | exact w_i64 (by omega) (by omega) | rfl))) rfl ?_
        refine r_call (xs := [.tmp 61, .tmp 63, .tmp 65]) ((ih st hsm).2 (d + 1) (nd + (nYs (l.take i) : Int) + 1 + (nXs st.es : Int) + (nYs st.body : Int)) (va + (vYs (l.take i) : Int) + (if st.kind = 1 then 1 else 0 : Int) + (vYs st.body : Int)) (dp || dpYs d (l.take i) || decide (d > 8) || decide (dXs st.es > 8) || dpYs (d + 1) st.body) (by omega) (by omega) (by omega) (by omega) (by omega)) cb81 [0] [(false, 9)] [0] [] rfl rfl rfl rfl rfl rfl rfl rfl (fun _ _ => rfl) (fun _ _ _ => rfl) rfl (fun _ _ => ?_)
        refine r_nil ?_
        refine r_region ?_
        refine r_p (p_bin rfl rfl (b_add (by first | exact w_i64 (by omega) (by omega) | rfl))) rfl ?_
        refine r_p (p_move rfl) rfl ?_
        refine r_nil ?_
        have hfin : cR vp vn (nd + (nYs (l.take i) : Int) + 1 + (nXs st.es : Int) + (nYs st.body : Int) + (nYs st.els : Int)) (va + (vYs (l.take i) : Int) + (if st.kind = 1 then 1 else 0 : Int) + (vYs st.body : Int) + (vYs st.els : Int)) (dp || dpYs d (l.take i) || decide (d > 8) || decide (dXs st.es > 8) || dpYs (d + 1) st.body || dpYs (d + 1) st.els) er = cR vp vn (nd + (nYs (l.take (i + 1)) : Int)) (va + (vYs (l.take (i + 1)) : Int)) (dp || dpYs d (l.take (i + 1))) er := by
          rw [nYs_take hst, vYs_take hst, dpYs_take hst, dpY_eq, or_mv2]
          congr 1
          · omega
          · rw [Int.natCast_add, hvy2]
            omega
        refine r_here (i + 1) ⟨by omega, by omega⟩ rfl (by rw [← hfin]; rfl) rfl
  · (try simp only [decide_eq_true_eq, decide_eq_false_iff_not, Bool.and_eq_true, Bool.or_eq_true, Bool.and_eq_false_iff, Bool.or_eq_false_iff, Bool.not_eq_true, Bool.not_eq_false, Bool.not_eq_true', Bool.not_eq_false', Bool.not_not, bne_iff_ne, beq_iff_eq] at h1)
    have hi : i = l.length := by omega
    subst hi
    rw [List.take_length]
    refine r_exit ?_
    refine r_end () trivial rfl rs0 rfl [0] [] rfl rfl rfl
theorem count_all (c : Nat) (vp vn : SV) (er : Int) : ∀ (n : Nat) (v : SV) (l : List Ty), SizeOf.sizeOf l < n → l.length ≤ 1000000 → GYs l → HCt c vp vn er v l
  | 0, _, _, h, _, _ => absurd h (Nat.not_lt_zero _)
  | n + 1, v, l, h, hl, hg => count_step c vp vn er v l hl hg fun u hu => by
    have h1 := List.sizeOf_lt_of_mem hu
    have h2 : SizeOf.sizeOf u.body < SizeOf.sizeOf u ∧ SizeOf.sizeOf u.els < SizeOf.sizeOf u := by
      cases u
      simp only [Ty.mk.sizeOf_spec, Ty.body, Ty.els]
      omega
    have h3 := hg.mem u hu
    exact ⟨count_all c vp vn er n u.vb u.body (by omega) (GY_body h3).1 (GY_body h3).2, count_all c vp vn er n u.vl u.els (by omega) (GY_els h3).1 (GY_els h3).2⟩
theorem count_spec (c : Nat) (vp vn : SV) (er : Int) (v : SV) (l : List Ty) (hl : l.length ≤ 1000000) (hg : GYs l) : HCt c vp vn er v l := count_all c vp vn er _ v l (Nat.lt_succ_self _) hl hg

end Go.Proofs.Ytdcbbkpdlcojfaa
namespace Go.Proofs.Ytdcbbkpdlcojfaa
set_option linter.unusedSimpArgs false
set_option linter.unusedVariables false
open Go.RowKit

/-- The error of an expression itself. -/
def nE (fs : List Tf) (ns : List ByteArray) (t : Tx) : Int := if t.kind = 2 then (if memB t.name ns = true then 0 else 21) else if t.kind = 3 then (match ffind fs t.name with
      | none => 21
      | some f => if f.ps.length = t.kids.length then 0 else 23) else 0
theorem eX_eq (fs : List Tf) (ns : List ByteArray) (t : Tx) : eX fs ns t = fst (nE fs ns t) (eXs fs ns t.kids) := by cases t; rfl
theorem eXs_app (fs : List Tf) (ns : List ByteArray) : ∀ a b : List Tx, eXs fs ns (a ++ b) = fst (eXs fs ns a) (eXs fs ns b)
  | [], b => rfl
  | t :: r, b => by rw [List.cons_append, eXs, eXs_app fs ns r b, eXs, fst_assoc]
theorem eXs_take {fs : List Tf} {ns : List ByteArray} {l : List Tx} {i : Nat} {k : Tx} (h : l[i]? = some k) : eXs fs ns (l.take (i + 1)) = fst (eXs fs ns (l.take i)) (eX fs ns k) := by
  rw [take_snoc h, eXs_app]
  show fst _ (fst (eX fs ns k) 0) = _
  rw [fst_zero]
theorem nE_2 {fs : List Tf} {ns : List ByteArray} {t : Tx} (h : t.kind = 2) : nE fs ns t = if memB t.name ns = true then 0 else 21 := if_pos h
theorem nE_none {fs : List Tf} {ns : List ByteArray} {t : Tx} (h : t.kind = 3) (hf : ffind fs t.name = none) : nE fs ns t = 21 := by
  unfold nE
  rw [if_neg (by omega), if_pos h, hf]
theorem nE_some {fs : List Tf} {ns : List ByteArray} {t : Tx} {f : Tf} (h : t.kind = 3) (hf : ffind fs t.name = some f) : nE fs ns t = if f.ps.length = t.kids.length then 0 else 23 := by
  unfold nE
  rw [if_neg (by omega), if_pos h, hf]
theorem nE_0 {fs : List Tf} {ns : List ByteArray} {t : Tx} (h2 : ¬ t.kind = 2) (h3 : ¬ t.kind = 3) : nE fs ns t = 0 := by
  unfold nE
  rw [if_neg h2, if_neg h3]
/-- The error of an assignment, and of a declaration. -/
def aE (ns : List ByteArray) (t : Ty) : Int := if t.kind = 2 then (if memB t.name ns = true then 0 else 21) else 0
def dE (ns : List ByteArray) (t : Ty) : Int := if t.kind = 1 then (if memB t.name ns = true then 22 else 0) else 0
def dN (ns : List ByteArray) (t : Ty) : List ByteArray := if t.kind = 1 then ns ++ [t.name] else ns
theorem bY_eq (fs : List Tf) (ns : List ByteArray) (t : Ty) : bY fs ns t = ((bYs fs (bYs fs (dN ns t) t.body).1 t.els).1, fst (aE ns t) (fst (eXs fs ns t.es) (fst (dE ns t) (fst (bYs fs (dN ns t) t.body).2 (bYs fs (bYs fs (dN ns t) t.body).1 t.els).2)))) := by cases t; rfl
theorem bYs_app (fs : List Tf) : ∀ (ns : List ByteArray) (a b : List Ty), bYs fs ns (a ++ b) = ((bYs fs (bYs fs ns a).1 b).1, fst (bYs fs ns a).2 (bYs fs (bYs fs ns a).1 b).2)
  | ns, [], b => rfl
  | ns, t :: r, b => by
    rw [List.cons_append, bYs, bYs_app fs _ r b, bYs]
    simp only [fst_assoc]
theorem bYs_take {fs : List Tf} {ns : List ByteArray} {l : List Ty} {i : Nat} {k : Ty} (h : l[i]? = some k) : bYs fs ns (l.take (i + 1)) = ((bY fs (bYs fs ns (l.take i)).1 k).1, fst (bYs fs ns (l.take i)).2 (bY fs (bYs fs ns (l.take i)).1 k).2) := by
  rw [take_snoc h, bYs_app]
  show ((bY fs _ k).1, fst _ (fst (bY fs _ k).2 0)) = _
  rw [fst_zero]
mutual
theorem bY_len (fs : List Tf) : ∀ (ns : List ByteArray) (t : Ty), (bY fs ns t).1.length = ns.length + vY t
  | ns, .mk k nm _ es _ body _ els => by
    show (bYs fs (bYs fs (if k = 1 then ns ++ [nm] else ns) body).1 els).1.length = _
    rw [bYs_len fs _ els, bYs_len fs _ body, vY]
    split <;> simp <;> omega
theorem bYs_len (fs : List Tf) : ∀ (ns : List ByteArray) (l : List Ty), (bYs fs ns l).1.length = ns.length + vYs l
  | ns, [] => by simp [bYs, vYs]
  | ns, t :: r => by
    show (bYs fs (bY fs ns t).1 r).1.length = _
    rw [bYs_len fs _ r, bY_len fs ns t, vYs]
    omega
end
theorem vYs_take_le {l : List Ty} {i : Nat} {k : Ty} (h : l[i]? = some k) : vYs (l.take i) + vY k ≤ vYs l := by
  have h2 := vYs_app (l.take (i + 1)) (l.drop (i + 1))
  rw [List.take_append_drop, vYs_take h] at h2
  omega
theorem dN_len (ns : List ByteArray) (t : Ty) : (dN ns t).length = ns.length + if t.kind = 1 then 1 else 0 := by
  unfold dN
  split
  · simp
  · rfl
set_option maxHeartbeats 4000000 in
set_option maxRecDepth 100000 in
theorem cexpr_step (c : Nat) (vp vn : SV) (nd va : Int) (dp : Bool) (fs : List Tf) (hfl : fs.length ≤ 1000000) (ns : List ByteArray) (hns : ns.length ≤ 1000000) (t : Tx) (ht : GX t) (ih : ∀ u ∈ t.kids, ∀ er : Int, Spec Try.prog 98 [.pointer (some ⟨c, 0, none⟩), xV u] [row c 109 (cR vp vn nd va dp er), own 9 1 eS (sv vn) ns] [txsA u.v u.kids, tfsA vp fs] (X := Unit) (fun _ => True) (fun _ => .tuple #[]) (fun _ => [row c 109 (cR vp vn nd va dp (fst er (eX fs ns u))), own 9 1 eS (sv vn) ns]) (fun _ => [])) (er : Int) :
    Spec Try.prog 98 [.pointer (some ⟨c, 0, none⟩), xV t] [row c 109 (cR vp vn nd va dp (er)), own 9 1 eS (sv vn) (ns)] [txsA t.v t.kids, tfsA vp fs] (X := Unit) (fun _ => True) (fun _ => .tuple #[]) (fun _ => [row c 109 (cR vp vn nd va dp (fst er (eX fs ns t))), own 9 1 eS (sv vn) (ns)]) (fun _ => []) := by
  refine r_enter Try.func98 rfl Try.ntmps98 rfl fun w0 M H => ?_
  have hkl := GX_len ht
  refine r_more 0 2 rfl txs_sl ?_
  refine r_more 1 3 rfl tfs_sl ?_
  refine r_seq ?_
  refine r_region ?_
  refine r_boxA rfl rfl fun b3 => ?_
  refine r_nil ?_
  refine r_seq_cut (X := Unit) (fun _ => True) (fun _ => [(0, .pointer (some ⟨c, 0, none⟩)), (3, .pointer (some ⟨b3, 0, none⟩))]) (fun _ => [(0, row c 109 (cR vp vn nd va dp (fst er (nE fs ns t)))), (1, own 9 1 eS (sv vn) (ns)), (3, row b3 57 (eTx t))]) (fun _ => [(0, txsA t.v t.kids), (1, tfsA vp fs), (2, sl 4 eTx (sv t.v) t.kids), (3, sl 3 eTf (sv vp) fs)]) ?_ (fun _ _ => ?_)
  · refine r_seq ?_
    refine r_region ?_
    refine r_p (p_field0 fo57_0 rfl) rfl ?_
    refine r_p (p_load1 t3 rfl rfl (g_row1 (k := 3) rfl rfl)) rfl ?_
    refine r_nil ?_
    refine r_block ?_
    refine r_seq ?_
    refine r_region ?_
    refine r_p (p_bin rfl rfl b_eq) rfl ?_
    refine r_p (p_assign rfl) rfl ?_
    refine r_nil ?_
    refine r_cond rfl (fun h1 => ?_) (fun h1 => ?_)
    · have q2 : t.kind = 2 := of_decide_eq_true h1
      refine r_region ?_
      refine r_p (p_move rfl) rfl ?_
      refine r_p (p_field0 fo57_2 rfl) rfl ?_
      refine r_p (p_load1 t9 rfl rfl (g_row1 (k := 3) rfl rfl)) rfl ?_
      refine r_call (xs := [.tmp 11, .tmp 13]) (cvar_spec c vp vn nd va dp er ns hns t.name) cb97 [0, 1] [] [0, 1] [] rfl rfl rfl rfl rfl rfl rfl rfl (fun _ _ => rfl) (fun _ _ _ => rfl) rfl (fun _ _ => ?_)
      refine r_nil ?_
      refine r_here () trivial rfl (by rw [nE_2 q2]; rfl) rfl
    · have q2 : ¬ t.kind = 2 := of_decide_eq_false h1
      refine r_seq ?_
      refine r_region ?_
      refine r_p (p_bin rfl rfl b_eq) rfl ?_
      refine r_p (p_assign rfl) rfl ?_
      refine r_nil ?_
      refine r_cond rfl (fun h2 => ?_) (fun h2 => ?_)
      · have q3 : t.kind = 3 := of_decide_eq_true h2
        refine r_seq ?_
        refine r_region ?_
        refine r_p (p_move rfl) rfl ?_
        refine r_p (p_field0 fo57_2 rfl) rfl ?_
        refine r_p (p_load1 t9 rfl rfl (g_row1 (k := 3) rfl rfl)) rfl ?_
        refine r_call (xs := [.tmp 17, .tmp 19]) (cfind_spec c vp vn nd va dp er t.name fs hfl) cb67 [0] [(false, 3)] [0] [] rfl rfl rfl rfl rfl rfl rfl rfl (fun _ _ => rfl) (fun _ _ _ => rfl) rfl (fun _ _ => ?_)
        refine r_p (p_assign rfl) rfl ?_
        refine r_nil ?_
        refine r_seq ?_
        refine r_region ?_
        refine r_p (p_move rfl) rfl ?_
        refine r_p (p_bin rfl rfl b_lt) rfl ?_
        refine r_nil ?_
        refine r_cond rfl (fun h3 => ?_) (fun h3 => ?_)
        · have hff : ffind fs t.name = none := ffind_fix.1.1 (of_decide_eq_true h3)
          refine r_region ?_
          refine r_p (p_move rfl) rfl ?_
          refine r_call (xs := [.tmp 23, .const (.int .i64 21)]) (cfail_spec c vp vn nd va dp er 21) cb82 [0] [] [0] [] rfl rfl rfl rfl rfl rfl rfl rfl (fun _ _ => rfl) (fun _ _ _ => rfl) rfl (fun _ _ => ?_)
          refine r_nil ?_
          refine r_here () trivial rfl (by rw [nE_none q3 hff]; rfl) rfl
        · obtain ⟨f, hff⟩ : ∃ f, ffind fs t.name = some f := by
            cases hf : ffind fs t.name with
            | none => exact absurd (ffind_fix.1.2 hf) (of_decide_eq_false h3)
            | some f => exact ⟨f, rfl⟩
          obtain ⟨j, hj1, hj2⟩ := ffind_fix.2 f hff
          have hjl := (List.getElem?_eq_some_iff.1 hj2).1
          rw [hj1]
          refine r_more 1 7 rfl (tfs_f (ffind_mem hff)) ?_
          refine r_more 7 9 rfl tf_ps ?_
          refine r_seq ?_
          refine r_draw [25, 26, 27, 28, 29, 30, 31, 32, 33, 34, 35, 36, 37, 38] _ rfl (stg_end (V := [(0, 25, _), (1, 26, _), (2, 27, _), (3, 28, _), (4, 29, _), (5, 30, _), (6, 31, _), (7, 32, _), (8, 33, _), (9, 34, _), (10, 35, _), (11, 36, _), (12, 37, _), (13, 38, _)]) [0, 1, 2, 3, 4, 5, 6, 7, 8, 9, 10, 11, 12, 13] rfl rfl (prs_cons (pri rfl (p_move rfl)) (prs_cons (pri rfl (p_nilCheck rfl)) (prs_cons (pri rfl (p_field0 fo109_0 rfl)) (prs_cons (pri rfl (p_field0 fo40_0 rfl)) (prs_cons (pri rfl (p_load1 t38 rfl rfl (g_row1 (k := 0) rfl rfl))) (prs_cons (pri rfl (p_move rfl)) (prs_cons (pri rfl (p_idx_sl (j := j) Try.underlying38 t64 rfl rfl (hs_sl (k := 3) rfl) rfl hjl)) (prs_cons (pri rfl (p_field fo64_1 rfl)) (prs_cons (pri rfl (p_load1 t62 rfl rfl (g_elp (hs_sl (k := 3) rfl) (by intro _; rfl) hj2 rfl))) (prs_cons (pri rfl (p_len_sl Try.underlying62 rfl (hs_sl (k := 9) rfl))) (prs_cons (pri rfl (p_field0 fo57_3 rfl)) (prs_cons (pri rfl (p_load1 t51 rfl rfl (g_row1 (k := 3) rfl rfl))) (prs_cons (pri rfl (p_len_sl Try.underlying51 rfl (hs_sl (k := 2) rfl))) (prs_cons (pri rfl (p_bin rfl rfl b_ne)) prs_nil)))))))))))))) rfl rfl rfl ?_)
          refine r_cond rfl (fun h4 => ?_) (fun h4 => ?_)
          · have hne : ¬ f.ps.length = t.kids.length := fun e => by rw [e] at h4; simp at h4
            refine r_region ?_
            refine r_p (p_move rfl) rfl ?_
            refine r_call (xs := [.tmp 39, .const (.int .i64 23)]) (cfail_spec c vp vn nd va dp er 23) cb82 [0] [] [0] [] rfl rfl rfl rfl rfl rfl rfl rfl (fun _ _ => rfl) (fun _ _ _ => rfl) rfl (fun _ _ => ?_)
            refine r_nil ?_
            refine r_here () trivial rfl (by rw [nE_some q3 hff, if_neg hne]; rfl) rfl
          · have hne : f.ps.length = t.kids.length := by
              have := h4
              simp only [Bool.not_eq_false', decide_eq_true_eq] at this
              omega
            refine r_skip ?_
            refine r_here () trivial rfl (by rw [nE_some q3 hff, if_pos hne, fst_zero]; rfl) rfl
      · have q3 : ¬ t.kind = 3 := of_decide_eq_false h2
        refine r_skip ?_
        refine r_here () trivial rfl (by rw [nE_0 q2 q3, fst_zero]; rfl) rfl
  · refine r_seq ?_
    refine r_region ?_
    refine r_p (p_field0 fo57_3 rfl) rfl ?_
    refine r_p (p_load1 t51 rfl rfl (g_row1 (k := 3) rfl rfl)) rfl ?_
    refine r_p (p_len_sl Try.underlying51 rfl (hs_sl (k := 2) rfl)) rfl ?_
    refine r_p (p_move rfl) rfl ?_
    refine r_nil ?_
    refine r_block ?_
    refine r_loop (X := Nat) (fun i => i ≤ t.kids.length) (fun i => [(0, .pointer (some ⟨c, 0, none⟩)), (3, .pointer (some ⟨b3, 0, none⟩)), (42, sv t.v), (43, .int .i64 (t.kids.length : Int)), (44, .int .i64 (i : Int))]) (fun i => [(0, row c 109 (cR vp vn nd va dp (fst er (fst (nE fs ns t) (eXs fs ns (t.kids.take i)))))), (1, own 9 1 eS (sv vn) (ns)), (3, row b3 57 (eTx t))]) (fun i => [(0, txsA t.v t.kids), (1, tfsA vp fs), (2, sl 4 eTx (sv t.v) t.kids), (3, sl 3 eTf (sv vp) fs)]) (fun i => t.kids.length - i) 0 (Nat.zero_le _) rfl (by rw [show eXs fs ns (t.kids.take 0) = 0 by simp [eXs], fst_zero]; rfl) rfl (fun i n1 => ?_)
    refine r_seq ?_
    refine r_region ?_
    refine r_p (p_bin rfl rfl b_lt) rfl ?_
    refine r_nil ?_
    refine r_seq ?_
    refine r_cond rfl (fun h5 => ?_) (fun h5 => ?_)
    · (try simp only [decide_eq_true_eq, decide_eq_false_iff_not, Bool.and_eq_true, Bool.or_eq_true, Bool.and_eq_false_iff, Bool.or_eq_false_iff, Bool.not_eq_true, Bool.not_eq_false, Bool.not_eq_true', Bool.not_eq_false', Bool.not_not, bne_iff_ne, beq_iff_eq] at h5)
      have hi : i < t.kids.length := by omega
      obtain ⟨kid, hkid⟩ : ∃ k, t.kids[i]? = some k := ⟨_, List.getElem?_eq_getElem hi⟩
      have hkm := List.mem_of_getElem? hkid
      refine r_skip ?_
      refine r_seq ?_
      refine r_block ?_
      refine r_seq ?_
      refine r_region ?_
      refine r_p (p_idx_sl (j := i) Try.underlying51 t57 rfl rfl (hs_sl (k := 2) rfl) (by first | rfl | omega) (by first | omega | (simp; done) | (simp; omega))) rfl ?_
      refine r_p (p_loadA t57 rfl rfl rfl (g_el' (hs_sl (k := 2) rfl) (by intro _; rfl) hkid (by rfl))) rfl ?_
      refine r_alloc t57 rfl rfl fun b6 => ?_
      refine r_store_all (k := 6) t57 rfl rfl rfl rfl rfl rfl ?_
      refine r_nil ?_
      refine r_region ?_
      refine r_p (p_move rfl) rfl ?_
      refine r_p (p_loadA t57 rfl rfl rfl (g_all (k := 6) rfl)) rfl ?_
      refine r_more 0 8 rfl (txs_kid hkm) ?_
      refine r_call (xs := [.tmp 48, .tmp 49]) (ih kid hkm (fst er (fst (nE fs ns t) (eXs fs ns (t.kids.take i))))) cb98 [0, 1] [(false, 8), (false, 1)] [0, 1] [] rfl rfl rfl rfl rfl rfl rfl rfl (fun _ _ => rfl) (fun _ _ _ => rfl) rfl (fun _ _ => ?_)
      refine r_nil ?_
      refine r_region ?_
      refine r_p (p_bin rfl rfl (b_add (by first | exact w_i64 (by omega) (by omega) | rfl))) rfl ?_
      refine r_p (p_move rfl) rfl ?_
      refine r_nil ?_
      refine r_here (i + 1) ⟨by omega, by omega⟩ rfl (by rw [eXs_take hkid]; simp only [fst_assoc]; rfl) rfl
    · (try simp only [decide_eq_true_eq, decide_eq_false_iff_not, Bool.and_eq_true, Bool.or_eq_true, Bool.and_eq_false_iff, Bool.or_eq_false_iff, Bool.not_eq_true, Bool.not_eq_false, Bool.not_eq_true', Bool.not_eq_false', Bool.not_not, bne_iff_ne, beq_iff_eq] at h5)
      have hi : i = t.kids.length := by omega
      subst hi
      rw [List.take_length, ← eX_eq]
      refine r_exit ?_
      refine r_end () trivial rfl rs0 rfl [0, 1] [] rfl rfl rfl
theorem cexpr_all (c : Nat) (vp vn : SV) (nd va : Int) (dp : Bool) (fs : List Tf) (hfl : fs.length ≤ 1000000) (ns : List ByteArray) (hns : ns.length ≤ 1000000) : ∀ (n : Nat) (t : Tx), SizeOf.sizeOf t < n → GX t → ∀ er : Int, Spec Try.prog 98 [.pointer (some ⟨c, 0, none⟩), xV t] [row c 109 (cR vp vn nd va dp er), own 9 1 eS (sv vn) ns] [txsA t.v t.kids, tfsA vp fs] (X := Unit) (fun _ => True) (fun _ => .tuple #[]) (fun _ => [row c 109 (cR vp vn nd va dp (fst er (eX fs ns t))), own 9 1 eS (sv vn) ns]) (fun _ => [])
  | 0, _, h, _ => absurd h (Nat.not_lt_zero _)
  | n + 1, t, h, ht => cexpr_step c vp vn nd va dp fs hfl ns hns t ht fun u hu => cexpr_all c vp vn nd va dp fs hfl ns hns n u (by have := tx_lt hu; omega) ((GX_kids ht).mem u hu)
theorem cexpr_spec (c : Nat) (vp vn : SV) (nd va : Int) (dp : Bool) (fs : List Tf) (hfl : fs.length ≤ 1000000) (ns : List ByteArray) (hns : ns.length ≤ 1000000) (t : Tx) (ht : GX t) (er : Int) : Spec Try.prog 98 [.pointer (some ⟨c, 0, none⟩), xV t] [row c 109 (cR vp vn nd va dp er), own 9 1 eS (sv vn) ns] [txsA t.v t.kids, tfsA vp fs] (X := Unit) (fun _ => True) (fun _ => .tuple #[]) (fun _ => [row c 109 (cR vp vn nd va dp (fst er (eX fs ns t))), own 9 1 eS (sv vn) ns]) (fun _ => []) := cexpr_all c vp vn nd va dp fs hfl ns hns _ t (Nat.lt_succ_self _) ht er
set_option maxHeartbeats 8000000 in
set_option maxRecDepth 100000 in
theorem cblock_step (c : Nat) (vp vn : SV) (nd va : Int) (dp : Bool) (fs : List Tf) (hfl : fs.length ≤ 1000000) (v : SV) (l : List Ty) (hl : l.length ≤ 1000000) (hg : GYs l) (ihb : ∀ u ∈ l, (∀ (vn : SV) (ns : List ByteArray) (er : Int), ns.length + vYs u.body ≤ 1000000 → Spec Try.prog 84 [.pointer (some ⟨c, 0, none⟩), sv u.vb] [row c 109 (cR vp vn nd va dp er), own 9 1 eS (sv vn) ns] [tysA u.vb u.body, tfsA vp fs] (X := SV) (fun _ => True) (fun _ => .tuple #[]) (fun x => [row c 109 (cR vp x nd va dp (fst er (bYs fs ns u.body).2)), own 9 1 eS (sv x) (bYs fs ns u.body).1]) (fun _ => []))) (ihe : ∀ u ∈ l, (∀ (vn : SV) (ns : List ByteArray) (er : Int), ns.length + vYs u.els ≤ 1000000 → Spec Try.prog 84 [.pointer (some ⟨c, 0, none⟩), sv u.vl] [row c 109 (cR vp vn nd va dp er), own 9 1 eS (sv vn) ns] [tysA u.vl u.els, tfsA vp fs] (X := SV) (fun _ => True) (fun _ => .tuple #[]) (fun x => [row c 109 (cR vp x nd va dp (fst er (bYs fs ns u.els).2)), own 9 1 eS (sv x) (bYs fs ns u.els).1]) (fun _ => []))) (ns : List ByteArray) (er : Int) (hnv : ns.length + vYs l ≤ 1000000) :
    Spec Try.prog 84 [.pointer (some ⟨c, 0, none⟩), sv v] [row c 109 (cR vp vn nd va dp (er)), own 9 1 eS (sv vn) (ns)] [tysA v l, tfsA vp fs] (X := SV) (fun _ => True) (fun _ => .tuple #[]) (fun x => [row c 109 (cR vp x nd va dp (fst er (bYs fs ns l).2)), own 9 1 eS (sv x) ((bYs fs ns l).1)]) (fun _ => []) := by
  refine r_enter Try.func84 rfl Try.ntmps84 rfl fun w0 M H => ?_
  refine r_more 0 2 rfl tys_sl ?_
  refine r_seq ?_
  refine r_region ?_
  refine r_p (p_move rfl) rfl ?_
  refine r_p (p_len_sl Try.underlying52 rfl (hs_sl (k := 2) rfl)) rfl ?_
  refine r_p (p_move rfl) rfl ?_
  refine r_nil ?_
  refine r_block ?_
  refine r_loop (X := Nat × SV) (fun x => x.1 ≤ l.length) (fun x => [(0, .pointer (some ⟨c, 0, none⟩)), (8, sv v), (9, .int .i64 (l.length : Int)), (10, .int .i64 (x.1 : Int))]) (fun x => [(0, row c 109 (cR vp x.2 nd va dp (fst er (bYs fs ns (l.take x.1)).2))), (1, own 9 1 eS (sv x.2) ((bYs fs ns (l.take x.1)).1))]) (fun x => [(0, tysA v l), (1, tfsA vp fs), (2, sl 5 eTy (sv v) l)]) (fun x => l.length - x.1) (0, vn) (Nat.zero_le _) rfl (by rw [show fst er (bYs fs ns (l.take (0, vn).1)).2 = er from fst_zero er]; rfl) rfl (fun x n1 => ?_)
  obtain ⟨i, vx⟩ := x
  dsimp only at n1 ⊢
  refine r_seq ?_
  refine r_region ?_
  refine r_p (p_bin rfl rfl b_lt) rfl ?_
  refine r_nil ?_
  refine r_seq ?_
  refine r_cond rfl (fun h1 => ?_) (fun h1 => ?_)
  · (try simp only [decide_eq_true_eq, decide_eq_false_iff_not, Bool.and_eq_true, Bool.or_eq_true, Bool.and_eq_false_iff, Bool.or_eq_false_iff, Bool.not_eq_true, Bool.not_eq_false, Bool.not_eq_true', Bool.not_eq_false', Bool.not_not, bne_iff_ne, beq_iff_eq] at h1)
    have hi : i < l.length := by omega
    obtain ⟨st, hst⟩ : ∃ k, l[i]? = some k := ⟨_, List.getElem?_eq_getElem hi⟩
    have hsm := List.mem_of_getElem? hst
    have hsy := hg.mem st hsm
    have hsg := GY_es hsy
    have hbl := bYs_len fs ns (l.take i)
    have hvt := vYs_take_le hst
    have hve := vY_eq st
    have hni : (bYs fs ns (l.take i)).1.length ≤ 1000000 := by omega
    refine r_more 0 7 rfl (tys_es hsm) ?_
    refine r_more 0 8 rfl (tys_body hsm) ?_
    refine r_more 0 9 rfl (tys_els hsm) ?_
    refine r_more 7 10 rfl txs_sl ?_
    refine r_skip ?_
    refine r_seq ?_
    refine r_block ?_
    refine r_seq ?_
    refine r_region ?_
    refine r_p (p_idx_sl (j := i) Try.underlying52 t54 rfl rfl (hs_sl (k := 2) rfl) (by first | rfl | omega) (by first | omega | (simp; done) | (simp; omega))) rfl ?_
    refine r_p (p_loadA t54 rfl rfl rfl (g_el' (hs_sl (k := 2) rfl) (by intro _; rfl) hst (by rfl))) rfl ?_
    refine r_alloc t54 rfl rfl fun b5 => ?_
    refine r_store_all (k := 5) t54 rfl rfl rfl rfl rfl rfl ?_
    refine r_nil ?_
    refine r_seq_cut (X := Unit) (fun _ => True) (fun _ => [(0, .pointer (some ⟨c, 0, none⟩)), (8, sv v), (9, .int .i64 (l.length : Int)), (10, .int .i64 (i : Int)), (5, .pointer (some ⟨b5, 0, none⟩))]) (fun _ => [(0, row c 109 (cR vp vx nd va dp (fst (fst er (bYs fs ns (l.take i)).2) (aE ((bYs fs ns (l.take i)).1) st)))), (1, own 9 1 eS (sv vx) ((bYs fs ns (l.take i)).1)), (5, row b5 54 (eTy st))]) (fun _ => [(0, tysA v l), (1, tfsA vp fs), (2, sl 5 eTy (sv v) l), (7, txsA st.ve st.es), (8, tysA st.vb st.body), (9, tysA st.vl st.els), (10, sl 4 eTx (sv st.ve) st.es)]) ?_ (fun _ _ => ?_)
    · refine r_seq ?_
      refine r_region ?_
      refine r_p (p_field0 fo54_0 rfl) rfl ?_
      refine r_p (p_load1 t3 rfl rfl (g_row1 (k := 5) rfl rfl)) rfl ?_
      refine r_p (p_bin rfl rfl b_eq) rfl ?_
      refine r_nil ?_
      refine r_cond rfl (fun h2 => ?_) (fun h2 => ?_)
      · have q2 : st.kind = 2 := of_decide_eq_true h2
        refine r_region ?_
        refine r_p (p_move rfl) rfl ?_
        refine r_p (p_field0 fo54_1 rfl) rfl ?_
        refine r_p (p_load1 t9 rfl rfl (g_row1 (k := 5) rfl rfl)) rfl ?_
        refine r_call (xs := [.tmp 17, .tmp 19]) (cvar_spec c vp vx nd va dp (fst er (bYs fs ns (l.take i)).2) ((bYs fs ns (l.take i)).1) hni st.name) cb97 [0, 1] [] [0, 1] [] rfl rfl rfl rfl rfl rfl rfl rfl (fun _ _ => rfl) (fun _ _ _ => rfl) rfl (fun _ _ => ?_)
        refine r_nil ?_
        refine r_here () trivial rfl (by unfold aE; rw [if_pos q2]; rfl) rfl
      · have q2 : ¬ st.kind = 2 := of_decide_eq_false h2
        refine r_skip ?_
        refine r_here () trivial rfl (by unfold aE; rw [if_neg q2, fst_zero]; rfl) rfl
    · refine r_seq ?_
      refine r_seq ?_
      refine r_region ?_
      refine r_p (p_field0 fo54_2 rfl) rfl ?_
      refine r_p (p_load1 t51 rfl rfl (g_row1 (k := 5) rfl rfl)) rfl ?_
      refine r_p (p_len_sl Try.underlying51 rfl (hs_sl (k := 10) rfl)) rfl ?_
      refine r_p (p_move rfl) rfl ?_
      refine r_nil ?_
      refine r_block ?_
      refine r_loop (X := Nat) (fun j => j ≤ st.es.length) (fun j => [(0, .pointer (some ⟨c, 0, none⟩)), (8, sv v), (9, .int .i64 (l.length : Int)), (10, .int .i64 (i : Int)), (5, .pointer (some ⟨b5, 0, none⟩)), (22, sv st.ve), (23, .int .i64 (st.es.length : Int)), (24, .int .i64 (j : Int))]) (fun j => [(0, row c 109 (cR vp vx nd va dp (fst (fst (fst er (bYs fs ns (l.take i)).2) (aE ((bYs fs ns (l.take i)).1) st)) (eXs fs ((bYs fs ns (l.take i)).1) (st.es.take j))))), (1, own 9 1 eS (sv vx) ((bYs fs ns (l.take i)).1)), (5, row b5 54 (eTy st))]) (fun j => [(0, tysA v l), (1, tfsA vp fs), (2, sl 5 eTy (sv v) l), (7, txsA st.ve st.es), (8, tysA st.vb st.body), (9, tysA st.vl st.els), (10, sl 4 eTx (sv st.ve) st.es)]) (fun j => st.es.length - j) 0 (Nat.zero_le _) rfl (by rw [show eXs fs ((bYs fs ns (l.take i)).1) (st.es.take 0) = 0 by simp [eXs], fst_zero]; rfl) rfl (fun j n2 => ?_)
      refine r_seq ?_
      refine r_region ?_
      refine r_p (p_bin rfl rfl b_lt) rfl ?_
      refine r_nil ?_
      refine r_seq ?_
      refine r_cond rfl (fun h3 => ?_) (fun h3 => ?_)
      · (try simp only [decide_eq_true_eq, decide_eq_false_iff_not, Bool.and_eq_true, Bool.or_eq_true, Bool.and_eq_false_iff, Bool.or_eq_false_iff, Bool.not_eq_true, Bool.not_eq_false, Bool.not_eq_true', Bool.not_eq_false', Bool.not_not, bne_iff_ne, beq_iff_eq] at h3)
        have hj : j < st.es.length := by omega
        obtain ⟨kid, hkid⟩ : ∃ k, st.es[j]? = some k := ⟨_, List.getElem?_eq_getElem hj⟩
        have hkm := List.mem_of_getElem? hkid
        refine r_skip ?_
        refine r_seq ?_
        refine r_block ?_
        refine r_seq ?_
        refine r_region ?_
        refine r_p (p_idx_sl (j := j) Try.underlying51 t57 rfl rfl (hs_sl (k := 10) rfl) (by first | rfl | omega) (by first | omega | (simp; done) | (simp; omega))) rfl ?_
        refine r_p (p_loadA t57 rfl rfl rfl (g_el' (hs_sl (k := 10) rfl) (by intro _; rfl) hkid (by rfl))) rfl ?_
        refine r_alloc t57 rfl rfl fun b7 => ?_
        refine r_store_all (k := 7) t57 rfl rfl rfl rfl rfl rfl ?_
        refine r_nil ?_
        refine r_region ?_
        refine r_p (p_move rfl) rfl ?_
        refine r_p (p_loadA t57 rfl rfl rfl (g_all (k := 7) rfl)) rfl ?_
        refine r_more 7 12 rfl (txs_kid hkm) ?_
        refine r_call (xs := [.tmp 28, .tmp 29]) (cexpr_spec c vp vx nd va dp fs hfl ((bYs fs ns (l.take i)).1) hni kid (hsg.2.mem kid hkm) (fst (fst (fst er (bYs fs ns (l.take i)).2) (aE ((bYs fs ns (l.take i)).1) st)) (eXs fs ((bYs fs ns (l.take i)).1) (st.es.take j)))) cb98 [0, 1] [(false, 12), (false, 1)] [0, 1] [] rfl rfl rfl rfl rfl rfl rfl rfl (fun _ _ => rfl) (fun _ _ _ => rfl) rfl (fun _ _ => ?_)
        refine r_nil ?_
        refine r_region ?_
        refine r_p (p_bin rfl rfl (b_add (by first | exact w_i64 (by omega) (by omega) | rfl))) rfl ?_
        refine r_p (p_move rfl) rfl ?_
        refine r_nil ?_
        refine r_here (j + 1) ⟨by omega, by omega⟩ rfl (by rw [eXs_take hkid]; simp only [fst_assoc]; rfl) rfl
      · (try simp only [decide_eq_true_eq, decide_eq_false_iff_not, Bool.and_eq_true, Bool.or_eq_true, Bool.and_eq_false_iff, Bool.or_eq_false_iff, Bool.not_eq_true, Bool.not_eq_false, Bool.not_eq_true', Bool.not_eq_false', Bool.not_not, bne_iff_ne, beq_iff_eq] at h3)
        have hj : j = st.es.length := by omega
        subst hj
        rw [List.take_length]
        refine r_exit ?_
        refine r_seq_cut (X := SV) (fun _ => True) (fun vd => [(0, .pointer (some ⟨c, 0, none⟩)), (8, sv v), (9, .int .i64 (l.length : Int)), (10, .int .i64 (i : Int)), (5, .pointer (some ⟨b5, 0, none⟩))]) (fun vd => [(0, row c 109 (cR vp vd nd va dp (fst (fst (fst (fst er (bYs fs ns (l.take i)).2) (aE ((bYs fs ns (l.take i)).1) st)) (eXs fs ((bYs fs ns (l.take i)).1) (st.es))) (dE ((bYs fs ns (l.take i)).1) st)))), (1, own 9 1 eS (sv vd) (dN ((bYs fs ns (l.take i)).1) st)), (5, row b5 54 (eTy st))]) (fun vd => [(0, tysA v l), (1, tfsA vp fs), (2, sl 5 eTy (sv v) l), (7, txsA st.ve st.es), (8, tysA st.vb st.body), (9, tysA st.vl st.els), (10, sl 4 eTx (sv st.ve) st.es)]) ?_ (fun vd _ => ?_)
        · refine r_seq ?_
          refine r_region ?_
          refine r_p (p_field0 fo54_0 rfl) rfl ?_
          refine r_p (p_load1 t3 rfl rfl (g_row1 (k := 5) rfl rfl)) rfl ?_
          refine r_p (p_bin rfl rfl b_eq) rfl ?_
          refine r_nil ?_
          refine r_cond rfl (fun h4 => ?_) (fun h4 => ?_)
          · have q1 : st.kind = 1 := of_decide_eq_true h4
            refine r_region ?_
            refine r_p (p_move rfl) rfl ?_
            refine r_p (p_field0 fo54_1 rfl) rfl ?_
            refine r_p (p_load1 t9 rfl rfl (g_row1 (k := 5) rfl rfl)) rfl ?_
            refine r_call (xs := [.tmp 35, .tmp 37]) (cdecl_spec c vp vx nd va dp (fst (fst (fst er (bYs fs ns (l.take i)).2) (aE ((bYs fs ns (l.take i)).1) st)) (eXs fs ((bYs fs ns (l.take i)).1) (st.es))) ((bYs fs ns (l.take i)).1) hni st.name) cb83 [0, 1] [] [0, 1] [] rfl rfl rfl rfl rfl rfl rfl rfl (fun _ _ => rfl) (fun _ _ _ => rfl) rfl (fun vd _ => ?_)
            refine r_nil ?_
            refine r_here vd trivial rfl (by unfold dE dN; rw [if_pos q1, if_pos q1]; rfl) rfl
          · have q1 : ¬ st.kind = 1 := of_decide_eq_false h4
            refine r_skip ?_
            refine r_here vx trivial rfl (by unfold dE dN; rw [if_neg q1, if_neg q1, fst_zero]; rfl) rfl
        · refine r_seq ?_
          refine r_region ?_
          refine r_p (p_move rfl) rfl ?_
          refine r_p (p_field0 fo54_3 rfl) rfl ?_
          refine r_p (p_load1 t52 rfl rfl (g_row1 (k := 5) rfl rfl)) rfl ?_
          refine r_call (xs := [.tmp 39, .tmp 41]) (ihb st hsm vd (dN ((bYs fs ns (l.take i)).1) st) (fst (fst (fst (fst er (bYs fs ns (l.take i)).2) (aE ((bYs fs ns (l.take i)).1) st)) (eXs fs ((bYs fs ns (l.take i)).1) (st.es))) (dE ((bYs fs ns (l.take i)).1) st)) (by rw [dN_len]; omega)) cb84 [0, 1] [(false, 8), (false, 1)] [0, 1] [] rfl rfl rfl rfl rfl rfl rfl rfl (fun _ _ => rfl) (fun _ _ _ => rfl) rfl (fun v1 _ => ?_)
          refine r_nil ?_
          refine r_region ?_
          refine r_p (p_move rfl) rfl ?_
          refine r_p (p_field0 fo54_4 rfl) rfl ?_
          refine r_p (p_load1 t52 rfl rfl (g_row1 (k := 5) rfl rfl)) rfl ?_
          refine r_call (xs := [.tmp 43, .tmp 45]) (ihe st hsm v1 (bYs fs (dN ((bYs fs ns (l.take i)).1) st) st.body).1 (fst (fst (fst (fst (fst er (bYs fs ns (l.take i)).2) (aE ((bYs fs ns (l.take i)).1) st)) (eXs fs ((bYs fs ns (l.take i)).1) (st.es))) (dE ((bYs fs ns (l.take i)).1) st)) (bYs fs (dN ((bYs fs ns (l.take i)).1) st) st.body).2) (by rw [bYs_len, dN_len]; omega)) cb84 [0, 1] [(false, 9), (false, 1)] [0, 1] [] rfl rfl rfl rfl rfl rfl rfl rfl (fun _ _ => rfl) (fun _ _ _ => rfl) rfl (fun v2 _ => ?_)
          refine r_nil ?_
          refine r_region ?_
          refine r_p (p_bin rfl rfl (b_add (by first | exact w_i64 (by omega) (by omega) | rfl))) rfl ?_
          refine r_p (p_move rfl) rfl ?_
          refine r_nil ?_
          refine r_here (i + 1, v2) ⟨by dsimp only; omega, by dsimp only; omega⟩ rfl (by dsimp only; rw [bYs_take hst, bY_eq]; simp only [fst_assoc]; rfl) rfl
  · (try simp only [decide_eq_true_eq, decide_eq_false_iff_not, Bool.and_eq_true, Bool.or_eq_true, Bool.and_eq_false_iff, Bool.or_eq_false_iff, Bool.not_eq_true, Bool.not_eq_false, Bool.not_eq_true', Bool.not_eq_false', Bool.not_not, bne_iff_ne, beq_iff_eq] at h1)
    have hi : i = l.length := by omega
    subst hi
    rw [List.take_length]
    refine r_exit ?_
    refine r_end vx trivial rfl rs0 rfl [0, 1] [] rfl rfl rfl
theorem cblock_all (c : Nat) (vp : SV) (nd va : Int) (dp : Bool) (fs : List Tf) (hfl : fs.length ≤ 1000000) : ∀ (n : Nat) (v : SV) (l : List Ty), SizeOf.sizeOf l < n → l.length ≤ 1000000 → GYs l → (∀ (vn : SV) (ns : List ByteArray) (er : Int), ns.length + vYs l ≤ 1000000 → Spec Try.prog 84 [.pointer (some ⟨c, 0, none⟩), sv v] [row c 109 (cR vp vn nd va dp er), own 9 1 eS (sv vn) ns] [tysA v l, tfsA vp fs] (X := SV) (fun _ => True) (fun _ => .tuple #[]) (fun x => [row c 109 (cR vp x nd va dp (fst er (bYs fs ns l).2)), own 9 1 eS (sv x) (bYs fs ns l).1]) (fun _ => []))
  | 0, _, _, h, _, _ => absurd h (Nat.not_lt_zero _)
  | n + 1, v, l, h, hl, hg => fun vn ns er hnv => by
    have key : ∀ u ∈ l, SizeOf.sizeOf u.body < n ∧ SizeOf.sizeOf u.els < n := fun u hu => by
      have h1 := List.sizeOf_lt_of_mem hu
      have h2 : SizeOf.sizeOf u.body < SizeOf.sizeOf u ∧ SizeOf.sizeOf u.els < SizeOf.sizeOf u := by
        cases u
        simp only [Ty.mk.sizeOf_spec, Ty.body, Ty.els]
        omega
      omega
    exact cblock_step c vp vn nd va dp fs hfl v l hl hg (fun u hu => cblock_all c vp nd va dp fs hfl n u.vb u.body (key u hu).1 (GY_body (hg.mem u hu)).1 (GY_body (hg.mem u hu)).2) (fun u hu => cblock_all c vp nd va dp fs hfl n u.vl u.els (key u hu).2 (GY_els (hg.mem u hu)).1 (GY_els (hg.mem u hu)).2) ns er hnv
theorem cblock_spec (c : Nat) (vp : SV) (nd va : Int) (dp : Bool) (fs : List Tf) (hfl : fs.length ≤ 1000000) (v : SV) (l : List Ty) (hl : l.length ≤ 1000000) (hg : GYs l) : (∀ (vn : SV) (ns : List ByteArray) (er : Int), ns.length + vYs l ≤ 1000000 → Spec Try.prog 84 [.pointer (some ⟨c, 0, none⟩), sv v] [row c 109 (cR vp vn nd va dp er), own 9 1 eS (sv vn) ns] [tysA v l, tfsA vp fs] (X := SV) (fun _ => True) (fun _ => .tuple #[]) (fun x => [row c 109 (cR vp x nd va dp (fst er (bYs fs ns l).2)), own 9 1 eS (sv x) (bYs fs ns l).1]) (fun _ => [])) := cblock_all c vp nd va dp fs hfl _ v l (Nat.lt_succ_self _) hl hg

end Go.Proofs.Ytdcbbkpdlcojfaa
namespace Go.Proofs.Ytdcbbkpdlcojfaa
set_option linter.unusedSimpArgs false
set_option linter.unusedVariables false
open Go.RowKit

theorem dcl_app : ∀ (ns a b : List ByteArray), dcl ns (a ++ b) = fst (dcl ns a) (dcl (ns ++ a) b)
  | ns, [], b => by simp [dcl, fst]
  | ns, x :: r, b => by
    rw [List.cons_append, dcl, dcl_app (ns ++ [x]) r b, dcl, fst_assoc, List.append_assoc]
    rfl
theorem dcl_take {l : List ByteArray} {i : Nat} {x : ByteArray} (h : l[i]? = some x) : dcl [] (l.take (i + 1)) = fst (dcl [] (l.take i)) (if memB x (l.take i) = true then 22 else 0) := by
  rw [take_snoc h, dcl_app]
  show fst _ (fst (if memB x ([] ++ l.take i) = true then 22 else 0) 0) = _
  rw [fst_zero, List.nil_append]
/-- Whether a function is too large. -/
def big (f : Tf) : Prop := f.ps.length > 4 ∨ f.ps.length + vYs f.body > 12 ∨ nYs f.body > 400 ∨ dpYs 1 f.body = true
instance (f : Tf) : Decidable (big f) := by unfold big; exact inferInstance
theorem chkF_eq (fs : List Tf) (f : Tf) : chkF fs f = fst (if big f then 2 else 0) (fst (dcl [] f.ps) (bYs fs f.ps f.body).2) := rfl
theorem big_T {f : Tf} {er : Int} {dp : Bool} (hdp : dp = true → er ≠ 0) (h : (decide ((f.ps.length : Int) > 4) || decide ((f.ps.length : Int) + (vYs f.body : Int) > 12) || decide (0 + (nYs f.body : Int) > 400) || (dp || dpYs 1 f.body)) = true) : fst er 2 = fst er (if big f then 2 else 0) := by
  by_cases hb : big f
  · rw [if_pos hb]
  · rw [if_neg hb, fst_zero]
    unfold big at hb
    have hd : dp = true := by
      cases hd : dp with
      | true => rfl
      | false =>
        exfalso
        apply hb
        rw [hd, Bool.false_or] at h
        simp only [Bool.or_eq_true, decide_eq_true_eq] at h
        rcases h with ((h | h) | h) | h
        · exact .inl (by omega)
        · exact .inr (.inl (by omega))
        · exact .inr (.inr (.inl (by omega)))
        · exact .inr (.inr (.inr h))
    exact if_neg (hdp hd)
theorem big_F {f : Tf} {er : Int} {dp : Bool} (h : (decide ((f.ps.length : Int) > 4) || decide ((f.ps.length : Int) + (vYs f.body : Int) > 12) || decide (0 + (nYs f.body : Int) > 400) || (dp || dpYs 1 f.body)) = false) : er = fst er (if big f then 2 else 0) := by
  simp only [Bool.or_eq_false_iff, decide_eq_false_iff_not] at h
  have hb : ¬ big f := by
    unfold big
    rintro (h1 | h1 | h1 | h1)
    · omega
    · omega
    · omega
    · rw [h.2.2] at h1; cases h1
  rw [if_neg hb, fst_zero]
theorem deep_err {fs : List Tf} {f : Tf} {er : Int} {dp : Bool} (hdp : dp = true → er ≠ 0) (h : (dp || dpYs 1 f.body) = true) : fst er (chkF fs f) ≠ 0 := by
  intro h2
  obtain ⟨h3, h4⟩ := fst_eq_zero.1 h2
  rw [chkF_eq] at h4
  have h5 := (fst_eq_zero.1 h4).1
  have hb : ¬ big f := fun hb => by rw [if_pos hb] at h5; cases h5
  cases hd : dp with
  | true => exact hdp hd h3
  | false =>
    rw [hd, Bool.false_or] at h
    exact hb (.inr (.inr (.inr h)))
theorem chkFs_app (fs : List Tf) : ∀ a b : List Tf, chkFs fs (a ++ b) = fst (chkFs fs a) (chkFs fs b)
  | [], b => rfl
  | t :: r, b => by rw [List.cons_append, chkFs, chkFs_app fs r b, chkFs, fst_assoc]
theorem chkFs_take {fs l : List Tf} {i : Nat} {f : Tf} (h : l[i]? = some f) : chkFs fs (l.take (i + 1)) = fst (chkFs fs (l.take i)) (chkF fs f) := by
  rw [take_snoc h, chkFs_app]
  show fst _ (fst (chkF fs f) 0) = _
  rw [fst_zero]
theorem once_iff {fs : List Tf} : once fs = true ↔ ∀ (i : Nat) (f : Tf), fs[i]? = some f → fix fs f.name = (i : Int) := by
  unfold once
  rw [List.all_eq_true]
  constructor
  · intro h i f hf
    obtain ⟨hi, hf2⟩ := List.getElem?_eq_some_iff.1 hf
    have := h i (List.mem_range.2 hi)
    rw [List.getD_eq_getElem?_getD, hf] at this
    simpa using this
  · intro h i hi
    have hi := List.mem_range.1 hi
    have h2 := List.getElem?_eq_getElem hi
    have := h i _ h2
    rw [List.getD_eq_getElem?_getD, h2]
    simpa using this
theorem once_no {fs : List Tf} {i : Nat} {f : Tf} (hf : fs[i]? = some f) (h : ¬ fix fs f.name = (i : Int)) : once fs = false := by
  rw [Bool.eq_false_iff]
  exact fun h2 => h (once_iff.1 h2 i f hf)
theorem chk_1 {fs : List Tf} (h : rP fs = false) : chk fs = 1 := if_pos h
theorem chk_2 {fs : List Tf} (h : rP fs = true) (h2 : fs.length > 16) : chk fs = 2 := by
  unfold chk
  rw [if_neg (by rw [h]; simp), if_pos h2]
theorem chk_22 {fs : List Tf} (h : rP fs = true) (h2 : ¬ fs.length > 16) (h3 : once fs = false) : chk fs = 22 := by
  unfold chk
  rw [if_neg (by rw [h]; simp), if_neg h2, if_pos h3]
theorem chk_21 {fs : List Tf} (h : rP fs = true) (h2 : ¬ fs.length > 16) (h3 : once fs = true) (h4 : ffind fs nMain = none) : chk fs = 21 := by
  unfold chk
  rw [if_neg (by rw [h]; simp), if_neg h2, if_neg (by rw [h3]; simp), h4]
theorem chk_23 {fs : List Tf} {f : Tf} (h : rP fs = true) (h2 : ¬ fs.length > 16) (h3 : once fs = true) (h4 : ffind fs nMain = some f) (h5 : f.ps.length > 0) : chk fs = 23 := by
  unfold chk
  rw [if_neg (by rw [h]; simp), if_neg h2, if_neg (by rw [h3]; simp), h4]
  exact if_pos h5
theorem chk_0 {fs : List Tf} {f : Tf} (h : rP fs = true) (h2 : ¬ fs.length > 16) (h3 : once fs = true) (h4 : ffind fs nMain = some f) (h5 : ¬ f.ps.length > 0) : chk fs = chkFs fs fs := by
  unfold chk
  rw [if_neg (by rw [h]; simp), if_neg h2, if_neg (by rw [h3]; simp), h4]
  exact if_neg h5
set_option maxHeartbeats 4000000 in
set_option maxRecDepth 100000 in
theorem cfunc_spec (c : Nat) (vp vn : SV) (nd va : Int) (dp : Bool) (er : Int) (ns : List ByteArray) (fs : List Tf) (hfl : fs.length ≤ 1000000) (f : Tf) (hg : GF f) (hdp : dp = true → er ≠ 0) :
    Spec Try.prog 68 [.pointer (some ⟨c, 0, none⟩), tfV f] [row c 109 (cR vp (vn) (nd) (va) (dp) (er)), own 9 1 eS (sv vn) (ns)] [tfA f, tfsA vp fs] (X := SV) (fun _ => True) (fun _ => .tuple #[]) (fun x => [row c 109 (cR vp (x) (0 + (nYs f.body : Int)) ((f.ps.length : Int) + (vYs f.body : Int)) (dp || dpYs 1 f.body) (fst er (chkF fs f))), own 9 1 eS (sv x) ((bYs fs f.ps f.body).1)]) (fun _ => []) := by
  refine r_enter Try.func68 rfl Try.ntmps68 rfl fun w0 M H => ?_
  obtain ⟨g1, g2, g3, g4, g5, g6⟩ := hg
  have hvl := vYs_le f.body
  refine r_more 0 2 rfl tf_ps ?_
  refine r_more 0 3 rfl tf_body ?_
  refine r_seq ?_
  refine r_region ?_
  refine r_boxA rfl rfl fun b3 => ?_
  refine r_nil ?_
  refine r_seq ?_
  refine r_drawM [0, 1, 2, 3, 4, 5, 6, 7, 8, 9, 10, 11, 12, 13, 14] [0, 7, 11, 1, 2, 3, 4, 5, 6, 8, 9, 10, 12, 13, 14] [6, 7, 8, 9, 10, 11, 12, 13, 14, 15, 16, 17] _ rfl rfl rfl (stg_mem0 (V := [(0, 6, _), (1, 7, _), (2, 8, _), (3, 9, _), (4, 10, _), (5, 11, _), (6, 12, _), (7, 13, _)]) [0, 1, 2, 3, 4, 5, 6, 7] 8 [8, 7, 6, 0] [9, 10] (fun _ => [(9, 14, _), (10, 15, _)]) rfl rfl (prs_cons (pri rfl (p_move rfl)) (prs_cons (pri rfl (p_move rfl)) (prs_cons (pri rfl (p_move rfl)) (prs_cons (pri rfl (p_field0 fo64_1 rfl)) (prs_cons (pri rfl (p_load1 t62 rfl rfl (g_row1 (k := 3) rfl rfl))) (prs_cons (pri rfl (p_len_sl Try.underlying62 rfl (hs_sl (k := 2) rfl))) (prs_cons (pri rfl (p_nilCheck rfl)) (prs_cons (pri rfl (p_field0 fo109_1 rfl)) prs_nil)))))))) rfl rfl rfl rfl rfl rfl rfl rfl rfl (fun _ _ => rfl) rfl (ms_store_row (k := 0) t62 rfl rfl rfl rfl rfl rfl rfl rfl) (fun _ _ => stg_mem0 [9, 10, 1, 2, 3, 4, 5] 11 [11, 10, 9, 8, 7, 6, 1, 0] [12, 13] (fun _ => [(12, 16, _), (13, 17, _)]) rfl rfl (prs_cons (pri rfl (p_nilCheck rfl)) (prs_cons (pri rfl (p_field0 fo109_2 rfl)) (prs_cons (pri rfl (p_move rfl)) (prs_cons (pri rfl (p_move rfl)) (prs_cons (pri rfl (p_field0 fo64_1 rfl)) (prs_cons (pri rfl (p_load1 t62 rfl rfl (g_row1 (k := 3) rfl rfl))) (prs_cons (pri rfl (p_len_sl Try.underlying62 rfl (hs_sl (k := 2) rfl))) prs_nil))))))) rfl rfl rfl rfl rfl rfl rfl rfl rfl (fun _ _ => rfl) rfl (ms_store_row (k := 0) t3 rfl rfl rfl rfl rfl rfl rfl rfl) (fun _ _ => stg_mem0 [12, 13, 2, 3, 4, 5] 14 [14, 13, 12, 11, 10, 9, 8, 7, 6, 5, 4, 3, 2, 1, 0] [] (fun _ => []) rfl rfl (prs_cons (pri rfl (p_nilCheck rfl)) (prs_cons (pri rfl (p_field0 fo109_3 rfl)) (prs_cons (pri rfl (p_move rfl)) (prs_cons (pri rfl (p_field0 fo64_1 rfl)) (prs_cons (pri rfl (p_load1 t62 rfl rfl (g_row1 (k := 3) rfl rfl))) (prs_cons (pri rfl (p_len_sl Try.underlying62 rfl (hs_sl (k := 2) rfl))) prs_nil)))))) rfl rfl rfl rfl rfl rfl rfl rfl rfl (fun _ _ => rfl) rfl (ms_store_row (k := 0) t3 rfl rfl rfl rfl rfl rfl rfl rfl) (fun _ _ => stg_end [] rfl rfl prs_nil rfl rfl rfl ?_))))
  refine r_nilown 1 (α := ByteArray) (S := 9) (s := 1) (enc := eS) ?_
  refine r_seq ?_
  refine r_region ?_
  refine r_p (p_move rfl) rfl ?_
  refine r_p (p_field0 fo64_2 rfl) rfl ?_
  refine r_p (p_load1 t52 rfl rfl (g_row1 (k := 3) rfl rfl)) rfl ?_
  refine r_call (xs := [.tmp 18, .tmp 20, .const (.int .i64 1)]) (count_spec c vp nilS er f.vb f.body g4 g5 1 0 (f.ps.length : Int) dp (by omega) (by omega) (by omega) (by omega) (by omega)) cb81 [0] [(false, 3)] [0] [] rfl rfl rfl rfl rfl rfl rfl rfl (fun _ _ => rfl) (fun _ _ _ => rfl) rfl (fun _ _ => ?_)
  refine r_nil ?_
  refine r_seq_cut (X := Unit) (fun _ => True) (fun _ => [(0, .pointer (some ⟨c, 0, none⟩)), (3, .pointer (some ⟨b3, 0, none⟩))]) (fun _ => [(0, row c 109 (cR vp (nilS) (0 + (nYs f.body : Int)) ((f.ps.length : Int) + (vYs f.body : Int)) (dp || dpYs 1 f.body) (fst er (if big f then 2 else 0)))), (1, own 9 1 eS (sv nilS) ([])), (3, row b3 64 (eTf f))]) (fun _ => [(0, tfA f), (1, tfsA vp fs), (2, sl 1 eS (sv f.vp) f.ps), (3, tysA f.vb f.body)]) ?_ (fun _ _ => ?_)
  · refine r_seq ?_
    refine r_region ?_
    refine r_p (p_field0 fo64_1 rfl) rfl ?_
    refine r_p (p_load1 t62 rfl rfl (g_row1 (k := 3) rfl rfl)) rfl ?_
    refine r_p (p_len_sl Try.underlying62 rfl (hs_sl (k := 2) rfl)) rfl ?_
    refine r_p (p_bin rfl rfl b_gt) rfl ?_
    refine r_p (p_move rfl) rfl ?_
    refine r_gp [] rfl rfl trivial (fun hg1 => p_move rfl) rfl ?_
    refine r_gp [(27, _)] rfl rfl ⟨rfl, trivial⟩ (fun hg2 => p_nilCheck rfl) rfl ?_
    refine r_gp [(27, _), (28, _)] rfl rfl ⟨rfl, rfl, trivial⟩ (fun hg3 => p_field0 fo109_3 rfl) rfl ?_
    refine r_gp [(27, _), (28, _), (29, _)] rfl rfl ⟨rfl, rfl, rfl, trivial⟩ (fun hg4 => p_load1 t3 rfl rfl (g_row1 (k := 0) rfl rfl)) rfl ?_
    refine r_gp [(27, _), (28, _), (29, _), (30, _)] rfl rfl ⟨rfl, rfl, rfl, rfl, trivial⟩ (fun hg5 => p_bin rfl rfl b_gt) rfl ?_
    refine r_p (p_pick rfl rfl rfl (by first | exact pick_and | exact pick_or |  rfl)) rfl ?_
    refine r_p (p_move rfl) rfl ?_
    refine r_gp [] rfl rfl trivial (fun hg6 => p_move rfl) rfl ?_
    refine r_gp [(34, _)] rfl rfl ⟨rfl, trivial⟩ (fun hg7 => p_nilCheck rfl) rfl ?_
    refine r_gp [(34, _), (35, _)] rfl rfl ⟨rfl, rfl, trivial⟩ (fun hg8 => p_field0 fo109_2 rfl) rfl ?_
    refine r_gp [(34, _), (35, _), (36, _)] rfl rfl ⟨rfl, rfl, rfl, trivial⟩ (fun hg9 => p_load1 t3 rfl rfl (g_row1 (k := 0) rfl rfl)) rfl ?_
    refine r_gp [(34, _), (35, _), (36, _), (37, _)] rfl rfl ⟨rfl, rfl, rfl, rfl, trivial⟩ (fun hg10 => p_bin rfl rfl b_gt) rfl ?_
    refine r_p (p_pick rfl rfl rfl (by first | exact pick_and | exact pick_or |  rfl)) rfl ?_
    refine r_p (p_move rfl) rfl ?_
    refine r_gp [] rfl rfl trivial (fun hg11 => p_move rfl) rfl ?_
    refine r_gp [(41, _)] rfl rfl ⟨rfl, trivial⟩ (fun hg12 => p_nilCheck rfl) rfl ?_
    refine r_gp [(41, _), (42, _)] rfl rfl ⟨rfl, rfl, trivial⟩ (fun hg13 => p_field0 fo109_4 rfl) rfl ?_
    refine r_gp [(41, _), (42, _), (43, _)] rfl rfl ⟨rfl, rfl, rfl, trivial⟩ (fun hg14 => p_load1 t4 rfl rfl (g_row1 (k := 0) rfl rfl)) rfl ?_
    refine r_p (p_pick rfl rfl rfl (by first | exact pick_and | exact pick_or |  rfl)) rfl ?_
    refine r_nil ?_
    refine r_cond rfl (fun h15 => ?_) (fun h15 => ?_)
    · have hq := h15
      refine r_region ?_
      refine r_p (p_move rfl) rfl ?_
      refine r_call (xs := [.tmp 46, .const (.int .i64 2)]) (cfail_spec c vp nilS (0 + (nYs f.body : Int)) ((f.ps.length : Int) + (vYs f.body : Int)) (dp || dpYs 1 f.body) er 2) cb82 [0] [] [0] [] rfl rfl rfl rfl rfl rfl rfl rfl (fun _ _ => rfl) (fun _ _ _ => rfl) rfl (fun _ _ => ?_)
      refine r_nil ?_
      refine r_here () trivial rfl (by rw [← big_T hdp hq]; rfl) rfl
    · have hq := h15
      refine r_skip ?_
      refine r_here () trivial rfl (by rw [← big_F hq]; rfl) rfl
  · refine r_seq ?_
    refine r_seq ?_
    refine r_region ?_
    refine r_p (p_field0 fo64_1 rfl) rfl ?_
    refine r_p (p_load1 t62 rfl rfl (g_row1 (k := 3) rfl rfl)) rfl ?_
    refine r_p (p_len_sl Try.underlying62 rfl (hs_sl (k := 2) rfl)) rfl ?_
    refine r_p (p_move rfl) rfl ?_
    refine r_nil ?_
    refine r_block ?_
    refine r_loop (X := Nat × SV) (fun x => x.1 ≤ f.ps.length) (fun x => [(0, .pointer (some ⟨c, 0, none⟩)), (3, .pointer (some ⟨b3, 0, none⟩)), (49, sv f.vp), (50, .int .i64 (f.ps.length : Int)), (51, .int .i64 (x.1 : Int))]) (fun x => [(0, row c 109 (cR vp (x.2) (0 + (nYs f.body : Int)) ((f.ps.length : Int) + (vYs f.body : Int)) (dp || dpYs 1 f.body) (fst (fst er (if big f then 2 else 0)) (dcl [] (f.ps.take x.1))))), (1, own 9 1 eS (sv x.2) (f.ps.take x.1)), (3, row b3 64 (eTf f))]) (fun x => [(0, tfA f), (1, tfsA vp fs), (2, sl 1 eS (sv f.vp) f.ps), (3, tysA f.vb f.body)]) (fun x => f.ps.length - x.1) (0, nilS) (Nat.zero_le _) rfl (by rw [show fst (fst er (if big f then 2 else 0)) (dcl [] (f.ps.take (0, nilS).1)) = fst er (if big f then 2 else 0) from fst_zero _]; rfl) rfl (fun x n1 => ?_)
    obtain ⟨i, v⟩ := x
    dsimp only at n1 ⊢
    refine r_seq ?_
    refine r_region ?_
    refine r_p (p_bin rfl rfl b_lt) rfl ?_
    refine r_nil ?_
    refine r_seq ?_
    refine r_cond rfl (fun h16 => ?_) (fun h16 => ?_)
    · (try simp only [decide_eq_true_eq, decide_eq_false_iff_not, Bool.and_eq_true, Bool.or_eq_true, Bool.and_eq_false_iff, Bool.or_eq_false_iff, Bool.not_eq_true, Bool.not_eq_false, Bool.not_eq_true', Bool.not_eq_false', Bool.not_not, bne_iff_ne, beq_iff_eq] at h16)
      have hi : i < f.ps.length := by omega
      obtain ⟨x, hx⟩ : ∃ k, f.ps[i]? = some k := ⟨_, List.getElem?_eq_getElem hi⟩
      refine r_skip ?_
      refine r_seq ?_
      refine r_block ?_
      refine r_seq ?_
      refine r_region ?_
      refine r_p (p_idx_sl (j := i) Try.underlying62 t9 rfl rfl (hs_sl (k := 2) rfl) (by first | rfl | omega) (by first | omega | (simp; done) | (simp; omega))) rfl ?_
      refine r_p (p_load1 t9 rfl rfl (g_el' (hs_sl (k := 2) rfl) (by intro _; rfl) hx (by rfl))) rfl ?_
      refine r_p (p_assign rfl) rfl ?_
      refine r_nil ?_
      refine r_region ?_
      refine r_p (p_move rfl) rfl ?_
      refine r_p (p_move rfl) rfl ?_
      refine r_call (xs := [.tmp 55, .tmp 56]) (cdecl_spec c vp v (0 + (nYs f.body : Int)) ((f.ps.length : Int) + (vYs f.body : Int)) (dp || dpYs 1 f.body) (fst (fst er (if big f then 2 else 0)) (dcl [] (f.ps.take i))) (f.ps.take i) (by rw [List.length_take]; omega) x) cb83 [0, 1] [] [0, 1] [] rfl rfl rfl rfl rfl rfl rfl rfl (fun _ _ => rfl) (fun _ _ _ => rfl) rfl (fun v2 _ => ?_)
      refine r_nil ?_
      refine r_region ?_
      refine r_p (p_bin rfl rfl (b_add (by first | exact w_i64 (by omega) (by omega) | rfl))) rfl ?_
      refine r_p (p_move rfl) rfl ?_
      refine r_nil ?_
      refine r_here (i + 1, v2) ⟨by dsimp only; omega, by dsimp only; omega⟩ rfl (by dsimp only; rw [dcl_take hx, take_snoc hx]; simp only [fst_assoc]; rfl) rfl
    · (try simp only [decide_eq_true_eq, decide_eq_false_iff_not, Bool.and_eq_true, Bool.or_eq_true, Bool.and_eq_false_iff, Bool.or_eq_false_iff, Bool.not_eq_true, Bool.not_eq_false, Bool.not_eq_true', Bool.not_eq_false', Bool.not_not, bne_iff_ne, beq_iff_eq] at h16)
      have hi : i = f.ps.length := by omega
      subst hi
      rw [List.take_length]
      refine r_exit ?_
      refine r_region ?_
      refine r_p (p_move rfl) rfl ?_
      refine r_p (p_field0 fo64_2 rfl) rfl ?_
      refine r_p (p_load1 t52 rfl rfl (g_row1 (k := 3) rfl rfl)) rfl ?_
      refine r_call (xs := [.tmp 59, .tmp 61]) (cblock_spec c vp (0 + (nYs f.body : Int)) ((f.ps.length : Int) + (vYs f.body : Int)) (dp || dpYs 1 f.body) fs hfl f.vb f.body g4 g5 v f.ps (fst (fst er (if big f then 2 else 0)) (dcl [] f.ps)) (by omega)) cb84 [0, 1] [(false, 3), (false, 1)] [0, 1] [] rfl rfl rfl rfl rfl rfl rfl rfl (fun _ _ => rfl) (fun _ _ _ => rfl) rfl (fun v3 _ => ?_)
      refine r_nil ?_
      rw [show fst er (chkF fs f) = fst (fst (fst er (if big f then 2 else 0)) (dcl [] f.ps)) (bYs fs f.ps f.body).2 by rw [chkF_eq]; simp only [fst_assoc]]
      refine r_end v3 trivial rfl rs0 rfl [0, 1] [] rfl rfl rfl
set_option maxHeartbeats 8000000 in
set_option maxRecDepth 100000 in
theorem check_spec (vp : SV) (fs : List Tf) (hg : GP fs) :
    Spec Try.prog 36 [.agg #[sv vp]] [] [tfsA vp fs] (X := Unit) (fun _ => True) (fun _ => .int .i64 (chk fs)) (fun _ => []) (fun _ => []) := by
  refine r_enter Try.func36 rfl Try.ntmps36 rfl fun w0 M H => ?_
  refine r_more 0 1 rfl tfs_sl ?_
  have hfl := hg.1
  refine r_seq ?_
  refine r_region ?_
  refine r_boxA rfl rfl fun b1 => ?_
  refine r_p (p_assign rfl) rfl ?_
  refine r_nil ?_
  refine r_seq ?_
  refine r_seq ?_
  refine r_region ?_
  refine r_p (p_loadA t40 rfl rfl rfl (g_all (k := 1) rfl)) rfl ?_
  refine r_call (xs := [.tmp 9]) (right_spec vp fs hg) cb66 [] [(false, 0)] [] [] rfl rfl rfl rfl rfl rfl rfl rfl (fun _ _ => rfl) (fun _ _ _ => rfl) rfl (fun _ _ => ?_)
  refine r_p (p_not rfl) rfl ?_
  refine r_nil ?_
  refine r_cond rfl (fun h1 => ?_) (fun h1 => ?_)
  · have hr : rP fs = false := by simpa using h1
    refine r_seq ?_
    refine r_region ?_
    refine r_p (p_assign rfl) rfl ?_
    refine r_nil ?_
    refine r_cret ?_
    refine r_ret () trivial rfl (rs1 (rv_tmp rfl)) (by rw [chk_1 hr]) [] [] rfl rfl rfl
  · have hr : rP fs = true := by simpa using h1
    refine r_skip ?_
    refine r_seq ?_
    refine r_seq ?_
    refine r_region ?_
    refine r_p (p_field0 fo40_0 rfl) rfl ?_
    refine r_p (p_load1 t38 rfl rfl (g_row1 (k := 1) rfl rfl)) rfl ?_
    refine r_p (p_len_sl Try.underlying38 rfl (hs_sl (k := 1) rfl)) rfl ?_
    refine r_p (p_bin rfl rfl b_gt) rfl ?_
    refine r_nil ?_
    refine r_cond rfl (fun h2 => ?_) (fun h2 => ?_)
    · (try simp only [decide_eq_true_eq, decide_eq_false_iff_not, Bool.and_eq_true, Bool.or_eq_true, Bool.and_eq_false_iff, Bool.or_eq_false_iff, Bool.not_eq_true, Bool.not_eq_false, Bool.not_eq_true', Bool.not_eq_false', Bool.not_not, bne_iff_ne, beq_iff_eq] at h2)
      refine r_seq ?_
      refine r_region ?_
      refine r_p (p_assign rfl) rfl ?_
      refine r_nil ?_
      refine r_cret ?_
      refine r_ret () trivial rfl (rs1 (rv_tmp rfl)) (by rw [chk_2 hr (by omega)]) [] [] rfl rfl rfl
    · (try simp only [decide_eq_true_eq, decide_eq_false_iff_not, Bool.and_eq_true, Bool.or_eq_true, Bool.and_eq_false_iff, Bool.or_eq_false_iff, Bool.not_eq_true, Bool.not_eq_false, Bool.not_eq_true', Bool.not_eq_false', Bool.not_not, bne_iff_ne, beq_iff_eq] at h2)
      refine r_skip ?_
      refine r_seq ?_
      refine r_region ?_
      refine r_p (p_loadA t40 rfl rfl rfl (g_all (k := 1) rfl)) rfl ?_
      refine r_p (p_build (parts := [(0, .tmp 16)]) t109 pl109 rfl rfl) rfl ?_
      refine r_boxA rfl rfl fun b18 => ?_
      refine r_p (p_assign rfl) rfl ?_
      refine r_nil ?_
      refine r_seq ?_
      refine r_seq ?_
      refine r_region ?_
      refine r_p (p_field0 fo40_0 rfl) rfl ?_
      refine r_p (p_load1 t38 rfl rfl (g_row1 (k := 1) rfl rfl)) rfl ?_
      refine r_p (p_len_sl Try.underlying38 rfl (hs_sl (k := 1) rfl)) rfl ?_
      refine r_p (p_move rfl) rfl ?_
      refine r_nil ?_
      refine r_block ?_
      refine r_loop (X := Nat) (fun i => i ≤ fs.length ∧ ∀ j f, j < i → fs[j]? = some f → fix fs f.name = (j : Int)) (fun i => [(1, .pointer (some ⟨b1, 0, none⟩)), (2, .int .i64 0), (3, .pointer (some ⟨b18, 0, none⟩)), (20, sv vp), (21, .int .i64 (fs.length : Int)), (22, .int .i64 (i : Int))]) (fun i => [(1, row b1 40 [sv vp]), (18, row b18 109 (cR vp nilS 0 0 false 0))]) (fun i => [(0, tfsA vp fs), (1, sl 3 eTf (sv vp) fs)]) (fun i => fs.length - i) 0 ⟨Nat.zero_le _, fun j f hj => by omega⟩ rfl rfl rfl (fun i hx0 => ?_)
      obtain ⟨n1, n2⟩ := hx0
      refine r_seq ?_
      refine r_region ?_
      refine r_p (p_bin rfl rfl b_lt) rfl ?_
      refine r_nil ?_
      refine r_seq ?_
      refine r_cond rfl (fun h3 => ?_) (fun h3 => ?_)
      · (try simp only [decide_eq_true_eq, decide_eq_false_iff_not, Bool.and_eq_true, Bool.or_eq_true, Bool.and_eq_false_iff, Bool.or_eq_false_iff, Bool.not_eq_true, Bool.not_eq_false, Bool.not_eq_true', Bool.not_eq_false', Bool.not_not, bne_iff_ne, beq_iff_eq] at h3)
        have hi : i < fs.length := by omega
        obtain ⟨f, hst⟩ : ∃ k, fs[i]? = some k := ⟨_, List.getElem?_eq_getElem hi⟩
        refine r_skip ?_
        refine r_seq ?_
        refine r_block ?_
        refine r_seq ?_
        refine r_region ?_
        refine r_p (p_move rfl) rfl ?_
        refine r_p (p_idx_sl (j := i) Try.underlying38 t64 rfl rfl (hs_sl (k := 1) rfl) (by first | rfl | omega) (by first | omega | (simp; done) | (simp; omega))) rfl ?_
        refine r_p (p_loadA t64 rfl rfl rfl (g_el' (hs_sl (k := 1) rfl) (by intro _; rfl) hst (by rfl))) rfl ?_
        refine r_alloc t64 rfl rfl fun b5 => ?_
        refine r_p (p_assign rfl) rfl ?_
        refine r_store_all (k := 5) t64 rfl rfl rfl rfl rfl rfl ?_
        refine r_nil ?_
        refine r_seq ?_
        refine r_region ?_
        refine r_p (p_move rfl) rfl ?_
        refine r_p (p_field0 fo64_0 rfl) rfl ?_
        refine r_p (p_load1 t9 rfl rfl (g_row1 (k := 5) rfl rfl)) rfl ?_
        refine r_call (xs := [.tmp 27, .tmp 29]) (cfind_spec b18 vp nilS 0 0 false 0 f.name fs hfl) cb67 [18] [(false, 1)] [18] [] rfl rfl rfl rfl rfl rfl rfl rfl (fun _ _ => rfl) (fun _ _ _ => rfl) rfl (fun _ _ => ?_)
        refine r_p (p_move rfl) rfl ?_
        refine r_p (p_bin rfl rfl b_ne) rfl ?_
        refine r_nil ?_
        refine r_cond rfl (fun h4 => ?_) (fun h4 => ?_)
        · have hne : ¬ fix fs f.name = (i : Int) := by simpa using h4
          refine r_seq ?_
          refine r_region ?_
          refine r_p (p_assign rfl) rfl ?_
          refine r_nil ?_
          refine r_cret ?_
          refine r_ret () trivial rfl (rs1 (rv_tmp rfl)) (by rw [chk_22 hr (by omega) (once_no hst hne)]) [] [] rfl rfl rfl
        · have hne : fix fs f.name = (i : Int) := by simpa using h4
          refine r_skip ?_
          refine r_region ?_
          refine r_p (p_bin rfl rfl (b_add (by first | exact w_i64 (by omega) (by omega) | rfl))) rfl ?_
          refine r_p (p_move rfl) rfl ?_
          refine r_nil ?_
          refine r_here (i + 1) ⟨⟨by omega, fun j f2 hj hf2 => by rcases Nat.lt_succ_iff_lt_or_eq.1 hj with h | h; exact n2 j f2 h hf2; subst h; rw [hst] at hf2; cases hf2; exact hne⟩, by omega⟩ rfl rfl rfl
      · (try simp only [decide_eq_true_eq, decide_eq_false_iff_not, Bool.and_eq_true, Bool.or_eq_true, Bool.and_eq_false_iff, Bool.or_eq_false_iff, Bool.not_eq_true, Bool.not_eq_false, Bool.not_eq_true', Bool.not_eq_false', Bool.not_not, bne_iff_ne, beq_iff_eq] at h3)
        have hi : i = fs.length := by omega
        subst hi
        have ho : once fs = true := once_iff.2 fun j f hf => n2 j f (List.getElem?_eq_some_iff.1 hf).1 hf
        refine r_exit ?_
        refine r_seq ?_
        refine r_region ?_
        refine r_p (p_move rfl) rfl ?_
        refine r_call (xs := [.tmp 34, .const (.string (ByteArray.mk #[109, 97, 105, 110]))]) (cfind_spec b18 vp nilS 0 0 false 0 nMain fs hfl) cb67 [18] [(false, 1)] [18] [] rfl rfl rfl rfl rfl rfl rfl rfl (fun _ _ => rfl) (fun _ _ _ => rfl) rfl (fun _ _ => ?_)
        refine r_p (p_assign rfl) rfl ?_
        refine r_nil ?_
        refine r_seq ?_
        refine r_seq ?_
        refine r_region ?_
        refine r_p (p_move rfl) rfl ?_
        refine r_p (p_bin rfl rfl b_lt) rfl ?_
        refine r_nil ?_
        refine r_cond rfl (fun h5 => ?_) (fun h5 => ?_)
        · (try simp only [decide_eq_true_eq, decide_eq_false_iff_not, Bool.and_eq_true, Bool.or_eq_true, Bool.and_eq_false_iff, Bool.or_eq_false_iff, Bool.not_eq_true, Bool.not_eq_false, Bool.not_eq_true', Bool.not_eq_false', Bool.not_not, bne_iff_ne, beq_iff_eq] at h5)
          have hm : ffind fs nMain = none := ffind_fix.1.1 h5
          refine r_seq ?_
          refine r_region ?_
          refine r_p (p_assign rfl) rfl ?_
          refine r_nil ?_
          refine r_cret ?_
          refine r_ret () trivial rfl (rs1 (rv_tmp rfl)) (by rw [chk_21 hr (by omega) ho hm]) [] [] rfl rfl rfl
        · (try simp only [decide_eq_true_eq, decide_eq_false_iff_not, Bool.and_eq_true, Bool.or_eq_true, Bool.and_eq_false_iff, Bool.or_eq_false_iff, Bool.not_eq_true, Bool.not_eq_false, Bool.not_eq_true', Bool.not_eq_false', Bool.not_not, bne_iff_ne, beq_iff_eq] at h5)
          obtain ⟨f, hm⟩ : ∃ f, ffind fs nMain = some f := by
            cases hf : ffind fs nMain with
            | none => exact absurd (ffind_fix.1.2 hf) (by omega)
            | some f => exact ⟨f, rfl⟩
          obtain ⟨j, hj1, hj2⟩ := ffind_fix.2 f hm
          have hjl := (List.getElem?_eq_some_iff.1 hj2).1
          rw [hj1]
          refine r_more 0 7 rfl (tfs_f (ffind_mem hm)) ?_
          refine r_more 7 9 rfl tf_ps ?_
          refine r_skip ?_
          refine r_seq ?_
          refine r_seq ?_
          refine r_region ?_
          refine r_p (p_field0 fo40_0 rfl) rfl ?_
          refine r_p (p_load1 t38 rfl rfl (g_row1 (k := 1) rfl rfl)) rfl ?_
          refine r_p (p_move rfl) rfl ?_
          refine r_p (p_idx_sl (j := j) Try.underlying38 t64 rfl rfl (hs_sl (k := 1) rfl) rfl hjl) rfl ?_
          refine r_p (p_field fo64_1 rfl) rfl ?_
          refine r_p (p_load1 t62 rfl rfl (g_elp (hs_sl (k := 1) rfl) (by intro _; rfl) hj2 rfl)) rfl ?_
          refine r_p (p_len_sl Try.underlying62 rfl (hs_sl (k := 9) rfl)) rfl ?_
          refine r_p (p_bin rfl rfl b_gt) rfl ?_
          refine r_nil ?_
          refine r_cond rfl (fun h6 => ?_) (fun h6 => ?_)
          · (try simp only [decide_eq_true_eq, decide_eq_false_iff_not, Bool.and_eq_true, Bool.or_eq_true, Bool.and_eq_false_iff, Bool.or_eq_false_iff, Bool.not_eq_true, Bool.not_eq_false, Bool.not_eq_true', Bool.not_eq_false', Bool.not_not, bne_iff_ne, beq_iff_eq] at h6)
            refine r_seq ?_
            refine r_region ?_
            refine r_p (p_assign rfl) rfl ?_
            refine r_nil ?_
            refine r_cret ?_
            refine r_ret () trivial rfl (rs1 (rv_tmp rfl)) (by rw [chk_23 hr (by omega) ho hm (by omega)]) [] [] rfl rfl rfl
          · (try simp only [decide_eq_true_eq, decide_eq_false_iff_not, Bool.and_eq_true, Bool.or_eq_true, Bool.and_eq_false_iff, Bool.or_eq_false_iff, Bool.not_eq_true, Bool.not_eq_false, Bool.not_eq_true', Bool.not_eq_false', Bool.not_not, bne_iff_ne, beq_iff_eq] at h6)
            refine r_skip ?_
            refine r_seq ?_
            refine r_seq ?_
            refine r_region ?_
            refine r_p (p_field0 fo40_0 rfl) rfl ?_
            refine r_p (p_load1 t38 rfl rfl (g_row1 (k := 1) rfl rfl)) rfl ?_
            refine r_p (p_len_sl Try.underlying38 rfl (hs_sl (k := 1) rfl)) rfl ?_
            refine r_p (p_move rfl) rfl ?_
            refine r_nil ?_
            refine r_block ?_
            refine r_nilown 19 (α := ByteArray) (S := 9) (s := 1) (enc := eS) ?_
            refine r_loop (X := Nat × SV × List ByteArray × Int × Int × Bool) (fun x => x.1 ≤ fs.length ∧ (x.2.2.2.2.2 = true → chkFs fs (fs.take x.1) ≠ 0)) (fun x => [(1, .pointer (some ⟨b1, 0, none⟩)), (2, .int .i64 0), (3, .pointer (some ⟨b18, 0, none⟩)), (47, sv vp), (48, .int .i64 (fs.length : Int)), (49, .int .i64 (x.1 : Int))]) (fun x => [(18, row b18 109 (cR vp x.2.1 x.2.2.2.1 x.2.2.2.2.1 x.2.2.2.2.2 (chkFs fs (fs.take x.1)))), (19, own 9 1 eS (sv x.2.1) x.2.2.1)]) (fun x => [(0, tfsA vp fs), (1, sl 3 eTf (sv vp) fs)]) (fun x => fs.length - x.1) (0, nilS, [], 0, 0, false) ⟨Nat.zero_le _, fun h => by cases h⟩ rfl rfl rfl (fun x hx0 => ?_)
            obtain ⟨i, v, ns, nd, va, dp⟩ := x
            obtain ⟨n1, n2⟩ := hx0
            dsimp only at n1 n2 ⊢
            refine r_seq ?_
            refine r_region ?_
            refine r_p (p_bin rfl rfl b_lt) rfl ?_
            refine r_nil ?_
            refine r_seq ?_
            refine r_cond rfl (fun h7 => ?_) (fun h7 => ?_)
            · (try simp only [decide_eq_true_eq, decide_eq_false_iff_not, Bool.and_eq_true, Bool.or_eq_true, Bool.and_eq_false_iff, Bool.or_eq_false_iff, Bool.not_eq_true, Bool.not_eq_false, Bool.not_eq_true', Bool.not_eq_false', Bool.not_not, bne_iff_ne, beq_iff_eq] at h7)
              have hi : i < fs.length := by omega
              obtain ⟨f, hst⟩ : ∃ k, fs[i]? = some k := ⟨_, List.getElem?_eq_getElem hi⟩
              refine r_skip ?_
              refine r_seq ?_
              refine r_block ?_
              refine r_seq ?_
              refine r_region ?_
              refine r_p (p_idx_sl (j := i) Try.underlying38 t64 rfl rfl (hs_sl (k := 1) rfl) (by first | rfl | omega) (by first | omega | (simp; done) | (simp; omega))) rfl ?_
              refine r_p (p_loadA t64 rfl rfl rfl (g_el' (hs_sl (k := 1) rfl) (by intro _; rfl) hst (by rfl))) rfl ?_
              refine r_alloc t64 rfl rfl fun b8 => ?_
              refine r_store_all (k := 8) t64 rfl rfl rfl rfl rfl rfl ?_
              refine r_nil ?_
              refine r_region ?_
              refine r_p (p_move rfl) rfl ?_
              refine r_p (p_loadA t64 rfl rfl rfl (g_all (k := 8) rfl)) rfl ?_
              refine r_more 0 11 rfl (tfs_f (List.mem_of_getElem? hst)) ?_
              refine r_call (xs := [.tmp 53, .tmp 54]) (cfunc_spec b18 vp v nd va dp (chkFs fs (fs.take i)) ns fs hfl f (hg.2 f (List.mem_of_getElem? hst)) n2) cb68 [18, 19] [(false, 11), (false, 0)] [18, 19] [] rfl rfl rfl rfl rfl rfl rfl rfl (fun _ _ => rfl) (fun _ _ _ => rfl) rfl (fun v2 _ => ?_)
              refine r_nil ?_
              refine r_region ?_
              refine r_p (p_bin rfl rfl (b_add (by first | exact w_i64 (by omega) (by omega) | rfl))) rfl ?_
              refine r_p (p_move rfl) rfl ?_
              refine r_nil ?_
              refine r_here (i + 1, v2, (bYs fs f.ps f.body).1, 0 + (nYs f.body : Int), (f.ps.length : Int) + (vYs f.body : Int), dp || dpYs 1 f.body) ⟨⟨by dsimp only; omega, fun h => by dsimp only; rw [chkFs_take hst]; exact deep_err n2 h⟩, by dsimp only; omega⟩ rfl (by dsimp only; rw [chkFs_take hst]; rfl) rfl
            · (try simp only [decide_eq_true_eq, decide_eq_false_iff_not, Bool.and_eq_true, Bool.or_eq_true, Bool.and_eq_false_iff, Bool.or_eq_false_iff, Bool.not_eq_true, Bool.not_eq_false, Bool.not_eq_true', Bool.not_eq_false', Bool.not_not, bne_iff_ne, beq_iff_eq] at h7)
              have hi : i = fs.length := by omega
              subst hi
              rw [List.take_length]
              refine r_exit ?_
              refine r_seq ?_
              refine r_region ?_
              refine r_p (p_move rfl) rfl ?_
              refine r_p (p_nilCheck rfl) rfl ?_
              refine r_p (p_field0 fo109_5 rfl) rfl ?_
              refine r_p (p_load1 t43 rfl rfl (g_row1 (k := 18) rfl rfl)) rfl ?_
              refine r_p (p_assign rfl) rfl ?_
              refine r_nil ?_
              refine r_cret ?_
              refine r_ret () trivial rfl (rs1 (rv_tmp rfl)) (by rw [chk_0 hr (by omega) ho hm (by omega)]) [] [] rfl rfl rfl

end Go.Proofs.Ytdcbbkpdlcojfaa
namespace Go.Proofs.Ytdcbbkpdlcojfaa
set_option linter.unusedSimpArgs false
set_option linter.unusedVariables false
open Go.RowKit

/-- More gas changes nothing. -/
structure Mono (fs : List Tf) (g : Nat) : Prop where
  x : ∀ d vs t s r, evX g fs d vs t s = some r → evX (g + 1) fs d vs t s = some r
  k : ∀ d vs acc l s r, evK g fs d vs acc l s = some r → evK (g + 1) fs d vs acc l s = some r
  c : ∀ d f al s r, evC g fs d f al s = some r → evC (g + 1) fs d f al s = some r
  b : ∀ d vs l s r, evB g fs d vs l s = some r → evB (g + 1) fs d vs l s = some r
  s : ∀ d vs t s r, evS g fs d vs t s = some r → evS (g + 1) fs d vs t s = some r
  w : ∀ d vs e l v s r, evW g fs d vs e l v s = some r → evW (g + 1) fs d vs e l v s = some r
theorem mono (fs : List Tf) : ∀ g, Mono fs g
  | 0 => ⟨fun _ _ _ _ _ h => by simp [evX] at h, fun _ _ _ _ _ _ h => by simp [evK] at h, fun _ _ _ _ _ h => by simp [evC] at h, fun _ _ _ _ _ h => by simp [evB] at h, fun _ _ _ _ _ h => by simp [evS] at h, fun _ _ _ _ _ _ _ h => by simp [evW] at h⟩
  | g + 1 => by
    have ih := mono fs g
    refine ⟨fun d vs t s r h => ?_, fun d vs acc l s r h => ?_, fun d f al s r h => ?_, fun d vs l s r h => ?_, fun d vs t s r h => ?_, fun d vs e l v s r h => ?_⟩
    · rw [evX] at h ⊢
      by_cases hf : s.fuel ≤ 0
      · rw [if_pos hf] at h ⊢; exact h
      · rw [if_neg hf] at h ⊢
        cases hk : evK g fs d vs [] t.kids { s with fuel := s.fuel - 1 } with
        | none => rw [hk] at h; simp at h
        | some q =>
          rw [hk] at h
          rw [ih.k _ _ _ _ _ _ hk]
          cases q with
          | err z => exact h
          | ok ks s1 =>
            dsimp only at h ⊢
            by_cases q1 : t.kind = 1
            · rw [if_pos q1] at h ⊢; exact h
            rw [if_neg q1] at h ⊢
            by_cases q2 : t.kind = 2
            · rw [if_pos q2] at h ⊢; exact h
            rw [if_neg q2] at h ⊢
            by_cases q4 : t.kind = 4
            · rw [if_pos q4] at h ⊢; exact h
            rw [if_neg q4] at h ⊢
            by_cases q5 : t.kind = 5
            · rw [if_pos q5] at h ⊢; exact h
            rw [if_neg q5] at h ⊢
            by_cases q6 : t.kind = 6
            · rw [if_pos q6] at h ⊢; exact h
            rw [if_neg q6] at h ⊢
            by_cases q7 : t.kind = 7
            · rw [if_pos q7] at h ⊢; exact h
            rw [if_neg q7] at h ⊢
            cases hf : ffind fs t.name with
            | none => rw [hf] at h; simp at h
            | some f => rw [hf] at h; exact ih.c _ _ _ _ _ h
    · cases l with
      | nil => rw [evK] at h ⊢; exact h
      | cons t l =>
        rw [evK] at h ⊢
        cases hx : evX g fs d vs t s with
        | none => rw [hx] at h; simp at h
        | some q =>
          rw [hx] at h
          rw [ih.x _ _ _ _ _ hx]
          cases q with
          | err z => exact h
          | ok v s1 => exact ih.k _ _ _ _ _ _ h
    · rw [evC] at h ⊢
      by_cases hd : d = 12
      · rw [if_pos hd] at h ⊢; exact h
      · rw [if_neg hd] at h ⊢
        cases hb : evB g fs (d + 1) (vbind [] f.ps al) f.body s with
        | none => rw [hb] at h; simp at h
        | some q => rw [hb] at h; rw [ih.b _ _ _ _ _ hb]; exact h
    · cases l with
      | nil => rw [evB] at h ⊢; exact h
      | cons t l =>
        rw [evB] at h ⊢
        cases hx : evS g fs d vs t s with
        | none => rw [hx] at h; simp at h
        | some q =>
          rw [hx] at h
          rw [ih.s _ _ _ _ _ hx]
          cases q with
          | err z => exact h
          | ok p s1 =>
            obtain ⟨vs1, ro⟩ := p
            cases ro with
            | some y => exact h
            | none => exact ih.b _ _ _ _ _ h
    · rw [evS] at h ⊢
      by_cases hf : s.fuel ≤ 0
      · rw [if_pos hf] at h ⊢; exact h
      · rw [if_neg hf] at h ⊢
        cases he : t.es with
        | nil => rw [he] at h; simp at h
        | cons e es =>
          rw [he] at h
          dsimp only at h ⊢
          cases hx : evX g fs d vs e { s with fuel := s.fuel - 1 } with
          | none => rw [hx] at h; simp at h
          | some q =>
            rw [hx] at h
            rw [ih.x _ _ _ _ _ hx]
            cases q with
            | err z => exact h
            | ok v s1 =>
              dsimp only at h ⊢
              by_cases q1 : t.kind = 1 ∨ t.kind = 2
              · rw [if_pos q1] at h ⊢; exact h
              rw [if_neg q1] at h ⊢
              by_cases q3 : t.kind = 3
              · rw [if_pos q3] at h ⊢
                cases es with
                | nil => simp at h
                | cons e2 es =>
                  dsimp only at h ⊢
                  cases hy : evX g fs d vs e2 s1 with
                  | none => rw [hy] at h; simp at h
                  | some q => rw [hy] at h; rw [ih.x _ _ _ _ _ hy]; exact h
              rw [if_neg q3] at h ⊢
              by_cases q4 : t.kind = 4
              · rw [if_pos q4] at h ⊢; exact ih.b _ _ _ _ _ h
              rw [if_neg q4] at h ⊢
              by_cases q5 : t.kind = 5
              · rw [if_pos q5] at h ⊢; exact ih.w _ _ _ _ _ _ _ h
              rw [if_neg q5] at h ⊢
              exact h
    · rw [evW] at h ⊢
      by_cases hv : v = 0
      · rw [if_pos hv] at h ⊢; exact h
      · rw [if_neg hv] at h ⊢
        cases hb : evB g fs d vs l s with
        | none => rw [hb] at h; simp at h
        | some q =>
          rw [hb] at h
          rw [ih.b _ _ _ _ _ hb]
          cases q with
          | err z => exact h
          | ok p s1 =>
            obtain ⟨vs1, ro⟩ := p
            cases ro with
            | some y => exact h
            | none =>
              dsimp only at h ⊢
              cases hx : evX g fs d vs1 e s1 with
              | none => rw [hx] at h; simp at h
              | some q =>
                rw [hx] at h
                rw [ih.x _ _ _ _ _ hx]
                cases q with
                | err z => exact h
                | ok w s2 => exact ih.w _ _ _ _ _ _ _ h
end Go.Proofs.Ytdcbbkpdlcojfaa
namespace Go.Proofs.Ytdcbbkpdlcojfaa
set_option linter.unusedSimpArgs false
set_option linter.unusedVariables false
open Go.RowKit

theorem mono_x {fs : List Tf} {g g' : Nat} (h : g ≤ g') {d vs t s r} (hr : evX g fs d vs t s = some r) : evX g' fs d vs t s = some r := by
  induction h with
  | refl => exact hr
  | step _ ih => exact (mono fs _).x _ _ _ _ _ ih
theorem mono_k {fs : List Tf} {g g' : Nat} (h : g ≤ g') {d vs acc l s r} (hr : evK g fs d vs acc l s = some r) : evK g' fs d vs acc l s = some r := by
  induction h with
  | refl => exact hr
  | step _ ih => exact (mono fs _).k _ _ _ _ _ _ ih
theorem mono_c {fs : List Tf} {g g' : Nat} (h : g ≤ g') {d f al s r} (hr : evC g fs d f al s = some r) : evC g' fs d f al s = some r := by
  induction h with
  | refl => exact hr
  | step _ ih => exact (mono fs _).c _ _ _ _ _ ih
theorem mono_b {fs : List Tf} {g g' : Nat} (h : g ≤ g') {d vs l s r} (hr : evB g fs d vs l s = some r) : evB g' fs d vs l s = some r := by
  induction h with
  | refl => exact hr
  | step _ ih => exact (mono fs _).b _ _ _ _ _ ih
theorem mono_s {fs : List Tf} {g g' : Nat} (h : g ≤ g') {d vs t s r} (hr : evS g fs d vs t s = some r) : evS g' fs d vs t s = some r := by
  induction h with
  | refl => exact hr
  | step _ ih => exact (mono fs _).s _ _ _ _ _ ih
theorem mono_w {fs : List Tf} {g g' : Nat} (h : g ≤ g') {d vs e l v s r} (hr : evW g fs d vs e l v s = some r) : evW g' fs d vs e l v s = some r := by
  induction h with
  | refl => exact hr
  | step _ ih => exact (mono fs _).w _ _ _ _ _ _ _ ih
/-- An expression costs at least one unit. -/
theorem evX_cost {fs : List Tf} (hF : VF fs) {g d vs t s v s'} (ht : VX fs t) (hv : okVs vs) (hs : okMs s) (h : evX g fs d vs t s = some (.ok v s')) : s'.fuel + 1 ≤ s.fuel := by
  cases g with
  | zero => simp [evX] at h
  | succ g =>
    rw [evX] at h
    by_cases hf : s.fuel ≤ 0
    · rw [if_pos hf] at h; simp at h
    · rw [if_neg hf] at h
      have hp := Kp.pay hs hf
      cases hk : evK g fs d vs [] t.kids { s with fuel := s.fuel - 1 } with
      | none => rw [hk] at h; simp at h
      | some q =>
        rw [hk] at h
        cases q with
        | err z => simp at h
        | ok ks s1 =>
          obtain ⟨k1, _, k3⟩ := (ev_ok hF g).k d vs [] t.kids _ ks s1 (by cases t; exact ht.2.2.2.2.2.2) hv hp.ok (by simp) hk
          have h3 := k3.fl
          dsimp only at h3 h
          have fin : ∀ {a : Int} {s2 : Ms}, some (Re.ok a s2) = some (Re.ok v s') → s2.fuel = s1.fuel → s'.fuel + 1 ≤ s.fuel := fun h hs2 => by
            simp only [Option.some.injEq, Re.ok.injEq] at h
            obtain ⟨-, rfl⟩ := h
            omega
          split at h
          · exact fin h rfl
          · split at h
            · exact fin h rfl
            · split at h
              · exact fin h rfl
              · split at h
                · split at h
                  · exact fin h rfl
                  · exact fin h rfl
                · split at h
                  · exact fin h rfl
                  · split at h
                    · exact fin h rfl
                    · split at h
                      · simp at h
                      · rename_i f hff
                        have := ((ev_ok hF g).c d f ks s1 v s' (ffind_mem hff) k1 k3.ok h).2.fl
                        omega
/-- With at most n units, everything ends. -/
structure Tot (fs : List Tf) (n : Nat) : Prop where
  x : ∀ d vs t s, VX fs t → okVs vs → okMs s → s.fuel ≤ (n : Int) → ∃ g r, evX g fs d vs t s = some r
  k : ∀ d vs l acc s, VXs fs l → okVs vs → okMs s → s.fuel ≤ (n : Int) → ∃ g r, evK g fs d vs acc l s = some r
  b : ∀ d vs l s, VYs fs l → okVs vs → okMs s → s.fuel ≤ (n : Int) → ∃ g r, evB g fs d vs l s = some r
  c : ∀ d f al s, f ∈ fs → (∀ a ∈ al, oW a) → okMs s → s.fuel ≤ (n : Int) → ∃ g r, evC g fs d f al s = some r
  w : ∀ d vs e l v s, VX fs e → VYs fs l → okVs vs → okMs s → s.fuel ≤ (n : Int) → ∃ g r, evW g fs d vs e l v s = some r
theorem tot_k {fs : List Tf} (hF : VF fs) {n : Nat} (hx : ∀ d vs t s, VX fs t → okVs vs → okMs s → s.fuel ≤ (n : Int) → ∃ g r, evX g fs d vs t s = some r) :
    ∀ d vs l acc s, VXs fs l → okVs vs → okMs s → s.fuel ≤ (n : Int) → ∃ g r, evK g fs d vs acc l s = some r
  | d, vs, [], acc, s, _, _, _, _ => ⟨1, .ok acc s, by rw [evK]⟩
  | d, vs, t :: l, acc, s, hl, hv, hs, hn => by
    obtain ⟨g1, r1, h1⟩ := hx d vs t s hl.1 hv hs hn
    cases r1 with
    | err z => exact ⟨g1 + 1, .err z, by rw [evK, h1]⟩
    | ok v s1 =>
      have hk := ((ev_ok hF g1).x d vs t s v s1 hl.1 hv hs h1).2
      obtain ⟨g2, r2, h2⟩ := tot_k hF hx d vs l (acc ++ [v]) s1 hl.2 hv hk.ok (Int.le_trans hk.fl hn)
      refine ⟨g1 + g2 + 1, r2, ?_⟩
      rw [evK, mono_x (by omega : g1 ≤ g1 + g2) h1]
      exact mono_k (by omega : g2 ≤ g1 + g2) h2
theorem tot_b {fs : List Tf} (hF : VF fs) {n : Nat} (hx : ∀ d vs t s, VY fs t → okVs vs → okMs s → s.fuel ≤ (n : Int) → ∃ g r, evS g fs d vs t s = some r) :
    ∀ d vs l s, VYs fs l → okVs vs → okMs s → s.fuel ≤ (n : Int) → ∃ g r, evB g fs d vs l s = some r
  | d, vs, [], s, _, _, _, _ => ⟨1, .ok (vs, none) s, by rw [evB]⟩
  | d, vs, t :: l, s, hl, hv, hs, hn => by
    obtain ⟨g1, r1, h1⟩ := hx d vs t s hl.1 hv hs hn
    cases r1 with
    | err z => exact ⟨g1 + 1, .err z, by rw [evB, h1]⟩
    | ok p s1 =>
      obtain ⟨vs1, ro⟩ := p
      obtain ⟨k1, _, hk⟩ := (ev_ok hF g1).s d vs t s _ s1 hl.1 hv hs h1
      cases ro with
      | some y => exact ⟨g1 + 1, .ok (vs1, some y) s1, by rw [evB, h1]⟩
      | none =>
        obtain ⟨g2, r2, h2⟩ := tot_b hF hx d vs1 l s1 hl.2 k1 hk.ok (Int.le_trans hk.fl hn)
        refine ⟨g1 + g2 + 1, r2, ?_⟩
        rw [evB, mono_s (by omega : g1 ≤ g1 + g2) h1]
        exact mono_b (by omega : g2 ≤ g1 + g2) h2
theorem tot_x {fs : List Tf} (hF : VF fs) {n : Nat} (hT : ∀ k, n = k + 1 → Tot fs k) (d : Nat) (vs : Vs) (t : Tx) (s : Ms) (ht : VX fs t) (hv : okVs vs) (hs : okMs s) (hn : s.fuel ≤ (n : Int)) : ∃ g r, evX g fs d vs t s = some r := by
  by_cases hf : s.fuel ≤ 0
  · exact ⟨1, .err 25, by rw [evX, if_pos hf]⟩
  · obtain ⟨k, rfl⟩ : ∃ k, n = k + 1 := ⟨n - 1, by omega⟩
    have T := hT k rfl
    have hp := Kp.pay hs hf
    obtain ⟨g1, r1, h1⟩ := T.k d vs t.kids [] _ (VX_kids ht) hv hp.ok (by dsimp only; omega)
    cases r1 with
    | err z => exact ⟨g1 + 1, .err z, by rw [evX, if_neg hf, h1]⟩
    | ok ks s1 =>
      obtain ⟨k1, _, k3⟩ := (ev_ok hF g1).k d vs [] t.kids _ ks s1 (VX_kids ht) hv hp.ok (by simp) h1
      have k4 := k3.fl
      dsimp only at k4
      by_cases q1 : t.kind = 1
      · exact ⟨g1 + 1, _, by rw [evX, if_neg hf, h1]; dsimp only; rw [if_pos q1]⟩
      by_cases q2 : t.kind = 2
      · exact ⟨g1 + 1, _, by rw [evX, if_neg hf, h1]; dsimp only; rw [if_neg q1, if_pos q2]⟩
      by_cases q4 : t.kind = 4
      · exact ⟨g1 + 1, _, by rw [evX, if_neg hf, h1]; dsimp only; rw [if_neg q1, if_neg q2, if_pos q4]⟩
      by_cases q5 : t.kind = 5
      · cases hi : s1.inp with
        | nil => exact ⟨g1 + 1, _, by rw [evX, if_neg hf, h1]; dsimp only; rw [if_neg q1, if_neg q2, if_neg q4, if_pos q5, hi]⟩
        | cons a r => exact ⟨g1 + 1, _, by rw [evX, if_neg hf, h1]; dsimp only; rw [if_neg q1, if_neg q2, if_neg q4, if_pos q5, hi]⟩
      by_cases q6 : t.kind = 6
      · exact ⟨g1 + 1, _, by rw [evX, if_neg hf, h1]; dsimp only; rw [if_neg q1, if_neg q2, if_neg q4, if_neg q5, if_pos q6]⟩
      by_cases q7 : t.kind = 7
      · exact ⟨g1 + 1, _, by rw [evX, if_neg hf, h1]; dsimp only; rw [if_neg q1, if_neg q2, if_neg q4, if_neg q5, if_neg q6, if_pos q7]⟩
      obtain ⟨f, hff, _⟩ := VX_call ht q1 q2 q4 q5 q6 q7
      obtain ⟨g2, r2, h2⟩ := T.c d f ks s1 (ffind_mem hff) k1 k3.ok (by omega)
      refine ⟨g1 + g2 + 1, r2, ?_⟩
      rw [evX, if_neg hf, mono_k (by omega : g1 ≤ g1 + g2) h1]
      dsimp only
      rw [if_neg q1, if_neg q2, if_neg q4, if_neg q5, if_neg q6, if_neg q7, hff]
      exact mono_c (by omega : g2 ≤ g1 + g2) h2
theorem tot_s {fs : List Tf} (hF : VF fs) {n : Nat} (hT : ∀ k, n = k + 1 → Tot fs k) (d : Nat) (vs : Vs) (t : Ty) (s : Ms) (ht : VY fs t) (hv : okVs vs) (hs : okMs s) (hn : s.fuel ≤ (n : Int)) : ∃ g r, evS g fs d vs t s = some r := by
  by_cases hf : s.fuel ≤ 0
  · exact ⟨1, .err 25, by rw [evS, if_pos hf]⟩
  · obtain ⟨k, rfl⟩ : ∃ k, n = k + 1 := ⟨n - 1, by omega⟩
    have T := hT k rfl
    have hp := Kp.pay hs hf
    obtain ⟨v1, v2, v3, v4⟩ := VY_es ht
    cases hes : t.es with
    | nil => rw [hes] at v1; simp at v1
    | cons e es =>
      rw [hes] at v4 v3
      obtain ⟨g1, r1, h1⟩ := T.x d vs e _ v4.1 hv hp.ok (by dsimp only; omega)
      cases r1 with
      | err z => exact ⟨g1 + 1, .err z, by rw [evS, if_neg hf, hes]; dsimp only; rw [h1]⟩
      | ok v s1 =>
        obtain ⟨k1, k3⟩ := (ev_ok hF g1).x d vs e _ v s1 v4.1 hv hp.ok h1
        have k4 := k3.fl
        dsimp only at k4
        by_cases q1 : t.kind = 1 ∨ t.kind = 2
        · exact ⟨g1 + 1, _, by rw [evS, if_neg hf, hes]; dsimp only; rw [h1]; dsimp only; rw [if_pos q1]⟩
        by_cases q3 : t.kind = 3
        · cases es with
          | nil => have := v3 q3; simp at this
          | cons e2 es =>
            obtain ⟨g2, r2, h2⟩ := T.x d vs e2 s1 v4.2.1 hv k3.ok (by omega)
            cases r2 with
            | err z => exact ⟨g1 + g2 + 1, .err z, by rw [evS, if_neg hf, hes]; dsimp only; rw [mono_x (by omega : g1 ≤ g1 + g2) h1]; dsimp only; rw [if_neg q1, if_pos q3, mono_x (by omega : g2 ≤ g1 + g2) h2]⟩
            | ok w s2 => exact ⟨g1 + g2 + 1, _, by rw [evS, if_neg hf, hes]; dsimp only; rw [mono_x (by omega : g1 ≤ g1 + g2) h1]; dsimp only; rw [if_neg q1, if_pos q3, mono_x (by omega : g2 ≤ g1 + g2) h2]⟩
        by_cases q4 : t.kind = 4
        · obtain ⟨g2, r2, h2⟩ := T.b d vs (if v = 0 then t.els else t.body) s1 (by split; exact (VY_els ht).2; exact (VY_body ht).2) hv k3.ok (by omega)
          refine ⟨g1 + g2 + 1, r2, ?_⟩
          rw [evS, if_neg hf, hes]; dsimp only; rw [mono_x (by omega : g1 ≤ g1 + g2) h1]; dsimp only; rw [if_neg q1, if_neg q3, if_pos q4]
          exact mono_b (by omega : g2 ≤ g1 + g2) h2
        by_cases q5 : t.kind = 5
        · obtain ⟨g2, r2, h2⟩ := T.w d vs e t.body v s1 v4.1 (VY_body ht).2 hv k3.ok (by omega)
          refine ⟨g1 + g2 + 1, r2, ?_⟩
          rw [evS, if_neg hf, hes]; dsimp only; rw [mono_x (by omega : g1 ≤ g1 + g2) h1]; dsimp only; rw [if_neg q1, if_neg q3, if_neg q4, if_pos q5]
          exact mono_w (by omega : g2 ≤ g1 + g2) h2
        by_cases q6 : t.kind = 6
        · exact ⟨g1 + 1, _, by rw [evS, if_neg hf, hes]; dsimp only; rw [h1]; dsimp only; rw [if_neg q1, if_neg q3, if_neg q4, if_neg q5, if_pos q6]⟩
        by_cases q7 : t.kind = 7
        · exact ⟨g1 + 1, _, by rw [evS, if_neg hf, hes]; dsimp only; rw [h1]; dsimp only; rw [if_neg q1, if_neg q3, if_neg q4, if_neg q5, if_neg q6, if_pos q7]⟩
        exact ⟨g1 + 1, _, by rw [evS, if_neg hf, hes]; dsimp only; rw [h1]; dsimp only; rw [if_neg q1, if_neg q3, if_neg q4, if_neg q5, if_neg q6, if_neg q7]⟩
theorem tot_w {fs : List Tf} (hF : VF fs) {n : Nat} (hT : ∀ k, n = k + 1 → Tot fs k) (hb : ∀ d vs l s, VYs fs l → okVs vs → okMs s → s.fuel ≤ (n : Int) → ∃ g r, evB g fs d vs l s = some r) (d : Nat) (vs : Vs) (e : Tx) (l : List Ty) (v : Int) (s : Ms) (he : VX fs e) (hl : VYs fs l) (hv : okVs vs) (hs : okMs s) (hn : s.fuel ≤ (n : Int)) : ∃ g r, evW g fs d vs e l v s = some r := by
  by_cases q : v = 0
  · exact ⟨1, _, by rw [evW, if_pos q]⟩
  · obtain ⟨g1, r1, h1⟩ := hb d vs l s hl hv hs hn
    cases r1 with
    | err z => exact ⟨g1 + 1, .err z, by rw [evW, if_neg q, h1]⟩
    | ok p s1 =>
      obtain ⟨vs1, ro⟩ := p
      obtain ⟨k1, _, k3⟩ := (ev_ok hF g1).b d vs l s _ s1 hl hv hs h1
      cases ro with
      | some y => exact ⟨g1 + 1, .ok (vs1, some y) s1, by rw [evW, if_neg q, h1]⟩
      | none =>
        obtain ⟨g2, r2, h2⟩ := tot_x hF hT d vs1 e s1 he k1 k3.ok (Int.le_trans k3.fl hn)
        cases r2 with
        | err z => exact ⟨g1 + g2 + 1, .err z, by rw [evW, if_neg q, mono_b (by omega : g1 ≤ g1 + g2) h1]; dsimp only; rw [mono_x (by omega : g2 ≤ g1 + g2) h2]⟩
        | ok w s2 =>
          have hc := evX_cost hF he k1 k3.ok h2
          have k5 := k3.fl
          by_cases hz : s2.fuel ≤ 0 ∧ n = 0
          · exfalso
            have h3 := hz.2
            -- with no units left the condition would have failed
            cases g2 with
            | zero => simp [evX] at h2
            | succ g2 => rw [evX, if_pos (by omega)] at h2; simp at h2
          · by_cases hn0 : n = 0
            · exfalso
              cases g2 with
              | zero => simp [evX] at h2
              | succ g2 => rw [evX, if_pos (by omega)] at h2; simp at h2
            · obtain ⟨k, rfl⟩ : ∃ k, n = k + 1 := ⟨n - 1, by omega⟩
              obtain ⟨g3, r3, h3⟩ := (hT k rfl).w d vs1 e l w s2 he hl k1 ((ev_ok hF g2).x d vs1 e s1 w s2 he k1 k3.ok h2).2.ok (by omega)
              refine ⟨g1 + g2 + g3 + 1, r3, ?_⟩
              rw [evW, if_neg q, mono_b (by omega : g1 ≤ g1 + g2 + g3) h1]
              dsimp only
              rw [mono_x (by omega : g2 ≤ g1 + g2 + g3) h2]
              exact mono_w (by omega : g3 ≤ g1 + g2 + g3) h3
theorem tot_of {fs : List Tf} (hF : VF fs) {n : Nat} (hT : ∀ k, n = k + 1 → Tot fs k) : Tot fs n := by
  have hx := tot_x hF hT
  have hb := tot_b hF (n := n) (tot_s hF hT)
  refine ⟨hx, tot_k hF hx, hb, fun d f al s hf ha hs hn => ?_, tot_w hF hT hb⟩
  by_cases hd : d = 12
  · exact ⟨1, .err 26, by rw [evC, if_pos hd]⟩
  · obtain ⟨g1, r1, h1⟩ := hb (d + 1) (vbind [] f.ps al) f.body s (hF f hf).2.2 (okVs.bind _ _ (fun p hp => by simp at hp) ha) hs hn
    cases r1 with
    | err z => exact ⟨g1 + 1, .err z, by rw [evC, if_neg hd, h1]⟩
    | ok p s1 => exact ⟨g1 + 1, _, by rw [evC, if_neg hd, h1]⟩
/-- Everything ends. -/
theorem tot {fs : List Tf} (hF : VF fs) : ∀ n, Tot fs n
  | 0 => tot_of hF fun k h => by omega
  | n + 1 => tot_of hF fun k h => by
    obtain rfl : k = n := by omega
    exact tot hF k
end Go.Proofs.Ytdcbbkpdlcojfaa
namespace Go.Proofs.Ytdcbbkpdlcojfaa
set_option linter.unusedSimpArgs false
set_option linter.unusedVariables false
open Go.RowKit

/-- A frame with more deferred calls. -/
def more (ds : List Deferred) (a : Act) : Act := { a with defers := a.defers ++ ds }
theorem more_put (ds : List Deferred) (a : Act) (d : Option Nat) (v : Value) : (more ds a).put d v = more ds (a.put d v) := by
  unfold more Act.put
  cases d <;> rfl
theorem upon_more (P : Program) (ds : List Deferred) (o : Oper) (a : Act) (next : Act → World → Prop) (Q : Exit → Act → World → Prop) (r : Result Next)
    (h : o.upon P a (fun a w => next (more ds a) w) (fun e a w => Q e (more ds a) w) r) : o.upon P (more ds a) next Q r := by
  unfold Oper.upon at h ⊢
  split at h
  · rw [more_put]; exact h
  · rw [more_put]; exact h
  · rename_i d w'
    rw [← more_put] at h
    exact h
  · refine h.mono ?_
    intro e w' he
    cases e with
    | returned v => dsimp only at he ⊢; rw [more_put]; exact he
    | panicked c => exact he
    | outgrown =>
      obtain ⟨a', w'', hq⟩ := he
      exact ⟨_, w'', hq⟩
  · simpa only [more_put] using h
  · exact h
  · exact h
theorem wpOps_more (P : Program) (ds : List Deferred) (ops : Array Oper) (Q : Exit → Act → World → Prop) : ∀ (l : List Nat) (a : Act) (w : World), wpOps P ops (fun e a w => Q e (more ds a) w) l a w → wpOps P ops Q l (more ds a) w
  | [], a, w, h => h
  | i :: rest, a, w, h => by
    unfold wpOps at h ⊢
    split at h
    · rename_i hn
      exact wpOps_more P ds ops Q rest a w h
    · rename_i o ho
      split at h
      · rename_i hw
        have hw' : Region.wanted o (yielded ops (more ds a).tmps) = true := hw
        rw [if_pos hw']
        rcases h with h | ⟨h1, a', w', h2⟩
        · left
          have himp : ∀ a w, wpOps P ops (fun e a w => Q e (more ds a) w) rest a w → wpOps P ops Q rest (more ds a) w := wpOps_more P ds ops Q rest
          exact upon_more P ds o a _ Q _ (Oper.wp_mono himp h)
        · right
          exact ⟨h1, _, w', h2⟩
      · rename_i hw
        have hw' : ¬ Region.wanted o (yielded ops (more ds a).tmps) = true := hw
        rw [if_neg hw', more_put]
        exact wpOps_more P ds ops Q rest _ w h
section
variable {P : Program} {N : Nat} {w0 : World} {M H : Nat → Prop} {E : Env} {Γ R : Ctx} {Q : Exit → Act → World → Prop} {ds : List Deferred}
/-- The same as At, for a frame that has deferred calls. -/
def AtD (ds : List Deferred) (N : Nat) (w0 : World) (M H : Nat → Prop) (E : Env) (Γ R : Ctx) (Rel : Act → World → Prop) : Prop :=
  At N w0 M H E Γ R fun a w => Rel (more ds a) w
theorem wpOps_of_list {l : List Oper} {a : Act} {w : World} (h : wpList P l.toArray Q l a w) : wpOps P l.toArray Q (List.range l.toArray.size) a w := by
  have := wpOps_eq_wpList (P := P) (ops := l.toArray) (Q := Q) l 0 (fun j => by simp)
  rw [List.range_eq_range', List.size_toArray, this]
  exact h
theorem r_regionD {id : Nat} {l : List Oper} (h : At N w0 M H E Γ R (wpList P l.toArray (fun e a w => Q e (more ds a) w) l)) : AtD ds N w0 M H E Γ R ((Code.region id l.toArray false).wp P Q) := fun a w hE hC =>
  wp_region (wpOps_more P ds l.toArray Q _ a w (wpOps_of_list (h a w hE hC)))
theorem r_seqD {x y : Code} (h : AtD ds N w0 M H E Γ R (x.wp P (XT (y.wp P Q) Q))) : AtD ds N w0 M H E Γ R ((Code.seq x y).wp P Q) := fun a w hE hC => by
  have := h a w hE hC
  refine wp_seq (Code.wp_mono (fun e a w hq => ?_) this)
  cases e <;> exact hq
/-- A call of a closure is deferred. -/
theorem r_defer {ops : Array Oper} {rest : List Oper} {T : TypeId} {ps : String} {af : Array Edge} {f : Operand} {n : Nat} {cap : Array Value} (hf : ev E f = some (.func (.func n) #[] cap)) (k : AtD [{ target := .fn (.func n) cap, args := #[] }] N w0 M H E Γ R (Q .normal)) :
    At N w0 M H E Γ R (wpList P ops Q [⟨none, .defer { callee := .value f, args := #[], argTypes := #[] }, T, ps, af, none⟩]) := by
  intro a w hE hC
  unfold wpList
  rw [if_pos (by simp [Region.wanted])]
  left
  unfold Oper.wp
  have hrun : (execOp a.eval ⟨none, .defer { callee := .value f, args := #[], argTypes := #[] }, T, ps, af, none⟩).run P w = .ok (.defer { target := .fn (.func n) cap, args := #[] }) w := by
    simp [execOp, resolve, hE.ev hf, Deferred.ofValue]
  rw [hrun]
  have := k a w hE hC
  show Q .normal ({ a with defers := _ :: a.defers } : Act) w
  have hd := hE.defers
  rw [hd]
  have hm : more [{ target := Target.fn (Fn.func n) cap, args := #[] }] a = { a with defers := [{ target := Target.fn (Fn.func n) cap, args := #[] }] } := by
    unfold more
    rw [hd]
    rfl
  dsimp only at this
  rw [hm] at this
  exact this
/-- A return before anything was deferred. -/
theorem r_ret0D {fn : Func} {rv : Array ResultVar} {u : Value} {X : Type} {φ : X → Prop} {v : X → Fin} {L' R' : X → List Asn} (x : X) (hφ : φ x) (hr : fn.results = rv) (hrs : RS P N w0 M H E Γ R rv u) (hu : .ret u = v x)
    (ks : List Nat) (rs : List Nat) (hnd : ndB ks = true) (hL : cgets Γ ks = somes (L' x)) (hR : cgets R rs = somes (R' x)) : At N w0 M H E Γ R (bodyPostD P fn (RetE w0 M H φ v L' R') .ret) := fun a w hE hC => by
  show Leaves P fn a.tmps _ a.defers .returning w
  rw [hE.defers]
  exact ⟨u, hrs fn a w hr hE hC, x, hφ, by rw [← hu]; rfl, hC.toL ks hnd hL rs hR⟩
/-- A return, where one closure is deferred that turns nothing then. -/
theorem r_ret1D {fn : Func} {n : Nat} {cap : Array Value} {rv : Array ResultVar} {u : Value} {X : Type} {φ : X → Prop} {v : X → Fin} {L' R' : X → List Asn} (hcl : ∀ w, COk w0 M H Γ R w → CallsD P n cap .returning w fun e u' w' => u' = .returning ∧ e = .returned (.tuple #[]) ∧ COk w0 M H Γ R w') (hcb : Cb P n)
    (x : X) (hφ : φ x) (hr : fn.results = rv) (hrs : RS P N w0 M H E Γ R rv u) (hu : .ret u = v x)
    (ks : List Nat) (rs : List Nat) (hnd : ndB ks = true) (hL : cgets Γ ks = somes (L' x)) (hR : cgets R rs = somes (R' x)) : AtD [{ target := .fn (.func n) cap, args := #[] }] N w0 M H E Γ R (bodyPostD P fn (RetE w0 M H φ v L' R') .ret) := fun a w hE hC => by
  show Leaves P fn (more _ a).tmps _ (more _ a).defers .returning w
  unfold more
  rw [hE.defers]
  refine ⟨by simp, .func n, cap, n, cap, rfl, ?_, ?_⟩
  · simp [invoke, run_callFunc hcb]
  · have h := hcl w hC
    intro c cs hc
    obtain ⟨e, u', w', fr, ⟨h1, h2, h3⟩, h4, h5, h6⟩ := h c cs hc
    refine ⟨e, u', w', fr, ?_, h4, h5, h6⟩
    subst h1 h2
    exact ⟨u, hrs fn a w' hr hE h3, x, hφ, by rw [← hu]; rfl, h3.toL ks hnd hL rs hR⟩
/-- A panic, where one closure is deferred that recovers it. -/
theorem r_out1D {fn : Func} {n : Nat} {cap : Array Value} {pv : Value} {rv : Array ResultVar} {u : Value} {X : Type} {φ : X → Prop} {v : X → Fin} {L' R' : X → List Asn} {Γ' : Ctx}
    (hcl : ∀ w, COk w0 M H Γ R w → CallsD P n cap (.panicking [{ v := pv, recovered := false }]) w fun e u' w' => u' = .panicking [{ v := pv, recovered := true }] ∧ e = .returned (.tuple #[]) ∧ COk w0 M H Γ' R w') (hcb : Cb P n)
    (x : X) (hφ : φ x) (hr : fn.results = rv) (hrs : RS P N w0 M H E Γ' R rv u) (hu : .ret u = v x)
    (ks : List Nat) (rs : List Nat) (hnd : ndB ks = true) (hL : cgets Γ' ks = somes (L' x)) (hR : cgets R rs = somes (R' x)) : AtD [{ target := .fn (.func n) cap, args := #[] }] N w0 M H E Γ R (bodyPostD P fn (RetE w0 M H φ v L' R') (.panic [{ v := pv, recovered := false }])) := fun a w hE hC => by
  show Leaves P fn (more _ a).tmps _ (more _ a).defers (.panicking _) w
  unfold more
  rw [hE.defers]
  refine ⟨by simp, .func n, cap, n, cap, rfl, ?_, ?_⟩
  · simp [invoke, run_callFunc hcb]
  · have h := hcl w hC
    intro c cs hc
    obtain ⟨e, u', w', fr, ⟨h1, h2, h3⟩, h4, h5, h6⟩ := h c cs hc
    refine ⟨e, u', w', fr, ?_, h4, h5, h6⟩
    subst h1 h2
    exact ⟨u, hrs fn a w' hr hE h3, x, hφ, by rw [← hu]; rfl, h3.toL ks hnd hL rs hR⟩
end
end Go.Proofs.Ytdcbbkpdlcojfaa
namespace Go.Proofs.Ytdcbbkpdlcojfaa
set_option linter.unusedSimpArgs false
set_option linter.unusedVariables false
open Go.RowKit

theorem of_at {P : Program} {N : Nat} {w0 : World} {M H : Nat → Prop} {E : Env} {Γ R : Ctx} {c : Code} {Q : Exit → Act → World → Prop} {a : Act} {w : World} (hE : EOk N E a) (hC : COk w0 M H Γ R w) (h : At N w0 M H E Γ R (c.wp P Q)) : c.wp P Q a w := h a w hE hC
theorem cok_nil (w : World) : COk w (fun _ => False) (fun _ => False) [] [] w := ⟨fun _ _ => False, Touch.refl _ _, fun k A h => by simp [cget] at h, fun _ _ h => h.elim, fun _ _ h => h.elim, fun _ _ _ h => h.elim, fun k A h => by simp [cget] at h⟩
section
variable {N : Nat} {w0 : World} {M H : Nat → Prop} {E : Env} {Γ R : Ctx}
theorem p_nilIs {S' : TypeId} {x : Operand} (hx : ev E x = some .nilIface) : PR Try.prog N w0 M H E Γ R (.binOp .eql 20 x (.const .nilIface) S') (.bool true) := fun _ _ _ a w hE _ _ _ => by
  have h : (do eqGuard .eql 20 x (.const .nilIface) .nilIface .nilIface; binOp .eql 20 .nilIface .nilIface : Sem Value).run Try.prog w = .ok (.bool true) w := by
    have h2 : (Op.equal 20 .nilIface .nilIface).run Try.prog w = .ok true w := by kernel_rfl
    simp [eqGuard, binOp, h2]
  simp only [execOp, hE.ev hx, hE.ev (x := .const .nilIface) rfl, Sem.run_bind] at h ⊢
  rw [h]; rfl
theorem p_nilNot {S' T : TypeId} {v : Value} {x : Operand} (hx : ev E x = some (.iface T v)) : PR Try.prog N w0 M H E Γ R (.binOp .eql 20 x (.const .nilIface) S') (.bool false) := fun _ _ _ a w hE _ _ _ => by
  have h : (do eqGuard .eql 20 x (.const .nilIface) (.iface T v) .nilIface; binOp .eql 20 (.iface T v) .nilIface : Sem Value).run Try.prog w = .ok (.bool false) w := by
    have h2 : (Op.equal 20 (.iface T v) .nilIface).run Try.prog w = .ok false w := by kernel_rfl
    simp [eqGuard, binOp, h2]
  simp only [execOp, hE.ev hx, hE.ev (x := .const .nilIface) rfl, Sem.run_bind] at h ⊢
  rw [h]; rfl
end
set_option maxHeartbeats 4000000 in
set_option maxRecDepth 100000 in
theorem run1_ret {w0 : World} {M H : Nat → Prop} {Γ R : Ctx} (b6 b7 b8 : Nat) (w : World) (hC : COk w0 M H Γ R w) : CallsD Try.prog 37 #[.pointer (some ⟨b6, 0, none⟩), .pointer (some ⟨b7, 0, none⟩), .pointer (some ⟨b8, 0, none⟩)] .returning w fun e u' w' => u' = .returning ∧ e = .returned (.tuple #[]) ∧ COk w0 M H Γ R w' := by
  refine callsD_of_wpS Try.func37 rfl fun c₀ cs hu => ?_
  apply wpS_seq
  apply wpS_region
  simp [wpOpsS, go_sem, recoverD, hu, Try.ntmps37, Exit.thenS]
  refine wpS_of_wp ?_
  refine of_at (N := 19) (E := [(3, .nilIface)]) ⟨rfl, by simp, fun t u ht => ?_⟩ hC ?_
  · simp only [eget] at ht
    cases hb : Nat.beq 3 t with
    | true =>
      rw [hb] at ht
      have := Nat.eq_of_beq_eq_true hb
      subst this
      simp at ht
      subst ht
      rfl
    | false => rw [hb] at ht; simp at ht
  refine r_seq ?_
  refine r_seq ?_
  refine r_region ?_
  refine r_p (p_move rfl) rfl ?_
  refine r_p (p_nilIs rfl) rfl ?_
  refine r_nil ?_
  refine r_cond rfl (fun h1 => ?_) (fun h1 => absurd h1 (by simp))
  refine r_cret ?_
  intro a w' hE hC'
  show a.defers = [] ∧ _
  refine ⟨hE.defers, c₀.mode, rfl, .tuple #[], ?_, hu, rfl, hC'⟩
  exact results_none rfl _ _ _
end Go.Proofs.Ytdcbbkpdlcojfaa
namespace Go.Proofs.Ytdcbbkpdlcojfaa
set_option linter.unusedSimpArgs false
set_option linter.unusedVariables false
open Go.RowKit

section
variable {N : Nat} {w0 : World} {M H : Nat → Prop} {E : Env} {Γ R : Ctx}
theorem r_forget (k : Nat) {A : Asn} {Rel : Act → World → Prop} (hk : cget Γ k = some A) (h : At N w0 M H E ((k, emp) :: Γ) R Rel) : At N w0 M H E Γ R Rel :=
  h.weak (fun _ h => h) fun w hC => hC.upd hk fun G hG hlt => ⟨fun _ => False, fun _ h => h, fun _ h => h.elim, Touch.refl _ _⟩
theorem p_assertOk {v : Value} {x : Operand} (hx : ev E x = some (.iface 94 v)) : PR Try.prog N w0 M H E Γ R (.typeAssert x 20 94 true) (.tuple #[v, .bool true]) := fun _ _ _ a w hE _ _ _ => by
  have h : (Instr.typeAssert (.iface 94 v) 20 94 true).run Try.prog w = .ok (.tuple #[v, .bool true]) w := by kernel_rfl
  simp [execOp, hE.ev hx, h]
end
set_option maxHeartbeats 8000000 in
set_option maxRecDepth 100000 in
theorem run1_pan {w0 : World} {M H : Nat → Prop} {R : Ctx} (b6 b7 b8 : Nat) (c6 c7 c8 : Value) (Γ : Ctx) (z : Int) (w : World) (hC : COk w0 M H ((6, row b6 35 [c6]) :: (7, row b7 35 [c7]) :: (8, row b8 43 [c8]) :: Γ) R w) : CallsD Try.prog 37 #[.pointer (some ⟨b6, 0, none⟩), .pointer (some ⟨b7, 0, none⟩), .pointer (some ⟨b8, 0, none⟩)] (.panicking [{ v := fail z, recovered := false }]) w fun e u' w' => u' = .panicking [{ v := fail z, recovered := true }] ∧ e = .returned (.tuple #[]) ∧ COk w0 M H ((4, emp) :: (8, row b8 43 [.int .i64 z]) :: (7, row b7 35 [sv nilS]) :: (6, row b6 35 [sv nilS]) :: Γ) R w' := by
  refine callsD_of_wpS Try.func37 rfl fun c₀ cs hu => ?_
  apply wpS_seq
  apply wpS_region
  simp [wpOpsS, go_sem, recoverD, hu, Try.ntmps37, Exit.thenS]
  refine wpS_of_wp ?_
  refine of_at (N := 19) (E := [(3, fail z), (0, .pointer (some ⟨b6, 0, none⟩)), (1, .pointer (some ⟨b7, 0, none⟩)), (2, .pointer (some ⟨b8, 0, none⟩))]) ⟨rfl, by simp, fun t u ht => ?_⟩ hC ?_
  · simp only [eget] at ht
    cases q3 : Nat.beq 3 t with
    | true => rw [q3] at ht; have := Nat.eq_of_beq_eq_true q3; subst this; simp at ht; subst ht; rfl
    | false =>
      rw [q3] at ht
      cases q0 : Nat.beq 0 t with
      | true => rw [q0] at ht; have := Nat.eq_of_beq_eq_true q0; subst this; simp at ht; subst ht; rfl
      | false =>
        rw [q0] at ht
        cases q1 : Nat.beq 1 t with
        | true => rw [q1] at ht; have := Nat.eq_of_beq_eq_true q1; subst this; simp at ht; subst ht; rfl
        | false =>
          rw [q1] at ht
          cases q2 : Nat.beq 2 t with
          | true => rw [q2] at ht; have := Nat.eq_of_beq_eq_true q2; subst this; simp at ht; subst ht; rfl
          | false => rw [q2] at ht; simp at ht
  refine r_seq ?_
  refine r_seq ?_
  refine r_region ?_
  refine r_p (p_move rfl) rfl ?_
  refine r_p (p_nilNot rfl) rfl ?_
  refine r_nil ?_
  refine r_cond rfl (fun h1 => ?_) (fun h1 => ?_)
  · exact absurd h1 (by simp)
  · (try simp only [decide_eq_true_eq, decide_eq_false_iff_not, Bool.and_eq_true, Bool.or_eq_true, Bool.and_eq_false_iff, Bool.or_eq_false_iff, Bool.not_eq_true, Bool.not_eq_false, Bool.not_eq_true', Bool.not_eq_false', Bool.not_not, bne_iff_ne, beq_iff_eq] at h1)
    refine r_skip ?_
    refine r_seq ?_
    refine r_region ?_
    refine r_p (p_move rfl) rfl ?_
    refine r_p (p_assertOk rfl) rfl ?_
    refine r_p (p_move rfl) rfl ?_
    refine r_p (p_extract rfl rfl) rfl ?_
    refine r_p (p_extract rfl rfl) rfl ?_
    refine r_alloc t94 rfl rfl fun b4 => ?_
    refine r_store_all (k := 4) t94 rfl rfl rfl rfl rfl rfl ?_
    refine r_p (p_assign rfl) rfl ?_
    refine r_nil ?_
    refine r_seq ?_
    refine r_seq ?_
    refine r_region ?_
    refine r_p (p_move rfl) rfl ?_
    refine r_p (p_not rfl) rfl ?_
    refine r_nil ?_
    refine r_cond rfl (fun h2 => ?_) (fun h2 => ?_)
    · exact absurd h2 (by simp)
    · (try simp only [decide_eq_true_eq, decide_eq_false_iff_not, Bool.and_eq_true, Bool.or_eq_true, Bool.and_eq_false_iff, Bool.or_eq_false_iff, Bool.not_eq_true, Bool.not_eq_false, Bool.not_eq_true', Bool.not_eq_false', Bool.not_not, bne_iff_ne, beq_iff_eq] at h2)
      refine r_skip ?_
      refine r_drawM [0, 1, 2, 3, 4] [2, 3, 0, 1, 4] [17, 18] _ rfl rfl rfl (stg_mem0 (V := [(0, 17, _), (1, 18, _)]) [0, 1] 2 [2] [] (fun _ => []) rfl rfl (prs_cons (pri rfl (p_field0 fo94_0 rfl)) (prs_cons (pri rfl (p_load1 t43 rfl rfl (g_row1 (k := 4) rfl rfl))) prs_nil)) rfl rfl rfl rfl rfl rfl rfl rfl rfl (fun _ _ => rfl) rfl (ms_store_row (k := 6) t35 rfl rfl rfl rfl rfl rfl rfl rfl) (fun _ _ => stg_mem0 [0, 1] 3 [3, 2] [] (fun _ => []) rfl rfl (prs_cons (pri rfl (p_field0 fo94_0 rfl)) (prs_cons (pri rfl (p_load1 t43 rfl rfl (g_row1 (k := 4) rfl rfl))) prs_nil)) rfl rfl rfl rfl rfl rfl rfl rfl rfl (fun _ _ => rfl) rfl (ms_store_row (k := 7) t35 rfl rfl rfl rfl rfl rfl rfl rfl) (fun _ _ => stg_mem0 [0, 1] 4 [4, 3, 2, 1, 0] [] (fun _ => []) rfl rfl (prs_cons (pri rfl (p_field0 fo94_0 rfl)) (prs_cons (pri rfl (p_load1 t43 rfl rfl (g_row1 (k := 4) rfl rfl))) prs_nil)) rfl rfl rfl rfl rfl rfl rfl rfl rfl (fun _ _ => rfl) rfl (ms_store_row (k := 8) t43 rfl rfl rfl rfl rfl rfl rfl rfl) (fun _ _ => stg_end [] rfl rfl prs_nil rfl rfl rfl ?_))))
      refine r_forget 4 rfl ?_
      intro a w2 hE hC2
      have hg : cget ((4, emp) :: (8, row b8 43 [.int .i64 z]) :: (7, row b7 35 [sv nilS]) :: (6, row b6 35 [sv nilS]) :: (4, row b4 94 [.int .i64 z]) :: (4, row b4 94 [.int .i64 0]) :: (6, row b6 35 [c6]) :: (7, row b7 35 [c7]) :: (8, row b8 43 [c8]) :: Γ) = cget ((4, emp) :: (8, row b8 43 [.int .i64 z]) :: (7, row b7 35 [sv nilS]) :: (6, row b6 35 [sv nilS]) :: Γ) := by
        funext k
        simp only [cget]
        cases Nat.beq 4 k <;> cases Nat.beq 8 k <;> cases Nat.beq 7 k <;> cases Nat.beq 6 k <;> rfl
      have hC3 : COk w0 M H ((4, emp) :: (8, row b8 43 [.int .i64 z]) :: (7, row b7 35 [sv nilS]) :: (6, row b6 35 [sv nilS]) :: (4, row b4 94 [.int .i64 z]) :: (4, row b4 94 [.int .i64 0]) :: (6, row b6 35 [c6]) :: (7, row b7 35 [c7]) :: (8, row b8 43 [c8]) :: Γ) R w2 := hC2
      unfold COk at hC3
      rw [hg] at hC3
      exact ⟨hE.defers, .panicking [{ v := fail z, recovered := true }], rfl, .tuple #[], results_none rfl _ _ _, rfl, rfl, hC3⟩

end Go.Proofs.Ytdcbbkpdlcojfaa
namespace Go.Proofs.Ytdcbbkpdlcojfaa
set_option linter.unusedSimpArgs false
set_option linter.unusedVariables false
open Go.RowKit

theorem bin_some {nm : ByteArray} (h : isBin nm = true) (a b : Int) : (biF nm a b).isSome = true := by
  unfold isBin at h
  obtain ⟨p, hp⟩ := Option.isSome_iff_exists.1 h
  have h1 := List.mem_of_find?_eq_some hp
  have h2 := List.find?_some hp
  have h2 : p.1 = nm := by simpa using h2
  subst h2
  simp only [lvL, List.mem_cons, List.not_mem_nil, or_false] at h1
  rcases h1 with rfl | rfl | rfl | rfl | rfl | rfl | rfl | rfl | rfl | rfl | rfl | rfl | rfl | rfl | rfl | rfl <;> rfl
theorem un_some {nm : ByteArray} (h : memB nm unL = true) (a : Int) : (unF nm a).isSome = true := by
  unfold memB at h
  obtain ⟨p, h1, h2⟩ := List.any_eq_true.1 h
  have h2 : nm = p := by simpa using h2
  subst h2
  simp only [unL, List.mem_cons, List.not_mem_nil, or_false] at h1
  rcases h1 with rfl | rfl | rfl <;> rfl
theorem okX_cases {k : Int} {nm : ByteArray} {n : Nat} (h : okX k nm n = true) : (k = 1 ∧ n = 0) ∨ (k = 5 ∧ n = 0) ∨ (k = 2 ∧ n = 0) ∨ k = 3 ∨ (k = 4 ∧ n = 1) ∨ (k = 6 ∧ memB nm unL = true ∧ n = 1) ∨ (k = 7 ∧ isBin nm = true ∧ n = 2) := by
  unfold okX at h
  split at h
  · rename_i hk
    simp only [Bool.and_eq_true, decide_eq_true_eq] at h
    rcases hk with hk | hk
    · exact .inl ⟨hk, h.2⟩
    · exact .inr (.inl ⟨hk, h.2⟩)
  · split at h
    · rename_i hk
      simp only [Bool.and_eq_true, decide_eq_true_eq] at h
      exact .inr (.inr (.inl ⟨hk, h.2⟩))
    · split at h
      · rename_i hk
        exact .inr (.inr (.inr (.inl hk)))
      · split at h
        · rename_i hk
          simp only [Bool.and_eq_true, decide_eq_true_eq] at h
          exact .inr (.inr (.inr (.inr (.inl ⟨hk, h.2⟩))))
        · split at h
          · rename_i hk
            simp only [Bool.and_eq_true, decide_eq_true_eq] at h
            exact .inr (.inr (.inr (.inr (.inr (.inl ⟨hk, h.1, h.2⟩)))))
          · split at h
            · rename_i hk
              simp only [Bool.and_eq_true, decide_eq_true_eq] at h
              exact .inr (.inr (.inr (.inr (.inr (.inr ⟨hk, h.1, h.2⟩)))))
            · cases h
theorem call_fits {fs : List Tf} {ns : List ByteArray} {t : Tx} (h : nE fs ns t = 0) (hk : t.kind = 3) : ∃ f, ffind fs t.name = some f ∧ f.ps.length = t.kids.length := by
  cases hf : ffind fs t.name with
  | none => rw [nE_none hk hf] at h; cases h
  | some f =>
    rw [nE_some hk hf] at h
    refine ⟨f, rfl, ?_⟩
    split at h
    · assumption
    · cases h
mutual
theorem vx_of {fs : List Tf} {ns : List ByteArray} : ∀ t : Tx, GX t → rX t = true → eX fs ns t = 0 → VX fs t
  | .mk k n nm v kids, hg, hr, he => by
    have hr2 : (okX k nm kids.length && (decide (k = 1) || decide (n = 0)) && rXs kids) = true := hr
    simp only [Bool.and_eq_true] at hr2
    obtain ⟨⟨h1, _⟩, h3⟩ := hr2
    have he2 := eX_eq fs ns (.mk k n nm v kids)
    rw [he] at he2
    obtain ⟨e1, e2⟩ := fst_eq_zero.1 he2.symm
    have hc := okX_cases h1
    refine ⟨hg.1, hg.2.2.1, fun hk => by omega, fun hk => ?_, fun hk => ?_, fun k1 k2 k4 k5 k6 k7 => ?_, vxs_of kids hg.2.2.2 h3 e2⟩
    · have : memB nm unL = true ∧ kids.length = 1 := by
        rcases hc with hc | hc | hc | hc | hc | ⟨_, hc, hn⟩ | hc
        · omega
        · omega
        · omega
        · omega
        · omega
        · exact ⟨hc, hn⟩
        · omega
      exact ⟨by omega, un_some this.1⟩
    · have : isBin nm = true ∧ kids.length = 2 := by
        rcases hc with hc | hc | hc | hc | hc | hc | ⟨_, hc, hn⟩
        · omega
        · omega
        · omega
        · omega
        · omega
        · omega
        · exact ⟨hc, hn⟩
      exact ⟨by omega, bin_some this.1⟩
    · have hk : k = 3 := by omega
      obtain ⟨f, hf1, hf2⟩ := call_fits e1 hk
      exact ⟨f, hf1, by rw [hf2]; exact Nat.le_refl _⟩
theorem vxs_of {fs : List Tf} {ns : List ByteArray} : ∀ l : List Tx, GXs l → rXs l = true → eXs fs ns l = 0 → VXs fs l
  | [], _, _, _ => trivial
  | t :: r, hg, hr, he => by
    have hr2 : (rX t && rXs r) = true := hr
    rw [Bool.and_eq_true] at hr2
    obtain ⟨e1, e2⟩ := fst_eq_zero.1 he
    exact ⟨vx_of t hg.1 hr2.1 e1, vxs_of r hg.2 hr2.2 e2⟩
end
theorem okY_es {k : Int} {nm : ByteArray} {ne nb nl : Nat} (h : okY k nm ne nb nl = true) : 1 ≤ k ∧ k ≤ 8 ∧ ne = (if k = 3 then 2 else 1) ∧ (k = 4 ∨ k = 5 ∨ nb = 0) ∧ (k = 4 ∨ nl = 0) := by
  unfold okY at h
  simp only [Bool.and_eq_true, Bool.or_eq_true, decide_eq_true_eq] at h
  obtain ⟨⟨⟨⟨⟨h1, h2⟩, h3⟩, h4⟩, h5⟩, h6⟩ := h
  exact ⟨h1, h2, h3, by rcases h5 with (h | h) | h; exact .inl h; exact .inr (.inl h); exact .inr (.inr h), h6⟩
mutual
theorem vy_of {fs : List Tf} : ∀ (ns : List ByteArray) (t : Ty), GY t → rY t = true → (bY fs ns t).2 = 0 → VY fs t
  | ns, .mk k nm ve es vb body vl els, hg, hr, he => by
    have hr2 : (okY k nm es.length body.length els.length && rXs es && rYs body && rYs els) = true := hr
    simp only [Bool.and_eq_true] at hr2
    obtain ⟨⟨⟨h1, h2⟩, h3⟩, h4⟩ := hr2
    have hk := okY_es h1
    rw [bY_eq] at he
    obtain ⟨e1, he⟩ := fst_eq_zero.1 he
    obtain ⟨e2, he⟩ := fst_eq_zero.1 he
    obtain ⟨e3, he⟩ := fst_eq_zero.1 he
    obtain ⟨e4, e5⟩ := fst_eq_zero.1 he
    have hes : es.length = if k = 3 then 2 else 1 := hk.2.2.1
    exact ⟨⟨by rw [hes]; split <;> omega, hg.2.1.1, fun h3 => by rw [hes, if_pos h3]; exact Nat.le_refl _, vxs_of es hg.2.1.2 h2 e2⟩, ⟨hg.2.2.1.1, vys_of _ body hg.2.2.1.2 h3 e4⟩, hg.2.2.2.1, vys_of _ els hg.2.2.2.2 h4 e5⟩
theorem vys_of {fs : List Tf} : ∀ (ns : List ByteArray) (l : List Ty), GYs l → rYs l = true → (bYs fs ns l).2 = 0 → VYs fs l
  | _, [], _, _, _ => trivial
  | ns, t :: r, hg, hr, he => by
    have hr2 : (rY t && rYs r) = true := hr
    rw [Bool.and_eq_true] at hr2
    obtain ⟨e1, e2⟩ := fst_eq_zero.1 he
    exact ⟨vy_of ns t hg.1 hr2.1 e1, vys_of _ r hg.2 hr2.2 e2⟩
end
theorem chkFs_mem {fs : List Tf} : ∀ {l : List Tf}, chkFs fs l = 0 → ∀ f ∈ l, chkF fs f = 0
  | [], _, f, hf => by simp at hf
  | g :: r, h, f, hf => by
    obtain ⟨h1, h2⟩ := fst_eq_zero.1 h
    rcases List.mem_cons.1 hf with rfl | hf
    · exact h1
    · exact chkFs_mem h2 f hf
/-- What follows from a check without an error. -/
structure Fine (fs : List Tf) (f : Tf) : Prop where
  vf : VF fs
  main : ffind fs nMain = some f
  noP : f.ps = []
  len : fs.length ≤ 16
  once : ∀ (i : Nat) (f : Tf), fs[i]? = some f → fix fs f.name = (i : Int)
  each : ∀ f ∈ fs, chkF fs f = 0
theorem chk_fine {fs : List Tf} (hg : GP fs) (h : chk fs = 0) : ∃ f, Fine fs f := by
  unfold chk at h
  split at h
  · cases h
  · rename_i h1
    split at h
    · cases h
    · rename_i h2
      split at h
      · cases h
      · rename_i h3
        split at h
        · cases h
        · rename_i f hf
          split at h
          · cases h
          · rename_i h4
            have h1 : rP fs = true := by simpa using h1
            have h3 : once fs = true := by simpa using h3
            have hr := List.all_eq_true.1 h1
            have he := chkFs_mem h
            refine ⟨f, fun g hgm => ?_, hf, List.eq_nil_of_length_eq_zero (by omega), by omega, once_iff.1 h3, he⟩
            obtain ⟨g1, g2, g3, g4, g5, g6⟩ := hg.2 g hgm
            have hrg := hr g hgm
            unfold rF at hrg
            simp only [Bool.and_eq_true] at hrg
            have heg := he g hgm
            rw [chkF_eq] at heg
            have h6 := (fst_eq_zero.1 (fst_eq_zero.1 heg).2).2
            exact ⟨g3, g4, vys_of _ g.body g5 hrg.2 h6⟩
/-- The first state. -/
def ms0 (ins : List Int) (fuel : Int) : Ms := ⟨ins, [], fun _ => 0, fuel⟩
theorem ms0_ok {ins : List Int} {fuel : Int} (hi : ∀ x ∈ ins, oW x) (hf : fuel ≤ 1000000000000) : okMs (ms0 ins fuel) := ⟨hi, fun _ => oW0, by show fuel < _; omega, by show ((0 : Nat) : Int) + max fuel 0 ≤ _; omega⟩
/-- What Run gives: the error, the outputs, mem. -/
structure Ru where
  err : Int
  out : List Int
  mem : List Int
def ruOf : Re Int → Ru
  | .ok _ s => ⟨0, s.out, (List.range 256).map s.mem⟩
  | .err z => ⟨z, [], []⟩
/-- The result of Run. -/
inductive RunIs (fs : List Tf) (ins : List Int) (fuel : Int) : Ru → Prop where
  | bad (h : chk fs ≠ 0) : RunIs fs ins fuel ⟨chk fs, [], []⟩
  | run (f : Tf) (g : Nat) (r : Re Int) (h : chk fs = 0) (hf : ffind fs nMain = some f) (he : evC g fs 0 f [] (ms0 ins fuel) = some r) : RunIs fs ins fuel (ruOf r)
theorem runIs_ex {fs : List Tf} (hg : GP fs) {ins : List Int} {fuel : Int} (hi : ∀ x ∈ ins, oW x) (hf : fuel ≤ 1000000000000) : ∃ r, RunIs fs ins fuel r := by
  by_cases h : chk fs = 0
  · obtain ⟨f, hfn⟩ := chk_fine hg h
    have ht := tot hfn.vf fuel.toNat
    obtain ⟨g, r, hr⟩ := ht.c 0 f [] (ms0 ins fuel) (ffind_mem hfn.main) (by simp) (ms0_ok hi hf) (by show fuel ≤ _; omega)
    exact ⟨_, .run f g r h hfn.main hr⟩
  · exact ⟨_, .bad h⟩
theorem runIs_fun {fs : List Tf} {ins : List Int} {fuel : Int} {r r' : Ru} (h : RunIs fs ins fuel r) (h' : RunIs fs ins fuel r') : r = r' := by
  cases h with
  | bad h =>
    cases h' with
    | bad => rfl
    | run f g q h2 => exact absurd h2 h
  | run f g q h hf he =>
    cases h' with
    | bad h2 => exact absurd h h2
    | run f2 g2 q2 h2 hf2 he2 =>
      rw [hf] at hf2
      cases hf2
      have h3 := mono_c (Nat.le_max_left g g2) he
      have h4 := mono_c (Nat.le_max_right g g2) he2
      rw [h3] at h4
      cases h4
      rfl
end Go.Proofs.Ytdcbbkpdlcojfaa
namespace Go.Proofs.Ytdcbbkpdlcojfaa
set_option linter.unusedSimpArgs false
set_option linter.unusedVariables false
open Go.RowKit

section
variable {P : Program} {N : Nat} {w0 : World} {M H : Nat → Prop} {E : Env} {Γ R : Ctx} {Q : Exit → Act → World → Prop} {ds : List Deferred}
theorem r_drawMD {id : Nat} {l : List Oper} (rt rg : List Nat) (dl : List Nat) (V : Vals) (h1 : topoM .any rt l = true) (h2 : topoM .text rt l = true) (h3 : topoM .gc rg l = true) (h : Stg P N w0 M H (edel dl E) Γ R l (fun e a w => Q e (more ds a) w) V []) : AtD ds N w0 M H E Γ R ((Code.region id l.toArray true).wp P Q) := by
  intro a w hE hC
  refine wp_region_draw fun t => wpOps_more P ds l.toArray Q _ a _ (h _ (fun _ => false) a _ (sched_ordM _ l rt rg h1 h2 h3 t) ⟨(fun i hi => by cases hi), (fun i hi => by simp at hi), (fun i o _ hi => by cases hi), hE.del dl, (fun i d v _ hi => by cases hi), hC.stay ⟨rfl, rfl, rfl, Nat.le_refl _, fun _ _ _ => rfl⟩⟩)
theorem r_cretD (h : AtD ds N w0 M H E Γ R (Q .ret)) : AtD ds N w0 M H E Γ R (Code.ret.wp P Q) := fun a w hE hC => wp_ret (h a w hE hC)
theorem r_enterD {n : Nat} {fn : Func} {c : Code} {vs : List Value} {L R0 : List Asn} {X : Type} {φ : X → Prop} {v : X → Fin} {L' R' : X → List Asn} (hf : P.funcs[n]? = some fn) (hb : fn.body = some c) (hN : fn.ntmps = N) (hv : Nat.ble vs.length N = true)
    (h : ∀ w0 M H, At N w0 M H (aenv 0 vs) (cenv 0 L) (cenv 0 R0) (c.wp P (bodyPostD P fn (RetE w0 M H φ v L' R')))) : SpecE P n vs L R0 φ v L' R' := by
  intro w M H hL
  have key : ∀ (K : Ending → World → Prop), At N w M H (aenv 0 vs) (cenv 0 L) (cenv 0 R0) (c.wp P (bodyPostD P fn K)) → Calls P n vs.toArray w K := fun K hK => by
    refine calls_of_wp_defers hf hb (hK _ _ ⟨rfl, ?_, fun t u ht => ?_⟩ ?_)
    · simp only [Array.size_append, Array.size_replicate]
      have := Nat.le_of_ble_eq_true hv
      simp only [List.size_toArray]
      omega
    · obtain ⟨h1, h2⟩ := aenv_get ht
      simp only [Nat.sub_zero] at h2
      rw [Array.getElem?_append_left (by have := (List.getElem?_eq_some_iff.1 h2).1; simpa using this)]
      simpa using h2
    · obtain ⟨F, hF⟩ := hL
      refine ⟨F, hF.touch, fun k A hk => hF.has k A ?_, hF.lt, hF.mine, hF.apart, fun k A hk => hF.ro k A ?_⟩
      · simpa using (cenv_get hk).2
      · simpa using (cenv_get hk).2
  exact key _ (h w M H)
end
theorem flat_eU : ∀ l : List Int, l.flatMap eU = l.map fun x => Value.int .u32 x
  | [] => rfl
  | a :: r => by rw [List.flatMap_cons, flat_eU r]; rfl
theorem mC_sl {mf mu mb : Nat} {vi vo : SV} {mem : Nat → Int} {fuel d : Int} {rt : Bool} {val : Int} : ((mC mf mu mb vi vo mem fuel d rt val).drop 5).take (((List.range 256).map mem).flatMap eU).length = ((List.range 256).map mem).flatMap eU := by
  rw [flat_eU, List.map_map]
  show List.take _ ((List.range 256).map (fun i => Value.int .u32 (mem i)) ++ _) = _
  rw [List.take_append_of_le_length (by simp), List.take_of_length_le (by simp)]
  rfl
theorem perm_new {l : List Tf} {f : Tf} {i : Nat} (hu : ∀ (j : Nat) (f : Tf), l[j]? = some f → fix l f.name = (j : Int)) (hi : l[i]? = some f) : (f :: (l.take i).filter fun a => decide (a.name ≠ f.name)).Perm (l.take (i + 1)) := by
  have h1 : (l.take i).filter (fun a => decide (a.name ≠ f.name)) = l.take i := by
    rw [List.filter_eq_self]
    intro a ha
    obtain ⟨j, hj, rfl⟩ := List.mem_iff_getElem.1 ha
    rw [List.length_take] at hj
    rw [List.getElem_take]
    have hj2 : l[j]? = some l[j] := List.getElem?_eq_getElem (by omega)
    have e1 := hu j _ hj2
    have e2 := hu i _ hi
    simp only [ne_eq, decide_eq_true_eq]
    intro e
    rw [e] at e1
    omega
  rw [h1, take_snoc hi]
  exact List.perm_append_comm (l₁ := [f])
set_option maxHeartbeats 16000000 in
set_option maxRecDepth 100000 in
theorem run_bad (vp vin : SV) (fs : List Tf) (ins : List Int) (fuel : Int) (hg : GP fs) (hi : ∀ x ∈ ins, oW x) (hil : ins.length ≤ 1000000) (hf : -9000000000000000000 ≤ fuel ∧ fuel ≤ 1000000000000) (hc : chk fs ≠ 0) :
    SpecE Try.prog 20 [.agg #[sv vp], sv vin, .int .i64 fuel] [] [tfsA vp fs, sl 1 eU (sv vin) ins] (X := SV × SV) (fun _ => True) (fun x => .ret (.tuple #[sv x.1, sv x.2, .int .i64 (⟨chk fs, [], []⟩ : Ru).err])) (fun x => [own 22 1 eU (sv x.1) (⟨chk fs, [], []⟩ : Ru).out, own 22 1 eU (sv x.2) (⟨chk fs, [], []⟩ : Ru).mem]) (fun _ => []) := by
  refine r_enterD Try.func20 rfl Try.ntmps20 rfl fun w0 M H => ?_
  refine r_seq ?_
  refine r_region ?_
  refine r_boxA rfl rfl fun b3 => ?_
  refine r_alloc t35 rfl rfl fun b6 => ?_
  refine r_alloc t35 rfl rfl fun b7 => ?_
  refine r_alloc t43 rfl rfl fun b8 => ?_
  refine r_nil ?_
  refine r_seq ?_
  refine r_region ?_
  refine r_p (p_loadA t40 rfl rfl rfl (g_all (k := 3) rfl)) rfl ?_
  refine r_call (xs := [.tmp 12]) (check_spec vp fs hg) cb36 [] [(false, 0)] [] [] rfl rfl rfl rfl rfl rfl rfl rfl (fun _ _ => rfl) (fun _ _ _ => rfl) rfl (fun _ _ => ?_)
  refine r_store_row (k := 8) t43 rfl rfl rfl rfl rfl rfl rfl rfl ?_
  refine r_nil ?_
  refine r_seq ?_
  refine r_seq ?_
  refine r_region ?_
  refine r_p (p_load1 t43 rfl rfl (g_row1 (k := 8) rfl rfl)) rfl ?_
  refine r_p (p_bin rfl rfl b_ne) rfl ?_
  refine r_nil ?_
  refine r_cond rfl (fun h1 => ?_) (fun h1 => ?_)
  · (try simp only [decide_eq_true_eq, decide_eq_false_iff_not, Bool.and_eq_true, Bool.or_eq_true, Bool.and_eq_false_iff, Bool.or_eq_false_iff, Bool.not_eq_true, Bool.not_eq_false, Bool.not_eq_true', Bool.not_eq_false', Bool.not_not, bne_iff_ne, beq_iff_eq] at h1)
    refine r_seq ?_
    refine r_drawM [0, 1, 2, 3] [0, 1, 2, 3] [16] _ rfl rfl rfl (stg_mem0 (V := [(0, 16, _)]) [0] 1 [1] [] (fun _ => []) rfl rfl (prs_cons (pri rfl (p_load1 t43 rfl rfl (g_row1 (k := 8) rfl rfl))) prs_nil) rfl rfl rfl rfl rfl rfl rfl rfl rfl (fun _ _ => rfl) rfl (ms_store_row (k := 6) t35 rfl rfl rfl rfl rfl rfl rfl rfl) (fun _ _ => stg_mem0 [0] 2 [2, 1] [] (fun _ => []) rfl rfl (prs_cons (pri rfl (p_load1 t43 rfl rfl (g_row1 (k := 8) rfl rfl))) prs_nil) rfl rfl rfl rfl rfl rfl rfl rfl rfl (fun _ _ => rfl) rfl (ms_store_row (k := 7) t35 rfl rfl rfl rfl rfl rfl rfl rfl) (fun _ _ => stg_mem0 [0] 3 [3, 2, 1, 0] [] (fun _ => []) rfl rfl (prs_cons (pri rfl (p_load1 t43 rfl rfl (g_row1 (k := 8) rfl rfl))) prs_nil) rfl rfl rfl rfl rfl rfl rfl rfl rfl (fun _ _ => rfl) rfl (ms_store_row (k := 8) t43 rfl rfl rfl rfl rfl rfl rfl rfl) (fun _ _ => stg_end [] rfl rfl prs_nil rfl rfl rfl ?_))))
    refine r_cret ?_
    refine r_nilown 20 (α := Int) (S := 22) (s := 1) (enc := eU) ?_
    refine r_nilown 21 (α := Int) (S := 22) (s := 1) (enc := eU) ?_
    refine r_ret0D (nilS, nilS) trivial rfl (rs3 (rv_cell1 t35 rfl rfl (g_row1 (k := 6) rfl rfl)) (rv_cell1 t35 rfl rfl (g_row1 (k := 7) rfl rfl)) (rv_cell1 t43 rfl rfl (g_row1 (k := 8) rfl rfl))) rfl [20, 21] [] rfl rfl rfl
  · exact absurd (by simpa using h1) hc
theorem mR_0 (m mf mu mb : Nat) (vin : SV) (ins : List Int) (fs : List Tf) (fuel : Int) : mR ⟨m, mf, mu, mb, vin, ins, fs⟩ (ms0 ins fuel) nilS 0 false 0 = mC mf mu mb vin nilS (fun _ => 0) fuel 0 false 0 := by
  unfold mR ms0
  dsimp only
  rw [Nat.sub_self]
  rfl
set_option maxHeartbeats 16000000 in
set_option maxRecDepth 100000 in
theorem run_ok (vp vin : SV) (fs : List Tf) (ins : List Int) (fuel : Int) (hg : GP fs) (hi : ∀ x ∈ ins, oW x) (hil : ins.length ≤ 1000000) (hf : -9000000000000000000 ≤ fuel ∧ fuel ≤ 1000000000000) (hc : chk fs = 0) (f : Tf) (hm : Fine fs f) (g : Nat) (r : Re Int) (hr : evC g fs 0 f [] (ms0 ins fuel) = some r) :
    SpecE Try.prog 20 [.agg #[sv vp], sv vin, .int .i64 fuel] [] [tfsA vp fs, sl 1 eU (sv vin) ins] (X := SV × SV) (fun _ => True) (fun x => .ret (.tuple #[sv x.1, sv x.2, .int .i64 (ruOf r).err])) (fun x => [own 22 1 eU (sv x.1) (ruOf r).out, own 22 1 eU (sv x.2) (ruOf r).mem]) (fun _ => []) := by
  refine r_enterD Try.func20 rfl Try.ntmps20 rfl fun w0 M H => ?_
  refine r_more 0 2 rfl tfs_sl ?_
  have hfl := hg.1
  refine r_seq ?_
  refine r_region ?_
  refine r_boxA rfl rfl fun b3 => ?_
  refine r_alloc t35 rfl rfl fun b6 => ?_
  refine r_alloc t35 rfl rfl fun b7 => ?_
  refine r_alloc t43 rfl rfl fun b8 => ?_
  refine r_nil ?_
  refine r_seq ?_
  refine r_region ?_
  refine r_p (p_loadA t40 rfl rfl rfl (g_all (k := 3) rfl)) rfl ?_
  refine r_call (xs := [.tmp 12]) (check_spec vp fs hg) cb36 [] [(false, 0)] [] [] rfl rfl rfl rfl rfl rfl rfl rfl (fun _ _ => rfl) (fun _ _ _ => rfl) rfl (fun _ _ => ?_)
  refine r_store_row (k := 8) t43 rfl rfl rfl rfl rfl rfl rfl rfl ?_
  refine r_nil ?_
  refine r_seq ?_
  refine r_seq ?_
  refine r_region ?_
  refine r_p (p_load1 t43 rfl rfl (g_row1 (k := 8) rfl rfl)) rfl ?_
  refine r_p (p_bin rfl rfl b_ne) rfl ?_
  refine r_nil ?_
  refine r_cond rfl (fun h1 => ?_) (fun h1 => ?_)
  · exact absurd hc (by simpa using h1)
  · (try simp only [decide_eq_true_eq, decide_eq_false_iff_not, Bool.and_eq_true, Bool.or_eq_true, Bool.and_eq_false_iff, Bool.or_eq_false_iff, Bool.not_eq_true, Bool.not_eq_false, Bool.not_eq_true', Bool.not_eq_false', Bool.not_not, bne_iff_ne, beq_iff_eq] at h1)
    refine r_skip ?_
    refine r_seq ?_
    refine r_region ?_
    refine r_makeMap Tf.name mkS tfV rfl fun b17 => ?_
    refine r_call (xs := []) unaries_spec cb31 [] [] [18] [] rfl rfl rfl rfl rfl rfl rfl rfl (fun _ _ => rfl) (fun _ _ _ => rfl) rfl (fun bu _ => ?_)
    refine r_call (xs := []) binaries_spec cb32 [] [] [19] [] rfl rfl rfl rfl rfl rfl rfl rfl (fun _ _ => rfl) (fun _ _ _ => rfl) rfl (fun bb _ => ?_)
    refine r_p (p_move rfl) rfl ?_
    refine r_p (p_move rfl) rfl ?_
    refine r_p (p_build (cs := (mC b17 bu bb vin nilS (fun _ => 0) fuel 0 false 0).toArray) (parts := [(0, .tmp 17), (1, .tmp 18), (2, .tmp 19), (3, .tmp 20), (6, .tmp 21)]) t92 pl92 rfl (by kernel_rfl)) rfl ?_
    refine r_boxA rfl rfl fun b23 => ?_
    refine r_p (p_assign rfl) rfl ?_
    refine r_nil ?_
    refine r_seq ?_
    refine r_seq ?_
    refine r_region ?_
    refine r_p (p_field0 fo40_0 rfl) rfl ?_
    refine r_p (p_load1 t38 rfl rfl (g_row1 (k := 3) rfl rfl)) rfl ?_
    refine r_p (p_len_sl Try.underlying38 rfl (hs_sl (k := 2) rfl)) rfl ?_
    refine r_p (p_move rfl) rfl ?_
    refine r_nil ?_
    refine r_block ?_
    refine r_loop (X := Nat) (fun i => i ≤ fs.length) (fun i => [(3, .pointer (some ⟨b3, 0, none⟩)), (6, .pointer (some ⟨b6, 0, none⟩)), (7, .pointer (some ⟨b7, 0, none⟩)), (8, .pointer (some ⟨b8, 0, none⟩)), (9, .pointer (some ⟨b23, 0, none⟩)), (25, sv vp), (26, .int .i64 (fs.length : Int)), (27, .int .i64 (i : Int))]) (fun i => [(3, row b3 40 [sv vp]), (6, row b6 35 [sv nilS]), (7, row b7 35 [sv nilS]), (8, row b8 43 [.int .i64 (chk fs)]), (17, mp mkS Tf.name tfV (some b17) (fs.take i)), (18, mp mkS Prod.fst vF (some bu) uL), (19, mp mkS Prod.fst vF (some bb) bL), (23, row b23 92 (mC b17 bu bb vin nilS (fun _ => 0) fuel 0 false 0))]) (fun i => [(0, tfsA vp fs), (1, sl 1 eU (sv vin) ins), (2, sl 3 eTf (sv vp) fs)]) (fun i => fs.length - i) 0 (Nat.zero_le _) rfl rfl rfl (fun i n1 => ?_)
    refine r_seq ?_
    refine r_region ?_
    refine r_p (p_bin rfl rfl b_lt) rfl ?_
    refine r_nil ?_
    refine r_seq ?_
    refine r_cond rfl (fun h2 => ?_) (fun h2 => ?_)
    · (try simp only [decide_eq_true_eq, decide_eq_false_iff_not, Bool.and_eq_true, Bool.or_eq_true, Bool.and_eq_false_iff, Bool.or_eq_false_iff, Bool.not_eq_true, Bool.not_eq_false, Bool.not_eq_true', Bool.not_eq_false', Bool.not_not, bne_iff_ne, beq_iff_eq] at h2)
      have hi2 : i < fs.length := by omega
      obtain ⟨f2, hst⟩ : ∃ k, fs[i]? = some k := ⟨_, List.getElem?_eq_getElem hi2⟩
      refine r_skip ?_
      refine r_seq ?_
      refine r_block ?_
      refine r_seq ?_
      refine r_region ?_
      refine r_p (p_idx_sl (j := i) Try.underlying38 t64 rfl rfl (hs_sl (k := 2) rfl) (by first | rfl | omega) (by first | omega | (simp; done) | (simp; omega))) rfl ?_
      refine r_p (p_loadA t64 rfl rfl rfl (g_el' (hs_sl (k := 2) rfl) (by intro _; rfl) hst (by rfl))) rfl ?_
      refine r_alloc t64 rfl rfl fun b11 => ?_
      refine r_store_all (k := 11) t64 rfl rfl rfl rfl rfl rfl ?_
      refine r_nil ?_
      refine r_draw [31, 32, 33, 34, 35, 36, 37] _ rfl (stg_mem0 (V := [(0, 31, _), (1, 32, _), (2, 33, _), (3, 34, _), (4, 35, _), (5, 36, _), (6, 37, _)]) [0, 1, 2, 3, 4, 5, 6] 7 [7, 6, 5, 4, 3, 2, 1, 0] [] (fun _ => []) rfl rfl (prs_cons (pri rfl (p_move rfl)) (prs_cons (pri rfl (p_nilCheck rfl)) (prs_cons (pri rfl (p_field0 fo92_0 rfl)) (prs_cons (pri rfl (p_load1 t90 rfl rfl (g_row1 (k := 23) rfl rfl))) (prs_cons (pri rfl (p_field0 fo64_0 rfl)) (prs_cons (pri rfl (p_load1 t9 rfl rfl (g_row1 (k := 11) rfl rfl))) (prs_cons (pri rfl (p_loadA t64 rfl rfl rfl (g_all (k := 11) rfl))) prs_nil))))))) rfl rfl rfl rfl rfl rfl rfl rfl rfl (fun _ _ => rfl) rfl (ms_mapUpdate (k := 17) f2 (fs.take (i + 1)) Try.underlying90 keyS rfl rfl rfl rfl (perm_new hm.once hst)) (fun _ _ => stg_end [] rfl rfl prs_nil rfl rfl rfl ?_))
      refine r_region ?_
      refine r_p (p_bin rfl rfl (b_add (by first | exact w_i64 (by omega) (by omega) | rfl))) rfl ?_
      refine r_p (p_move rfl) rfl ?_
      refine r_nil ?_
      refine r_here (i + 1) ⟨by omega, by omega⟩ rfl rfl rfl
    · (try simp only [decide_eq_true_eq, decide_eq_false_iff_not, Bool.and_eq_true, Bool.or_eq_true, Bool.and_eq_false_iff, Bool.or_eq_false_iff, Bool.not_eq_true, Bool.not_eq_false, Bool.not_eq_true', Bool.not_eq_false', Bool.not_not, bne_iff_ne, beq_iff_eq] at h2)
      have hi2 : i = fs.length := by omega
      subst hi2
      rw [List.take_length]
      refine r_exit ?_
      refine r_seq ?_
      refine r_region ?_
      refine r_p (p_makeFunc (first := []) (cap := [.tmp 6, .tmp 7, .tmp 8]) rfl rfl) rfl ?_
      refine r_defer (rest := []) rfl ?_
      refine r_seqD ?_
      refine r_regionD ?_
      refine r_p (p_move rfl) rfl ?_
      refine r_p (p_move rfl) rfl ?_
      refine r_p (p_nilCheck rfl) rfl ?_
      refine r_p (p_field0 fo92_0 rfl) rfl ?_
      refine r_p (p_load1 t90 rfl rfl (g_row1 (k := 23) rfl rfl)) rfl ?_
      refine r_p (p_lookup Try.underlying90 keyS t64 rfl rfl (hm_own (k := 17) rfl) hm.main) rfl ?_
      refine r_more 0 4 rfl tfs_fns ?_
      refine r_more 0 5 rfl (tfs_f (ffind_mem hm.main)) ?_
      refine r_nilsl 30 (α := Int) (s := 1) (enc := eU) ?_
      refine r_nilown 22 (α := Int) (S := 22) (s := 1) (enc := eU) ?_
      refine r_conva (k := 23) (A' := row b23 92 (mR (⟨b23, b17, bu, bb, vin, ins, fs⟩ : En) (ms0 ins fuel) nilS 0 false 0)) rfl (fun _ _ h => by rw [mR_0]; exact h) ?_
      refine r_callE (xs := [.tmp 40, .tmp 45, .const (.slice Option.none 0 0)]) (hc_all (e := (⟨b23, b17, bu, bb, vin, ins, fs⟩ : En)) hm.vf g f 0 nilS [] (ms0 ins fuel) nilS r (ffind_mem hm.main) (by simp) (by simp) (by omega) (ms0_ok hi hf.2) ⟨0, Nat.zero_le _, rfl⟩ hr) cb38 [23, 22] [(false, 30), (false, 5), (false, 4), (true, 17), (true, 18), (true, 19), (false, 1)] [23, 22] [] rfl rfl rfl rfl rfl rfl rfl rfl (fun o _ => lX_len o) (fun _ _ _ => rfl) rfl (fun o ho => ?_)
      rcases o with ⟨a, s, vo2⟩ | ⟨z, c, vo2, l⟩
      rotate_left
      · refine aft_pan ?_
        have hq : r = .err z := ho
        subst hq
        dsimp only [ruOf]
        refine r_nilown 20 (α := Int) (S := 22) (s := 1) (enc := eU) ?_
        refine r_nilown 21 (α := Int) (S := 22) (s := 1) (enc := eU) ?_
        refine r_norm [(6, .pointer (some ⟨b6, 0, none⟩)), (7, .pointer (some ⟨b7, 0, none⟩)), (8, .pointer (some ⟨b8, 0, none⟩))] [(6, row b6 35 [sv nilS]), (7, row b7 35 [sv nilS]), (8, row b8 43 [.int .i64 (chk fs)]), (20, own 22 1 eU (sv nilS) []), (21, own 22 1 eU (sv nilS) [])] [] rfl rfl rfl ?_
        show AtD [{ target := .fn (.func 37) #[.pointer (some ⟨b6, 0, none⟩), .pointer (some ⟨b7, 0, none⟩), .pointer (some ⟨b8, 0, none⟩)], args := #[] }] _ _ _ _ _ _ _ (bodyPostD Try.prog Try.f20 _ (.panic _))
        refine r_out1D (fun w hC => run1_pan b6 b7 b8 _ _ _ _ z w hC) cb37 (nilS, nilS) trivial rfl (rs3 (rv_cell1 t35 rfl rfl (g_row1 (k := 6) rfl rfl)) (rv_cell1 t35 rfl rfl (g_row1 (k := 7) rfl rfl)) (rv_cell1 t43 rfl rfl (g_row1 (k := 8) rfl rfl))) rfl [20, 21] [] rfl rfl rfl
      refine aft_ret ?_
      have hq : r = .ok a s := ho
      subst hq
      refine r_freeze 23 40 rfl (fun _ _ h => h) ?_
      refine r_more 40 41 rfl (row_sl (o := 5) (s := 1) (enc := eU) (n := 256) (l := (List.range 256).map s.mem) (by simp) (by unfold maxLen; omega) mC_sl) ?_
      refine r_nil ?_
      refine r_seqD ?_
      refine r_drawMD [0, 1, 2, 3, 4, 5, 6, 7, 8, 9, 10, 11] [0, 1, 2, 3, 4, 5, 6, 7, 8, 9, 10, 11] [47, 48, 49, 50, 51, 52, 53, 54, 55] _ rfl rfl rfl (stg_mem (V := [(0, 47, _), (1, 48, _), (2, 49, _), (3, 50, _), (4, 51, _), (5, 52, _), (6, 53, _), (7, 54, _)]) [0, 1, 2, 3, 4, 5, 6, 7] 8 [8, 7, 6, 5, 4] [] (fun v55 => []) rfl rfl (prs_cons (pri rfl (p_move rfl)) (prs_cons (pri rfl (p_nilCheck rfl)) (prs_cons (pri rfl (p_field0 fo92_4 rfl)) (prs_cons (pri rfl (p_load1 t35 rfl rfl (g_row1R (k := 40) rfl rfl))) (prs_cons (pri rfl (p_move rfl)) (prs_cons (pri rfl (p_nilCheck rfl)) (prs_cons (pri rfl (p_field0 fo92_5 rfl)) (prs_cons (pri rfl (p_slice_arr Try.underlying69 t22 rfl (by decide))) prs_nil)))))))) rfl rfl rfl rfl rfl rfl rfl rfl rfl rfl rfl (fun _ _ => rfl) rfl (ms_call (xs := [.tmp 54]) (clone_spec ⟨some ⟨b23, 5, none⟩, 256, 256⟩ ((List.range 256).map s.mem) (by simp)) cb39 [] [(false, 41)] [55] [] rfl rfl rfl rfl rfl rfl rfl rfl (fun _ _ => rfl) (fun _ _ _ => rfl)) (fun v55 _ => stg_mem0 [0, 1, 2, 3] 9 [9, 8, 7, 6, 5, 4, 3, 2, 1, 0] [] (fun _ => []) rfl rfl (prs_cons (pri rfl (p_move rfl)) (prs_cons (pri rfl (p_nilCheck rfl)) (prs_cons (pri rfl (p_field0 fo92_4 rfl)) (prs_cons (pri rfl (p_load1 t35 rfl rfl (g_row1R (k := 40) rfl rfl))) prs_nil)))) rfl rfl rfl rfl rfl rfl rfl rfl rfl (fun _ _ => rfl) rfl (ms_store_row (k := 6) t35 rfl rfl rfl rfl rfl rfl rfl rfl) (fun _ _ => stg_mem0 [] 10 [10, 9, 8, 7, 6, 5, 4, 3, 2, 1, 0] [] (fun _ => []) rfl rfl prs_nil rfl rfl rfl rfl rfl rfl rfl rfl rfl (fun _ _ => rfl) rfl (ms_store_row (k := 7) t35 rfl rfl rfl rfl rfl rfl rfl rfl) (fun _ _ => stg_mem0 [] 11 [11, 10, 9, 8, 7, 6, 5, 4, 3, 2, 1, 0] [] (fun _ => []) rfl rfl prs_nil rfl rfl rfl rfl rfl rfl rfl rfl rfl (fun _ _ => rfl) rfl (ms_store_row (k := 8) t43 rfl rfl rfl rfl rfl rfl rfl rfl) (fun _ _ => stg_end [] rfl rfl prs_nil rfl rfl rfl ?_)))))
      refine r_cretD ?_
      refine r_ret1D (fun w hC => run1_ret b6 b7 b8 w hC) cb37 (vo2, v55) trivial rfl (rs3 (rv_cell1 t35 rfl rfl (g_row1 (k := 6) rfl rfl)) (rv_cell1 t35 rfl rfl (g_row1 (k := 7) rfl rfl)) (rv_cell1 t43 rfl rfl (g_row1 (k := 8) rfl rfl))) rfl [22, 55] [] rfl rfl rfl
theorem run_spec (vp vin : SV) (fs : List Tf) (ins : List Int) (fuel : Int) (hg : GP fs) (hi : ∀ x ∈ ins, oW x) (hil : ins.length ≤ 1000000) (hf : -9000000000000000000 ≤ fuel ∧ fuel ≤ 1000000000000) (ru : Ru) (hru : RunIs fs ins fuel ru) :
    Spec Try.prog 20 [.agg #[sv vp], sv vin, .int .i64 fuel] [] [tfsA vp fs, sl 1 eU (sv vin) ins] (X := SV × SV) (fun _ => True) (fun x => .tuple #[sv x.1, sv x.2, .int .i64 ru.err]) (fun x => [own 22 1 eU (sv x.1) ru.out, own 22 1 eU (sv x.2) ru.mem]) (fun _ => []) := by
  cases hru with
  | bad h => exact (run_bad vp vin fs ins fuel hg hi hil hf h).toSpec _ fun _ _ => rfl
  | run f g r h hfm he =>
    obtain ⟨f2, hf2⟩ := chk_fine hg h
    have : f2 = f := by
      have := hf2.main
      rw [hfm] at this
      exact (Option.some.inj this).symm
    subst this
    exact (run_ok vp vin fs ins fuel hg hi hil hf h f2 hf2 g r he).toSpec _ fun _ _ => rfl

end Go.Proofs.Ytdcbbkpdlcojfaa
namespace Go.Proofs.Ytdcbbkpdlcojfaa
set_option linter.unusedSimpArgs false
set_option linter.unusedVariables false
open Go.RowKit

/-- Assertions that hold within F. -/
def AllIn (w : World) (F : Nat → Prop) : List Asn → Prop
  | [] => True
  | A :: r => (∃ G : Nat → Prop, A.pred w G ∧ ∀ b, G b → F b) ∧ AllIn w F r
theorem allIn_of {w : World} {Γ : Ctx} {F : Nat → Nat → Prop} {U : Nat → Prop} (h : ∀ k A, cget Γ k = some A → A.pred w (F k)) : ∀ (ks : List Nat) (L : List Asn), cgets Γ ks = somes L → (∀ k ∈ ks, ∀ b, F k b → U b) → AllIn w U L
  | [], [], _, _ => trivial
  | [], A :: L, hL, _ => by cases hL
  | k :: ks, [], hL, _ => by cases hL
  | k :: ks, A :: L, hL, hU => by
    simp only [cgets, somes, List.cons.injEq] at hL
    exact ⟨⟨F k, h k A hL.1, hU k (by simp)⟩, allIn_of h ks L hL.2 fun j hj => hU j (by simp [hj])⟩
theorem COk.collect {w0 : World} {M H : Nat → Prop} {Γ R : Ctx} {w : World} (h : COk w0 M H Γ R w) (k : Nat) (ks : List Nat) {L : List Asn} {C : Asn} (hL : cgets Γ ks = somes L) (hC : ∀ w F, AllIn w F L → C.pred w F) : COk w0 M H ((k, C) :: ckill ks Γ) R w := by
  obtain ⟨F, hF⟩ := h
  have hsub : ∀ j b, (if j = k then fun b => ∃ i ∈ ks, F i b else if j ∈ ks then fun _ => False else F j) b → (j = k ∧ ∃ i ∈ ks, F i b) ∨ (j ≠ k ∧ j ∉ ks ∧ F j b) := by
    intro j b hb
    split at hb
    · exact .inl ⟨by assumption, hb⟩
    · split at hb
      · exact hb.elim
      · exact .inr ⟨by assumption, by assumption, hb⟩
  refine ⟨fun j => if j = k then fun b => ∃ i ∈ ks, F i b else if j ∈ ks then fun _ => False else F j, hF.touch, ?_, ?_, ?_, ?_, ?_⟩
  · intro j B hj
    simp only [cget] at hj
    cases h1 : Nat.beq k j with
    | true =>
      rw [h1] at hj
      simp at hj
      subst hj
      have := Nat.eq_of_beq_eq_true h1
      subst this
      simp only [if_true]
      exact hC w _ (allIn_of hF.has ks L hL fun i hi b hb => ⟨i, hi, hb⟩)
    | false =>
      rw [h1] at hj
      have hj1 : j ≠ k := fun e => by subst e; simp at h1
      rcases cget_ckill ks Γ j B hj with ⟨rfl, h2⟩ | ⟨h2, h3⟩
      · simp only [hj1, if_false, h2, if_true]
        exact fun b hb => hb
      · simp only [hj1, if_false, h2]
        exact hF.has j B h3
  · intro j b hb
    rcases hsub j b hb with ⟨_, i, _, hb⟩ | ⟨_, _, hb⟩ <;> exact hF.lt _ b hb
  · intro j b hb
    rcases hsub j b hb with ⟨_, i, _, hb⟩ | ⟨_, _, hb⟩ <;> exact hF.mine _ b hb
  · intro i j b hi hj
    rcases hsub i b hi with ⟨e1, x, hx, hx2⟩ | ⟨e1, n1, g1⟩ <;> rcases hsub j b hj with ⟨e2, y, hy, hy2⟩ | ⟨e2, n2, g2⟩
    · rw [e1, e2]
    · have := hF.apart _ _ b hx2 g2
      subst this
      exact absurd hx n2
    · have := hF.apart _ _ b g1 hy2
      subst this
      exact absurd hy n1
    · exact hF.apart i j b g1 g2
  · intro r A hr
    obtain ⟨G, g1, g2⟩ := hF.ro r A hr
    refine ⟨G, g1, fun b hb => ?_⟩
    obtain ⟨h1, h2, h3⟩ := g2 b hb
    refine ⟨h1, fun j hj => ?_, h3⟩
    rcases hsub j b hj with ⟨_, i, _, hb⟩ | ⟨_, _, hb⟩ <;> exact h2 _ hb
section
variable {P : Program} {N : Nat} {w0 : World} {M H : Nat → Prop} {E : Env} {Γ R : Ctx}
theorem r_collect (k : Nat) (ks : List Nat) {L : List Asn} {C : Asn} {Rel : Act → World → Prop} (hL : cgets Γ ks = somes L) (hC : ∀ w F, AllIn w F L → C.pred w F) (h : At N w0 M H E ((k, C) :: ckill ks Γ) R Rel) : At N w0 M H E Γ R Rel :=
  h.weak (fun _ h => h) fun w hc => hc.collect k ks hL hC
end
/-- Readable within F. -/
theorem own_in {α : Type} {w : World} {F G : Nat → Prop} {T s : Nat} {enc : α → List Value} {v : Value} {l : List α} (h : (own T s enc v l).pred w G) (hs : ∀ b, G b → F b) : ∃ G' : Nat → Prop, SlOk w G' s enc v l ∧ ∀ b, G' b → F b := ⟨G, own_sl h, hs⟩
theorem nil_in {α : Type} {w : World} {F : Nat → Prop} {s : Nat} {enc : α → List Value} : ∃ G' : Nat → Prop, SlOk w G' s enc (sv nilS) ([] : List α) ∧ ∀ b, G' b → F b := ⟨fun _ => False, ⟨0, Nat.le_refl _, Nat.zero_le _, .inl ⟨rfl, fun _ h => h, rfl⟩⟩, fun _ h => h.elim⟩
end Go.Proofs.Ytdcbbkpdlcojfaa
