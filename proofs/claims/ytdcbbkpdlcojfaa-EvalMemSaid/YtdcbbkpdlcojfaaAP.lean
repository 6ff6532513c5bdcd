/-
  Well-formed expressions. Condition: names are short and of bytes below 128.
-/
import Derived.Test.YtdcbbkpdlcojfaaAO
namespace Go.Proofs.Ytdcbbkpdlcojfaa
set_option linter.unusedSimpArgs false
set_option linter.unusedVariables false
open Go.RowKit

def vI (p : ByteArray × Int) : Value := .int .i64 p.2
theorem okX_1 {k : Int} {nm : ByteArray} {n : Nat} (h : k = 1 ∨ k = 5) : okX k nm n = ((nm == ⟨#[]⟩) && decide ((n : Int) = 0)) := by
  unfold okX
  rw [if_pos h, ba_eq]
  congr 1
  exact decide_eq_decide.2 (by omega)
theorem okX_2 {k : Int} {nm : ByteArray} {n : Nat} (h : k = 2) : okX k nm n = (identB nm && decide ((n : Int) = 0)) := by
  subst h
  show (identB nm && decide (n = 0)) = _
  congr 1
  exact decide_eq_decide.2 (by omega)
theorem okX_3 {k : Int} {nm : ByteArray} {n : Nat} (h : k = 3) : okX k nm n = identB nm := by
  subst h
  rfl
theorem okX_4 {k : Int} {nm : ByteArray} {n : Nat} (h : k = 4) : okX k nm n = ((nm == ⟨#[]⟩) && decide ((n : Int) = 1)) := by
  subst h
  show (decide (nm = oNil) && decide (n = 1)) = _
  rw [ba_eq]
  congr 1
  exact decide_eq_decide.2 (by omega)
theorem okX_6 {k : Int} {nm : ByteArray} {n : Nat} (h : k = 6) : okX k nm n = (memB nm unL && decide ((n : Int) = 1)) := by
  subst h
  show (memB nm unL && decide (n = 1)) = _
  congr 1
  exact decide_eq_decide.2 (by omega)
theorem okX_7 {k : Int} {nm : ByteArray} {n : Nat} (h : k = 7) : okX k nm n = (isBin nm && decide ((n : Int) = 2)) := by
  subst h
  show (isBin nm && decide (n = 2)) = _
  congr 1
  exact decide_eq_decide.2 (by omega)
theorem okX_0 {k : Int} {nm : ByteArray} {n : Nat} (h1 : ¬ k = 1) (h5 : ¬ k = 5) (h2 : ¬ k = 2) (h3 : ¬ k = 3) (h4 : ¬ k = 4) (h6 : ¬ k = 6) (h7 : ¬ k = 7) : okX k nm n = false := by
  unfold okX
  rw [if_neg (fun h => h.elim h1 h5), if_neg h2, if_neg h3, if_neg h4, if_neg h6, if_neg h7]
theorem not_any_not {α : Type} (p : α → Bool) : ∀ l : List α, (!(l.any fun x => !p x)) = l.all p
  | [] => rfl
  | a :: r => by rw [List.any_cons, List.all_cons, ← not_any_not p r]; cases p a <;> simp
theorem rX_eq (t : Tx) : rX t = (okX t.kind t.name t.kids.length && (decide (t.kind = 1) || decide (t.n = 0)) && !(t.kids.any fun u => !rX u)) := by
  rw [not_any_not]
  cases t
  rw [rX, rXs_all]
  rfl
set_option maxHeartbeats 1000000 in
set_option maxRecDepth 100000 in
theorem levels_spec  :
    Spec Try.prog 107 [] [] [] (X := Nat) (fun _ => True) (fun b => .map (some b)) (fun b => [mp mkS Prod.fst vI (some b) lvL]) (fun _ => []) := by
  refine r_enter Try.func107 rfl Try.ntmps107 rfl fun w0 M H => ?_
  refine r_seq ?_
  refine r_region ?_
  refine r_p (p_assign rfl) rfl ?_
  refine r_nil ?_
  refine r_seq ?_
  refine r_region ?_
  refine r_makeMap (Prod.fst : ByteArray × Int → ByteArray) mkS vI rfl fun b1 => ?_
  refine r_insert (k := 1) (α := ByteArray × Int) (kf := Prod.fst) (vf := vI) (oOr, 0) [(oOr, 0)] Try.underlying144 keyS rfl rfl rfl rfl (List.Perm.of_eq rfl) ?_
  refine r_insert (k := 1) (α := ByteArray × Int) (kf := Prod.fst) (vf := vI) (oXor, 1) [(oXor, 1), (oOr, 0)] Try.underlying144 keyS rfl rfl rfl rfl (List.Perm.of_eq rfl) ?_
  refine r_insert (k := 1) (α := ByteArray × Int) (kf := Prod.fst) (vf := vI) (oAnd, 2) [(oAnd, 2), (oXor, 1), (oOr, 0)] Try.underlying144 keyS rfl rfl rfl rfl (List.Perm.of_eq rfl) ?_
  refine r_insert (k := 1) (α := ByteArray × Int) (kf := Prod.fst) (vf := vI) (oEq, 3) [(oEq, 3), (oAnd, 2), (oXor, 1), (oOr, 0)] Try.underlying144 keyS rfl rfl rfl rfl (List.Perm.of_eq rfl) ?_
  refine r_insert (k := 1) (α := ByteArray × Int) (kf := Prod.fst) (vf := vI) (oNe, 3) [(oNe, 3), (oEq, 3), (oAnd, 2), (oXor, 1), (oOr, 0)] Try.underlying144 keyS rfl rfl rfl rfl (List.Perm.of_eq rfl) ?_
  refine r_insert (k := 1) (α := ByteArray × Int) (kf := Prod.fst) (vf := vI) (oLt, 4) [(oLt, 4), (oNe, 3), (oEq, 3), (oAnd, 2), (oXor, 1), (oOr, 0)] Try.underlying144 keyS rfl rfl rfl rfl (List.Perm.of_eq rfl) ?_
  refine r_insert (k := 1) (α := ByteArray × Int) (kf := Prod.fst) (vf := vI) (oLe, 4) [(oLe, 4), (oLt, 4), (oNe, 3), (oEq, 3), (oAnd, 2), (oXor, 1), (oOr, 0)] Try.underlying144 keyS rfl rfl rfl rfl (List.Perm.of_eq rfl) ?_
  refine r_insert (k := 1) (α := ByteArray × Int) (kf := Prod.fst) (vf := vI) (oGt, 4) [(oGt, 4), (oLe, 4), (oLt, 4), (oNe, 3), (oEq, 3), (oAnd, 2), (oXor, 1), (oOr, 0)] Try.underlying144 keyS rfl rfl rfl rfl (List.Perm.of_eq rfl) ?_
  refine r_insert (k := 1) (α := ByteArray × Int) (kf := Prod.fst) (vf := vI) (oGe, 4) [(oGe, 4), (oGt, 4), (oLe, 4), (oLt, 4), (oNe, 3), (oEq, 3), (oAnd, 2), (oXor, 1), (oOr, 0)] Try.underlying144 keyS rfl rfl rfl rfl (List.Perm.of_eq rfl) ?_
  refine r_insert (k := 1) (α := ByteArray × Int) (kf := Prod.fst) (vf := vI) (oShl, 5) [(oShl, 5), (oGe, 4), (oGt, 4), (oLe, 4), (oLt, 4), (oNe, 3), (oEq, 3), (oAnd, 2), (oXor, 1), (oOr, 0)] Try.underlying144 keyS rfl rfl rfl rfl (List.Perm.of_eq rfl) ?_
  refine r_insert (k := 1) (α := ByteArray × Int) (kf := Prod.fst) (vf := vI) (oShr, 5) [(oShr, 5), (oShl, 5), (oGe, 4), (oGt, 4), (oLe, 4), (oLt, 4), (oNe, 3), (oEq, 3), (oAnd, 2), (oXor, 1), (oOr, 0)] Try.underlying144 keyS rfl rfl rfl rfl (List.Perm.of_eq rfl) ?_
  refine r_insert (k := 1) (α := ByteArray × Int) (kf := Prod.fst) (vf := vI) (oAdd, 6) [(oAdd, 6), (oShr, 5), (oShl, 5), (oGe, 4), (oGt, 4), (oLe, 4), (oLt, 4), (oNe, 3), (oEq, 3), (oAnd, 2), (oXor, 1), (oOr, 0)] Try.underlying144 keyS rfl rfl rfl rfl (List.Perm.of_eq rfl) ?_
  refine r_insert (k := 1) (α := ByteArray × Int) (kf := Prod.fst) (vf := vI) (oSub, 6) [(oSub, 6), (oAdd, 6), (oShr, 5), (oShl, 5), (oGe, 4), (oGt, 4), (oLe, 4), (oLt, 4), (oNe, 3), (oEq, 3), (oAnd, 2), (oXor, 1), (oOr, 0)] Try.underlying144 keyS rfl rfl rfl rfl (List.Perm.of_eq rfl) ?_
  refine r_insert (k := 1) (α := ByteArray × Int) (kf := Prod.fst) (vf := vI) (oMul, 7) [(oMul, 7), (oSub, 6), (oAdd, 6), (oShr, 5), (oShl, 5), (oGe, 4), (oGt, 4), (oLe, 4), (oLt, 4), (oNe, 3), (oEq, 3), (oAnd, 2), (oXor, 1), (oOr, 0)] Try.underlying144 keyS rfl rfl rfl rfl (List.Perm.of_eq rfl) ?_
  refine r_insert (k := 1) (α := ByteArray × Int) (kf := Prod.fst) (vf := vI) (oQuo, 7) [(oQuo, 7), (oMul, 7), (oSub, 6), (oAdd, 6), (oShr, 5), (oShl, 5), (oGe, 4), (oGt, 4), (oLe, 4), (oLt, 4), (oNe, 3), (oEq, 3), (oAnd, 2), (oXor, 1), (oOr, 0)] Try.underlying144 keyS rfl rfl rfl rfl (List.Perm.of_eq rfl) ?_
  refine r_insert (k := 1) (α := ByteArray × Int) (kf := Prod.fst) (vf := vI) (oRem, 7) [(oRem, 7), (oQuo, 7), (oMul, 7), (oSub, 6), (oAdd, 6), (oShr, 5), (oShl, 5), (oGe, 4), (oGt, 4), (oLe, 4), (oLt, 4), (oNe, 3), (oEq, 3), (oAnd, 2), (oXor, 1), (oOr, 0)] Try.underlying144 keyS rfl rfl rfl rfl (List.Perm.of_eq rfl) ?_
  refine r_p (p_move rfl) rfl ?_
  refine r_p (p_assign rfl) rfl ?_
  refine r_nil ?_
  refine r_cret ?_
  refine r_ret b1 trivial rfl (rs1 (rv_tmp rfl)) rfl [1] [] rfl rfl rfl
set_option maxRecDepth 100000 in
theorem rx1_spec (v : SV) (l : List Tx) (ih : ∀ u ∈ l, Spec Try.prog 105 [xV u] [] [txsA u.v u.kids] (X := Unit) (fun _ => True) (fun _ => .bool (rX u)) (fun _ => []) (fun _ => [])) (u : Tx) (hu : u ∈ l) :
    Spec Try.prog 108 [xV u] [] [txsA v l] (X := Unit) (fun _ => True) (fun _ => .bool (!rX u)) (fun _ => []) (fun _ => []) := by
  refine r_enter Try.func108 rfl Try.ntmps108 rfl fun w0 M H => ?_
  refine r_more 0 7 rfl (txs_kid hu) ?_
  refine r_seq ?_
  refine r_region ?_
  refine r_boxA rfl rfl fun b1 => ?_
  refine r_p (p_assign rfl) rfl ?_
  refine r_nil ?_
  refine r_seq ?_
  refine r_region ?_
  refine r_p (p_loadA t57 rfl rfl rfl (g_all (k := 1) rfl)) rfl ?_
  refine r_call (xs := [.tmp 3]) (ih u hu) cb105 [] [(false, 7)] [] [] rfl rfl rfl rfl rfl rfl rfl rfl (fun _ _ => rfl) (fun _ _ _ => rfl) rfl (fun _ _ => ?_)
  refine r_p (p_not rfl) rfl ?_
  refine r_p (p_assign rfl) rfl ?_
  refine r_nil ?_
  refine r_cret ?_
  refine r_ret () trivial rfl (rs1 (rv_tmp rfl)) rfl [] [] rfl rfl rfl
set_option maxRecDepth 100000 in
theorem rx2_spec (v : SV) (l : List Tx) (ih : ∀ u ∈ l, Spec Try.prog 105 [xV u] [] [txsA u.v u.kids] (X := Unit) (fun _ => True) (fun _ => .bool (rX u)) (fun _ => []) (fun _ => [])) (u : Tx) (hu : u ∈ l) :
    Spec Try.prog 104 [xV u] [] [txsA v l] (X := Unit) (fun _ => True) (fun _ => .bool (!rX u)) (fun _ => []) (fun _ => []) := by
  refine r_enter Try.func104 rfl Try.ntmps104 rfl fun w0 M H => ?_
  refine r_more 0 7 rfl (txs_kid hu) ?_
  refine r_seq ?_
  refine r_region ?_
  refine r_boxA rfl rfl fun b1 => ?_
  refine r_p (p_assign rfl) rfl ?_
  refine r_nil ?_
  refine r_seq ?_
  refine r_region ?_
  refine r_p (p_loadA t57 rfl rfl rfl (g_all (k := 1) rfl)) rfl ?_
  refine r_call (xs := [.tmp 3]) (ih u hu) cb105 [] [(false, 7)] [] [] rfl rfl rfl rfl rfl rfl rfl rfl (fun _ _ => rfl) (fun _ _ _ => rfl) rfl (fun _ _ => ?_)
  refine r_p (p_not rfl) rfl ?_
  refine r_p (p_assign rfl) rfl ?_
  refine r_nil ?_
  refine r_cret ?_
  refine r_ret () trivial rfl (rs1 (rv_tmp rfl)) rfl [] [] rfl rfl rfl
set_option maxHeartbeats 4000000 in
set_option maxRecDepth 100000 in
theorem rx_step (t : Tx) (ht : GX t) (ih : ∀ u ∈ t.kids, Spec Try.prog 105 [xV u] [] [txsA u.v u.kids] (X := Unit) (fun _ => True) (fun _ => .bool (rX u)) (fun _ => []) (fun _ => [])) :
    Spec Try.prog 105 [xV t] [] [txsA t.v t.kids] (X := Unit) (fun _ => True) (fun _ => .bool (rX t)) (fun _ => []) (fun _ => []) := by
  refine r_enter Try.func105 rfl Try.ntmps105 rfl fun w0 M H => ?_
  refine r_more 0 1 rfl txs_sl ?_
  have hnm := GX_name ht
  have hkl := GX_len ht
  refine r_seq ?_
  refine r_region ?_
  refine r_boxA rfl rfl fun b1 => ?_
  refine r_p (p_assign rfl) rfl ?_
  refine r_nil ?_
  refine r_seq ?_
  refine r_region ?_
  refine r_p (p_assign rfl) rfl ?_
  refine r_nil ?_
  refine r_seq ?_
  refine r_drawM [0, 1, 2, 3, 4, 5, 6, 7, 8] [0, 1, 2, 3, 4, 5, 7, 6, 8] [7, 8, 9, 10, 6, 11, 12, 4, 5] _ rfl rfl rfl (stg_mem (V := [(1, 8, _), (2, 9, _)]) [1, 2] 0 [0] [3, 4, 5, 6, 7, 8] (fun bm => [(3, 10, _), (4, 6, _), (5, 11, _), (6, 12, _), (7, 4, _), (8, 5, _)]) rfl rfl (prs_cons (pri rfl (p_field0 fo57_2 rfl)) (prs_cons (pri rfl (p_load1 t9 rfl rfl (g_row1 (k := 1) rfl rfl))) prs_nil)) rfl rfl rfl rfl rfl rfl rfl rfl rfl rfl rfl (fun _ _ => rfl) rfl (ms_call (xs := []) levels_spec cb107 [] [] [60] [] rfl rfl rfl rfl rfl rfl rfl rfl (fun _ _ => rfl) (fun _ _ _ => rfl)) (fun bm _ => stg_end [3, 4, 5, 6, 7, 8, 1, 2] rfl rfl (prs_cons (pri rfl (p_lookup Try.underlying144 keyS t3 rfl rfl (hm_own (k := 60) rfl) rfl)) (prs_cons (pri rfl (p_move rfl)) (prs_cons (pri rfl (p_extract rfl rfl)) (prs_cons (pri rfl (p_extract rfl rfl)) (prs_cons (pri rfl (p_assign rfl)) (prs_cons (pri rfl (p_assign rfl)) (prs_cons (pri rfl (p_field0 fo57_2 rfl)) (prs_cons (pri rfl (p_load1 t9 rfl rfl (g_row1 (k := 1) rfl rfl))) prs_nil)))))))) rfl rfl rfl ?_))
  refine r_seq_cut (X := Unit) (fun _ => True) (fun _ => [(1, .pointer (some ⟨b1, 0, none⟩)), (3, .bool (okX t.kind t.name t.kids.length))]) (fun _ => [(1, row b1 57 (eTx t))]) (fun _ => [(0, txsA t.v t.kids), (1, sl 4 eTx (sv t.v) t.kids)]) ?_ (fun _ _ => ?_)
  · refine r_seq ?_
    refine r_region ?_
    refine r_p (p_field0 fo57_0 rfl) rfl ?_
    refine r_p (p_load1 t3 rfl rfl (g_row1 (k := 1) rfl rfl)) rfl ?_
    refine r_nil ?_
    refine r_block ?_
    refine r_seq ?_
    refine r_seq ?_
    refine r_region ?_
    refine r_p (p_bin rfl rfl b_eq) rfl ?_
    refine r_p (p_assign rfl) rfl ?_
    refine r_nil ?_
    refine r_cond rfl (fun h1 => ?_) (fun h1 => ?_)
    · have q1 : t.kind = 1 := of_decide_eq_true h1
      refine r_skip ?_
      refine r_cond rfl (fun h2 => ?_) (fun h2 => ?_)
      · (try simp only [decide_eq_true_eq, decide_eq_false_iff_not, Bool.and_eq_true, Bool.or_eq_true, Bool.and_eq_false_iff, Bool.or_eq_false_iff, Bool.not_eq_true, Bool.not_eq_false, Bool.not_eq_true', Bool.not_eq_false', Bool.not_not, bne_iff_ne, beq_iff_eq] at h2)
        refine r_region ?_
        refine r_p (p_field0 fo57_2 rfl) rfl ?_
        refine r_p (p_load1 t9 rfl rfl (g_row1 (k := 1) rfl rfl)) rfl ?_
        refine r_p (p_bin rfl rfl b_seq) rfl ?_
        refine r_p (p_move rfl) rfl ?_
        refine r_gp [] rfl rfl trivial (fun hg3 => p_field0 fo57_3 rfl) rfl ?_
        refine r_gp [(22, _)] rfl rfl ⟨rfl, trivial⟩ (fun hg4 => p_load1 t51 rfl rfl (g_row1 (k := 1) rfl rfl)) rfl ?_
        refine r_gp [(22, _), (23, _)] rfl rfl ⟨rfl, rfl, trivial⟩ (fun hg5 => p_len_sl Try.underlying51 rfl (hs_sl (k := 1) rfl)) rfl ?_
        refine r_gp [(22, _), (23, _), (24, _)] rfl rfl ⟨rfl, rfl, rfl, trivial⟩ (fun hg6 => p_bin rfl rfl b_eq) rfl ?_
        refine r_p (p_pick rfl rfl rfl (by first | exact pick_and | exact pick_or |  rfl)) rfl ?_
        refine r_p (p_assign rfl) rfl ?_
        refine r_nil ?_
        refine r_here () trivial (by rw [okX_1 (.inl q1)]; rfl) rfl rfl
      · exact absurd (decide_eq_true q1) (by rw [h2]; simp)
    · have q1 : ¬ t.kind = 1 := of_decide_eq_false h1
      refine r_region ?_
      refine r_p (p_bin rfl rfl b_eq) rfl ?_
      refine r_p (p_assign rfl) rfl ?_
      refine r_nil ?_
      refine r_cond rfl (fun h7 => ?_) (fun h7 => ?_)
      · have q5 : t.kind = 5 := of_decide_eq_true h7
        refine r_region ?_
        refine r_p (p_field0 fo57_2 rfl) rfl ?_
        refine r_p (p_load1 t9 rfl rfl (g_row1 (k := 1) rfl rfl)) rfl ?_
        refine r_p (p_bin rfl rfl b_seq) rfl ?_
        refine r_p (p_move rfl) rfl ?_
        refine r_gp [] rfl rfl trivial (fun hg8 => p_field0 fo57_3 rfl) rfl ?_
        refine r_gp [(22, _)] rfl rfl ⟨rfl, trivial⟩ (fun hg9 => p_load1 t51 rfl rfl (g_row1 (k := 1) rfl rfl)) rfl ?_
        refine r_gp [(22, _), (23, _)] rfl rfl ⟨rfl, rfl, trivial⟩ (fun hg10 => p_len_sl Try.underlying51 rfl (hs_sl (k := 1) rfl)) rfl ?_
        refine r_gp [(22, _), (23, _), (24, _)] rfl rfl ⟨rfl, rfl, rfl, trivial⟩ (fun hg11 => p_bin rfl rfl b_eq) rfl ?_
        refine r_p (p_pick rfl rfl rfl (by first | exact pick_and | exact pick_or |  rfl)) rfl ?_
        refine r_p (p_assign rfl) rfl ?_
        refine r_nil ?_
        refine r_here () trivial (by rw [okX_1 (.inr q5)]; rfl) rfl rfl
      · have q5 : ¬ t.kind = 5 := of_decide_eq_false h7
        refine r_seq ?_
        refine r_region ?_
        refine r_p (p_bin rfl rfl b_eq) rfl ?_
        refine r_p (p_assign rfl) rfl ?_
        refine r_nil ?_
        refine r_cond rfl (fun h12 => ?_) (fun h12 => ?_)
        · have q2 : t.kind = 2 := of_decide_eq_true h12
          refine r_region ?_
          refine r_p (p_field0 fo57_2 rfl) rfl ?_
          refine r_p (p_load1 t9 rfl rfl (g_row1 (k := 1) rfl rfl)) rfl ?_
          refine r_call (xs := [.tmp 30]) (ident_spec t.name hnm.1 hnm.2) cb77 [] [] [] [] rfl rfl rfl rfl rfl rfl rfl rfl (fun _ _ => rfl) (fun _ _ _ => rfl) rfl (fun _ _ => ?_)
          refine r_p (p_move rfl) rfl ?_
          refine r_gp [] rfl rfl trivial (fun hg13 => p_field0 fo57_3 rfl) rfl ?_
          refine r_gp [(33, _)] rfl rfl ⟨rfl, trivial⟩ (fun hg14 => p_load1 t51 rfl rfl (g_row1 (k := 1) rfl rfl)) rfl ?_
          refine r_gp [(33, _), (34, _)] rfl rfl ⟨rfl, rfl, trivial⟩ (fun hg15 => p_len_sl Try.underlying51 rfl (hs_sl (k := 1) rfl)) rfl ?_
          refine r_gp [(33, _), (34, _), (35, _)] rfl rfl ⟨rfl, rfl, rfl, trivial⟩ (fun hg16 => p_bin rfl rfl b_eq) rfl ?_
          refine r_p (p_pick rfl rfl rfl (by first | exact pick_and | exact pick_or |  rfl)) rfl ?_
          refine r_p (p_assign rfl) rfl ?_
          refine r_nil ?_
          refine r_here () trivial (by rw [okX_2 q2]; rfl) rfl rfl
        · have q2 : ¬ t.kind = 2 := of_decide_eq_false h12
          refine r_seq ?_
          refine r_region ?_
          refine r_p (p_bin rfl rfl b_eq) rfl ?_
          refine r_p (p_assign rfl) rfl ?_
          refine r_nil ?_
          refine r_cond rfl (fun h17 => ?_) (fun h17 => ?_)
          · have q3 : t.kind = 3 := of_decide_eq_true h17
            refine r_region ?_
            refine r_p (p_field0 fo57_2 rfl) rfl ?_
            refine r_p (p_load1 t9 rfl rfl (g_row1 (k := 1) rfl rfl)) rfl ?_
            refine r_call (xs := [.tmp 41]) (ident_spec t.name hnm.1 hnm.2) cb77 [] [] [] [] rfl rfl rfl rfl rfl rfl rfl rfl (fun _ _ => rfl) (fun _ _ _ => rfl) rfl (fun _ _ => ?_)
            refine r_p (p_assign rfl) rfl ?_
            refine r_nil ?_
            refine r_here () trivial (by rw [okX_3 q3]; rfl) rfl rfl
          · have q3 : ¬ t.kind = 3 := of_decide_eq_false h17
            refine r_seq ?_
            refine r_region ?_
            refine r_p (p_bin rfl rfl b_eq) rfl ?_
            refine r_p (p_assign rfl) rfl ?_
            refine r_nil ?_
            refine r_cond rfl (fun h18 => ?_) (fun h18 => ?_)
            · have q4 : t.kind = 4 := of_decide_eq_true h18
              refine r_region ?_
              refine r_p (p_field0 fo57_2 rfl) rfl ?_
              refine r_p (p_load1 t9 rfl rfl (g_row1 (k := 1) rfl rfl)) rfl ?_
              refine r_p (p_bin rfl rfl b_seq) rfl ?_
              refine r_p (p_move rfl) rfl ?_
              refine r_gp [] rfl rfl trivial (fun hg19 => p_field0 fo57_3 rfl) rfl ?_
              refine r_gp [(49, _)] rfl rfl ⟨rfl, trivial⟩ (fun hg20 => p_load1 t51 rfl rfl (g_row1 (k := 1) rfl rfl)) rfl ?_
              refine r_gp [(49, _), (50, _)] rfl rfl ⟨rfl, rfl, trivial⟩ (fun hg21 => p_len_sl Try.underlying51 rfl (hs_sl (k := 1) rfl)) rfl ?_
              refine r_gp [(49, _), (50, _), (51, _)] rfl rfl ⟨rfl, rfl, rfl, trivial⟩ (fun hg22 => p_bin rfl rfl b_eq) rfl ?_
              refine r_p (p_pick rfl rfl rfl (by first | exact pick_and | exact pick_or |  rfl)) rfl ?_
              refine r_p (p_assign rfl) rfl ?_
              refine r_nil ?_
              refine r_here () trivial (by rw [okX_4 q4]; rfl) rfl rfl
            · have q4 : ¬ t.kind = 4 := of_decide_eq_false h18
              refine r_seq ?_
              refine r_region ?_
              refine r_p (p_bin rfl rfl b_eq) rfl ?_
              refine r_p (p_assign rfl) rfl ?_
              refine r_nil ?_
              refine r_cond rfl (fun h23 => ?_) (fun h23 => ?_)
              · have q6 : t.kind = 6 := of_decide_eq_true h23
                refine r_region ?_
                refine r_bslice eS unL (parts := [(0, .const (.string (ByteArray.mk #[45]))), (1, .const (.string (ByteArray.mk #[126]))), (2, .const (.string (ByteArray.mk #[33])))]) Try.underlying62 t9 rfl (by decide) (by intro _; rfl) rfl (by decide) (by decide) rfl rfl rfl rfl fun v56 => ?_
                refine r_p (p_field0 fo57_2 rfl) rfl ?_
                refine r_p (p_load1 t9 rfl rfl (g_row1 (k := 1) rfl rfl)) rfl ?_
                refine r_freeze 56 21 rfl own_to_sl ?_
                refine r_call (xs := [.tmp 56, .tmp 58]) (contains_spec v56 unL (by decide) t.name) cb87 [] [(false, 21)] [] [] rfl rfl rfl rfl rfl rfl rfl rfl (fun _ _ => rfl) (fun _ _ _ => rfl) rfl (fun _ _ => ?_)
                refine r_p (p_move rfl) rfl ?_
                refine r_gp [] rfl rfl trivial (fun hg24 => p_field0 fo57_3 rfl) rfl ?_
                refine r_gp [(61, _)] rfl rfl ⟨rfl, trivial⟩ (fun hg25 => p_load1 t51 rfl rfl (g_row1 (k := 1) rfl rfl)) rfl ?_
                refine r_gp [(61, _), (62, _)] rfl rfl ⟨rfl, rfl, trivial⟩ (fun hg26 => p_len_sl Try.underlying51 rfl (hs_sl (k := 1) rfl)) rfl ?_
                refine r_gp [(61, _), (62, _), (63, _)] rfl rfl ⟨rfl, rfl, rfl, trivial⟩ (fun hg27 => p_bin rfl rfl b_eq) rfl ?_
                refine r_p (p_pick rfl rfl rfl (by first | exact pick_and | exact pick_or |  rfl)) rfl ?_
                refine r_p (p_assign rfl) rfl ?_
                refine r_nil ?_
                refine r_here () trivial (by rw [okX_6 q6]; rfl) rfl rfl
              · have q6 : ¬ t.kind = 6 := of_decide_eq_false h23
                refine r_seq ?_
                refine r_region ?_
                refine r_p (p_bin rfl rfl b_eq) rfl ?_
                refine r_p (p_assign rfl) rfl ?_
                refine r_nil ?_
                refine r_cond rfl (fun h28 => ?_) (fun h28 => ?_)
                · have q7 : t.kind = 7 := of_decide_eq_true h28
                  refine r_region ?_
                  refine r_p (p_move rfl) rfl ?_
                  refine r_p (p_move rfl) rfl ?_
                  refine r_gp [] rfl rfl trivial (fun hg29 => p_field0 fo57_3 rfl) rfl ?_
                  refine r_gp [(70, _)] rfl rfl ⟨rfl, trivial⟩ (fun hg30 => p_load1 t51 rfl rfl (g_row1 (k := 1) rfl rfl)) rfl ?_
                  refine r_gp [(70, _), (71, _)] rfl rfl ⟨rfl, rfl, trivial⟩ (fun hg31 => p_len_sl Try.underlying51 rfl (hs_sl (k := 1) rfl)) rfl ?_
                  refine r_gp [(70, _), (71, _), (72, _)] rfl rfl ⟨rfl, rfl, rfl, trivial⟩ (fun hg32 => p_bin rfl rfl b_eq) rfl ?_
                  refine r_p (p_pick rfl rfl rfl (by first | exact pick_and | exact pick_or |  rfl)) rfl ?_
                  refine r_p (p_assign rfl) rfl ?_
                  refine r_nil ?_
                  refine r_here () trivial (by rw [okX_7 q7]; rfl) rfl rfl
                · have q7 : ¬ t.kind = 7 := of_decide_eq_false h28
                  refine r_skip ?_
                  refine r_here () trivial (by rw [okX_0 q1 q5 q2 q3 q4 q6 q7]; rfl) rfl rfl
  · refine r_seq ?_
    refine r_region ?_
    refine r_p (p_move rfl) rfl ?_
    refine r_p (p_move rfl) rfl ?_
    refine r_gp [] rfl rfl trivial (fun hg33 => p_field0 fo57_0 rfl) rfl ?_
    refine r_gp [(77, _)] rfl rfl ⟨rfl, trivial⟩ (fun hg34 => p_load1 t3 rfl rfl (g_row1 (k := 1) rfl rfl)) rfl ?_
    refine r_gp [(77, _), (78, _)] rfl rfl ⟨rfl, rfl, trivial⟩ (fun hg35 => p_bin rfl rfl b_eq) rfl ?_
    refine r_gp [(77, _), (78, _), (79, _)] rfl rfl ⟨rfl, rfl, rfl, trivial⟩ (fun hg36 => p_move rfl) rfl ?_
    refine r_gp2 [] [(77, _), (78, _), (79, _), (80, _)] rfl rfl trivial ⟨rfl, rfl, rfl, rfl, trivial⟩ (fun hg37 hg37' => p_field0 fo57_1 rfl) rfl ?_
    refine r_gp2 [(81, _)] [(77, _), (78, _), (79, _), (80, _)] rfl rfl ⟨rfl, trivial⟩ ⟨rfl, rfl, rfl, rfl, trivial⟩ (fun hg38 hg38' => p_load1 t22 rfl rfl (g_row1 (k := 1) rfl rfl)) rfl ?_
    refine r_gp2 [(81, _), (82, _)] [(77, _), (78, _), (79, _), (80, _)] rfl rfl ⟨rfl, rfl, trivial⟩ ⟨rfl, rfl, rfl, rfl, trivial⟩ (fun hg39 hg39' => p_bin rfl rfl b_eq) rfl ?_
    refine r_gp [(77, _), (78, _), (79, _), (80, _)] rfl rfl ⟨rfl, rfl, rfl, rfl, trivial⟩ (fun hg40 => p_pick rfl rfl rfl (by first | exact pick_and | exact pick_or | exact pick_and2 hg40 | exact pick_or2 hg40 | rfl)) rfl ?_
    refine r_p (p_pick rfl rfl rfl (by first | exact pick_and | exact pick_or |  rfl)) rfl ?_
    refine r_p (p_move rfl) rfl ?_
    refine r_gp [] rfl rfl trivial (fun hg41 => p_field0 fo57_3 rfl) rfl ?_
    refine r_gp [(87, _)] rfl rfl ⟨rfl, trivial⟩ (fun hg42 => p_load1 t51 rfl rfl (g_row1 (k := 1) rfl rfl)) rfl ?_
    refine r_gms [(87, _), (88, _)] rfl rfl ⟨rfl, rfl, trivial⟩ (fun hg43 => ms_call (xs := [.tmp 88, .func 108]) (conx_spec t.v t.kids hkl 108 [] (txsA t.v t.kids) (fun u => !rX u) cb108 (fun u hu => rx1_spec t.v t.kids ih u hu)) cb103 [] [(false, 1), (false, 0)] [] [] rfl rfl rfl rfl rfl rfl rfl rfl (fun _ _ => rfl) (fun _ _ _ => rfl)) rfl ?_
    refine r_gp [(87, _), (88, _), (89, _)] rfl rfl ⟨rfl, rfl, rfl, trivial⟩ (fun hg44 => p_not rfl) rfl ?_
    refine r_p (p_pick rfl rfl rfl (by first | exact pick_and | exact pick_or |  rfl)) rfl ?_
    refine r_p (p_assign rfl) rfl ?_
    refine r_nil ?_
    refine r_cret ?_
    refine r_ret () trivial rfl (rs1 (rv_tmp rfl)) (congrArg Value.bool (rX_eq t).symm) [] [] rfl rfl rfl
theorem rx_all : ∀ (n : Nat) (t : Tx), SizeOf.sizeOf t < n → GX t → Spec Try.prog 105 [xV t] [] [txsA t.v t.kids] (X := Unit) (fun _ => True) (fun _ => .bool (rX t)) (fun _ => []) (fun _ => [])
  | 0, _, h, _ => absurd h (Nat.not_lt_zero _)
  | n + 1, t, h, ht => rx_step t ht fun u hu => rx_all n u (by have := tx_lt hu; omega) ((GX_kids ht).mem u hu)
theorem rx_spec (t : Tx) (ht : GX t) : Spec Try.prog 105 [xV t] [] [txsA t.v t.kids] (X := Unit) (fun _ => True) (fun _ => .bool (rX t)) (fun _ => []) (fun _ => []) := rx_all _ t (Nat.lt_succ_self _) ht

end Go.Proofs.Ytdcbbkpdlcojfaa
