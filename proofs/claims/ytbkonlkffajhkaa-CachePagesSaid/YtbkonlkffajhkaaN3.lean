/-
  The blocks on a page, from the model; comparing lists of places. Condition: few.
-/
import Derived.Test.YtbkonlkffajhkaaN2
namespace Go.Proofs.Ytbkonlkffajhkaa
set_option linter.unusedSimpArgs false
set_option linter.unusedVariables false
open Go.RowKit

def qP (pc y : Int) : Bool := decide (y > pc)
def onL (pg : Int) (l : List En) : List Int := l.foldl (fun acc x => if pg ∈ x.pg then insD (qP x.pc) x.pc acc else acc) []
theorem onL_take (pg : Int) {l : List En} {k : Nat} (hk : k < l.length) : onL pg (l.take (k + 1)) = if pg ∈ (l.getD k dE).pg then insD (qP (l.getD k dE).pc) (l.getD k dE).pc (onL pg (l.take k)) else onL pg (l.take k) := by
  unfold onL
  rw [List.take_succ_eq_append_getElem hk, List.foldl_append, List.getD_eq_getElem?_getD, List.getElem?_eq_getElem hk]
  rfl
theorem onL_okk (pg : Int) (l : List En) : ∀ k, k ≤ l.length → (onL pg (l.take k)).Perm (((l.take k).filter fun x => decide (pg ∈ x.pg)).map En.pc) ∧ (onL pg (l.take k)).Pairwise fun x y => x ≤ y := by
  intro k
  induction k with
  | zero => exact fun _ => ⟨List.Perm.refl _, List.Pairwise.nil⟩
  | succ k ih0 =>
    intro hk1
    have hk : k < l.length := hk1
    have ih := ih0 (by omega)
    have hx : l.getD k dE = l[k] := by rw [List.getD_eq_getElem?_getD, List.getElem?_eq_getElem hk]; rfl
    rw [onL_take pg hk, hx, List.take_succ_eq_append_getElem hk, List.filter_append, List.map_append]
    generalize l[k] = x
    by_cases h : pg ∈ x.pg
    · rw [if_pos h]
      refine ⟨?_, insD_sorted (fun _ _ _ h h' => Int.le_trans h h') ih.2 (fun y _ hy => ?_) (fun y _ hy => ?_)⟩
      · refine (insD_perm _ _ _).trans ?_
        simp only [List.filter_cons, h, decide_true, if_true, List.filter_nil, List.map_cons, List.map_nil]
        refine ((ih.1).cons x.pc).trans ?_
        exact List.perm_append_comm (l₁ := [x.pc])
      · have := of_decide_eq_true hy
        omega
      · have := of_decide_eq_false hy
        omega
    · rw [if_neg h]
      refine ⟨?_, ih.2⟩
      simpa [List.filter_cons, h] using ih.1
theorem onL_ok (pg : Int) (l : List En) : (onL pg l).Perm ((l.filter fun x => decide (pg ∈ x.pg)).map En.pc) ∧ (onL pg l).Pairwise fun x y => x ≤ y := by
  have := onL_okk pg l l.length (Nat.le_refl _)
  rwa [List.take_length] at this
theorem onL_len (pg : Int) (l : List En) : (onL pg l).length ≤ l.length := by
  rw [(onL_ok pg l).1.length_eq, List.length_map]
  exact List.length_filter_le _ _
theorem memt_take {pg : Int} {l : List Int} {j : Nat} (hj : j < l.length) : decide (pg ∈ l.take (j + 1)) = (decide (pg ∈ l.take j) || decide (l.getD j 0 = pg)) := by
  rw [List.take_succ_eq_append_getElem hj, List.getD_eq_getElem?_getD, List.getElem?_eq_getElem hj]
  simp only [Option.getD_some, List.mem_append, List.mem_singleton]
  rw [Bool.eq_iff_iff]
  simp only [decide_eq_true_eq, Bool.or_eq_true]
  exact or_congr Iff.rfl eq_comm

set_option maxHeartbeats 1000000 in
set_option maxRecDepth 100000 in
theorem put_spec (v : SV) (l : List Int) (pc : Int) (hl : l.length ≤ 1000) :
    Spec Try.prog 57 [sv v, .int .u32 pc] [own 30 1 eU (sv v) l] [] (X := SV) (fun _ => True) (fun x => sv x) (fun x => [own 30 1 eU (sv x) (insD (qP pc) pc l)]) (fun _ => []) := by
  refine r_enter Try.func57 rfl Try.ntmps57 rfl fun w0 M H => ?_
  refine r_nilown 100 (S := 30) (s := 1) (enc := eU) ?_
  refine r_seq ?_
  refine r_region ?_
  refine r_p (p_assign rfl) rfl ?_
  refine r_nil ?_
  refine r_seq ?_
  refine r_region ?_
  refine r_p (p_assign rfl) rfl ?_
  refine r_nil ?_
  refine r_seq ?_
  refine r_region ?_
  refine r_p (p_assign rfl) rfl ?_
  refine r_nil ?_
  refine r_seq ?_
  refine r_seq ?_
  refine r_region ?_
  refine r_p (p_assign rfl) rfl ?_
  refine r_nil ?_
  refine r_block ?_
  refine r_loop (X := Nat × SV) (fun y => y.1 ≤ l.length) (fun y => [(0, sv v), (1, .int .u32 pc), (5, sv y.2), (6, .bool (insF (qP pc) pc (l.take y.1)).2), (7, .int .i64 (y.1 : Int))]) (fun y => [(0, own 30 1 eU (sv v) l), (100, own 30 1 eU (sv y.2) (insF (qP pc) pc (l.take y.1)).1)]) (fun y => []) (fun y => l.length - y.1) (0, nilS) (Nat.zero_le _) rfl rfl rfl (fun ⟨k, v5⟩ hk0 => ?_)
  dsimp only at hk0 ⊢
  refine r_seq ?_
  refine r_seq ?_
  refine r_region ?_
  refine r_p (p_move rfl) rfl ?_
  refine r_p (p_move rfl) rfl ?_
  refine r_p (p_len_sl Try.underlying44 rfl (hs_own (k := 0) rfl)) rfl ?_
  refine r_p (p_bin rfl rfl b_lt) rfl ?_
  refine r_nil ?_
  refine r_cond rfl (fun h1 => ?_) (fun h1 => ?_)
  · (try simp only [decide_eq_true_eq, decide_eq_false_iff_not, Bool.and_eq_true, Bool.or_eq_true, Bool.and_eq_false_iff, Bool.or_eq_false_iff, Bool.not_eq_true, Bool.not_eq_false, Bool.not_eq_true', Bool.not_eq_false', Bool.not_not, bne_iff_ne, beq_iff_eq] at h1)
    have hk : k < l.length := by omega
    have hil := insF_len (qP pc) pc (l.take k)
    have htl := List.length_take_le k l
    refine r_skip ?_
    refine r_seq ?_
    refine r_block ?_
    refine r_seq ?_
    refine r_seq ?_
    refine r_region ?_
    refine r_p (p_move rfl) rfl ?_
    refine r_p (p_not rfl) rfl ?_
    refine r_p (p_move rfl) rfl ?_
    refine r_gp [] rfl rfl trivial (fun hg2 => p_move rfl) rfl ?_
    refine r_gp [(17, _)] rfl rfl ⟨rfl, trivial⟩ (fun hg3 => p_move rfl) rfl ?_
    refine r_gp [(17, _), (18, _)] rfl rfl ⟨rfl, rfl, trivial⟩ (fun hg4 => p_idx_sl (j := k) Try.underlying44 t30 rfl rfl (hs_own (k := 0) rfl) (by first | rfl | omega) (by first | omega | (simp; done) | (simp; omega))) rfl ?_
    refine r_gp [(17, _), (18, _), (19, _)] rfl rfl ⟨rfl, rfl, rfl, trivial⟩ (fun hg5 => p_load1 t30 rfl rfl (g_el' (hs_own (k := 0) rfl) (by intro _; rfl) (getD_get 0 (by omega)) (by rfl))) rfl ?_
    refine r_gp [(17, _), (18, _), (19, _), (20, _)] rfl rfl ⟨rfl, rfl, rfl, rfl, trivial⟩ (fun hg6 => p_move rfl) rfl ?_
    refine r_gp [(17, _), (18, _), (19, _), (20, _), (21, _)] rfl rfl ⟨rfl, rfl, rfl, rfl, rfl, trivial⟩ (fun hg7 => p_bin rfl rfl b_gt) rfl ?_
    refine r_p (p_pick rfl rfl rfl (by first | exact pick_and | exact pick_or |  rfl)) rfl ?_
    refine r_nil ?_
    refine r_cond rfl (fun h8 => ?_) (fun h8 => ?_)
    · have hq2 : (!(insF (qP pc) pc (l.take k)).2 && (qP pc) (l.getD k 0)) = true := h8
      refine r_seq ?_
      refine r_region ?_
      refine r_p (p_move rfl) rfl ?_
      refine r_p (p_move rfl) rfl ?_
      refine r_bslice1 eU pc Try.underlying44 t30 rfl (by decide) (by decide) rfl rfl rfl rfl fun v26 => ?_
      refine r_append 100 Try.underlying44 t30 rfl (by decide) (fun _ => rfl) (fun _ => rfl) rfl rfl rfl (hs_own (k := 26) rfl) (by first | omega | (simp; done) | (simp; omega)) (by unfold maxLen; first | omega | (simp; done) | (simp; omega)) rfl fun v27 => ?_
      refine r_p (p_assign rfl) rfl ?_
      refine r_nil ?_
      refine r_region ?_
      refine r_p (p_assign rfl) rfl ?_
      refine r_nil ?_
      refine r_region ?_
      refine r_p (p_move rfl) rfl ?_
      refine r_p (p_move rfl) rfl ?_
      refine r_p (p_move rfl) rfl ?_
      refine r_p (p_idx_sl (j := k) Try.underlying44 t30 rfl rfl (hs_own (k := 0) rfl) (by first | rfl | omega) (by first | omega | (simp; done) | (simp; omega))) rfl ?_
      refine r_p (p_load1 t30 rfl rfl (g_el' (hs_own (k := 0) rfl) (by intro _; rfl) (getD_get 0 (by omega)) (by rfl))) rfl ?_
      refine r_bslice1 eU (l.getD k 0) Try.underlying44 t30 rfl (by decide) (by decide) rfl rfl rfl rfl fun v33 => ?_
      refine r_append 100 Try.underlying44 t30 rfl (by decide) (fun _ => rfl) (fun _ => rfl) rfl rfl rfl (hs_own (k := 33) rfl) (by first | omega | (simp; done) | (simp; omega)) (by unfold maxLen; first | omega | (simp; done) | (simp; omega)) rfl fun v34 => ?_
      refine r_p (p_assign rfl) rfl ?_
      refine r_nil ?_
      refine r_region ?_
      refine r_p (p_move rfl) rfl ?_
      refine r_p (p_bin rfl rfl (b_add (by first | exact w_i64 (by omega) (by omega) | rfl))) rfl ?_
      refine r_p (p_assign rfl) rfl ?_
      refine r_nil ?_
      have hins := ins_stepA (d := (0 : Int)) hk (qP pc) pc
      rw [if_pos hq2] at hins
      refine r_here (k + 1, _) ⟨by dsimp only; omega, by dsimp only; omega⟩ (by rw [hins]; rfl) (by rw [hins]; rfl) rfl
    · have hq2 : ¬ (!(insF (qP pc) pc (l.take k)).2 && (qP pc) (l.getD k 0)) = true := by
        rw [Bool.not_eq_true]
        exact h8
      refine r_skip ?_
      refine r_region ?_
      refine r_p (p_move rfl) rfl ?_
      refine r_p (p_move rfl) rfl ?_
      refine r_p (p_move rfl) rfl ?_
      refine r_p (p_idx_sl (j := k) Try.underlying44 t30 rfl rfl (hs_own (k := 0) rfl) (by first | rfl | omega) (by first | omega | (simp; done) | (simp; omega))) rfl ?_
      refine r_p (p_load1 t30 rfl rfl (g_el' (hs_own (k := 0) rfl) (by intro _; rfl) (getD_get 0 (by omega)) (by rfl))) rfl ?_
      refine r_bslice1 eU (l.getD k 0) Try.underlying44 t30 rfl (by decide) (by decide) rfl rfl rfl rfl fun v33 => ?_
      refine r_append 100 Try.underlying44 t30 rfl (by decide) (fun _ => rfl) (fun _ => rfl) rfl rfl rfl (hs_own (k := 33) rfl) (by first | omega | (simp; done) | (simp; omega)) (by unfold maxLen; first | omega | (simp; done) | (simp; omega)) rfl fun v34 => ?_
      refine r_p (p_assign rfl) rfl ?_
      refine r_nil ?_
      refine r_region ?_
      refine r_p (p_move rfl) rfl ?_
      refine r_p (p_bin rfl rfl (b_add (by first | exact w_i64 (by omega) (by omega) | rfl))) rfl ?_
      refine r_p (p_assign rfl) rfl ?_
      refine r_nil ?_
      have hins := ins_stepA (d := (0 : Int)) hk (qP pc) pc
      rw [if_neg hq2] at hins
      refine r_here (k + 1, _) ⟨by dsimp only; omega, by dsimp only; omega⟩ (by rw [hins]; rfl) (by rw [hins]; rfl) rfl
  · (try simp only [decide_eq_true_eq, decide_eq_false_iff_not, Bool.and_eq_true, Bool.or_eq_true, Bool.and_eq_false_iff, Bool.or_eq_false_iff, Bool.not_eq_true, Bool.not_eq_false, Bool.not_eq_true', Bool.not_eq_false', Bool.not_not, bne_iff_ne, beq_iff_eq] at h1)
    have hk : k = l.length := by omega
    subst hk
    have hil := insF_len (qP pc) pc (l.take l.length)
    rw [List.take_length] at hil ⊢
    refine r_exit ?_
    refine r_seq ?_
    refine r_seq ?_
    refine r_region ?_
    refine r_p (p_move rfl) rfl ?_
    refine r_p (p_not rfl) rfl ?_
    refine r_nil ?_
    refine r_cond rfl (fun h9 => ?_) (fun h9 => ?_)
    · have hq3 : (insF (qP pc) pc l).2 = false := by simpa using h9
      refine r_region ?_
      refine r_p (p_move rfl) rfl ?_
      refine r_p (p_move rfl) rfl ?_
      refine r_bslice1 eU pc Try.underlying44 t30 rfl (by decide) (by decide) rfl rfl rfl rfl fun v39 => ?_
      refine r_append 100 Try.underlying44 t30 rfl (by decide) (fun _ => rfl) (fun _ => rfl) rfl rfl rfl (hs_own (k := 39) rfl) (by first | omega | (simp; done) | (simp; omega)) (by unfold maxLen; first | omega | (simp; done) | (simp; omega)) rfl fun v40 => ?_
      refine r_p (p_assign rfl) rfl ?_
      refine r_nil ?_
      refine r_seq ?_
      refine r_region ?_
      refine r_p (p_move rfl) rfl ?_
      refine r_p (p_assign rfl) rfl ?_
      refine r_nil ?_
      refine r_cret ?_
      refine r_ret _ trivial rfl (rs1 (rv_tmp rfl)) rfl [100] [] rfl (by unfold insD; rw [if_neg (by simp [hq3])]; rfl) rfl
    · have hq3 : (insF (qP pc) pc l).2 = true := by simpa using h9
      refine r_skip ?_
      refine r_seq ?_
      refine r_region ?_
      refine r_p (p_move rfl) rfl ?_
      refine r_p (p_assign rfl) rfl ?_
      refine r_nil ?_
      refine r_cret ?_
      refine r_ret _ trivial rfl (rs1 (rv_tmp rfl)) rfl [100] [] rfl (by unfold insD; rw [if_pos hq3]; rfl) rfl
set_option maxHeartbeats 1000000 in
set_option maxHeartbeats 1000000 in
set_option maxRecDepth 100000 in
theorem ron_spec (r : Nat) (base size cur : Int) (vL vC : SV) (L S : List En) (pg : Int) (hlen : L.length ≤ 12) (hS : ∀ x ∈ L, SameOk x ∧ x ∈ S) :
    Spec Try.prog 39 [.pointer (some ⟨r, 0, none⟩), .int .i64 pg] [] [row r 34 (cR base size cur vL vC), own 36 5 eR (sv vL) L, pgP S] (X := SV) (fun _ => True) (fun x => sv x) (fun x => [own 30 1 eU (sv x) (onL pg L)]) (fun _ => []) := by
  refine r_enter Try.func39 rfl Try.ntmps39 rfl fun w0 M H => ?_
  refine r_more 1 1 rfl (fun w G h _ => ⟨G, own_to_sl w G h, fun _ hb => hb⟩) ?_
  refine r_nilown 100 (S := 30) (s := 1) (enc := eU) ?_
  refine r_seq ?_
  refine r_region ?_
  refine r_p (p_assign rfl) rfl ?_
  refine r_nil ?_
  refine r_seq ?_
  refine r_region ?_
  refine r_p (p_assign rfl) rfl ?_
  refine r_nil ?_
  refine r_seq ?_
  refine r_seq ?_
  refine r_region ?_
  refine r_p (p_assign rfl) rfl ?_
  refine r_nil ?_
  refine r_block ?_
  refine r_loop (X := Nat × SV) (fun y => y.1 ≤ L.length) (fun y => [(0, .pointer (some ⟨r, 0, none⟩)), (1, .int .i64 pg), (5, sv y.2), (6, .int .i64 (y.1 : Int))]) (fun y => [(100, own 30 1 eU (sv y.2) (onL pg (L.take y.1)))]) (fun y => [(0, row r 34 (cR base size cur vL vC)), (1, sl 5 eR (sv vL) L), (2, pgP S)]) (fun y => L.length - y.1) (0, nilS) (Nat.zero_le _) rfl rfl rfl (fun ⟨k, v5⟩ hk0 => ?_)
  dsimp only at hk0 ⊢
  refine r_seq ?_
  refine r_seq ?_
  refine r_region ?_
  refine r_p (p_move rfl) rfl ?_
  refine r_p (p_move rfl) rfl ?_
  refine r_p (p_nilCheck rfl) rfl ?_
  refine r_p (p_field0 fo34_3 rfl) rfl ?_
  refine r_p (p_load1 t31 rfl rfl (g_row1R (k := 0) rfl rfl)) rfl ?_
  refine r_p (p_len_sl Try.underlying31 rfl (hs_sl (k := 1) rfl)) rfl ?_
  refine r_p (p_bin rfl rfl b_lt) rfl ?_
  refine r_nil ?_
  refine r_cond rfl (fun h1 => ?_) (fun h1 => ?_)
  · (try simp only [decide_eq_true_eq, decide_eq_false_iff_not, Bool.and_eq_true, Bool.or_eq_true, Bool.and_eq_false_iff, Bool.or_eq_false_iff, Bool.not_eq_true, Bool.not_eq_false, Bool.not_eq_true', Bool.not_eq_false', Bool.not_not, bne_iff_ne, beq_iff_eq] at h1)
    have hk : k < L.length := by omega
    have hxk := hS _ (getD_mem' hk)
    have hx4 : (L.getD k dE).pg.length ≤ 4 := hxk.1.2.2.2.2
    have hol := onL_len pg (L.take k)
    have htl := List.length_take_le k L
    refine r_pgsl 2 9 (L.getD k dE) rfl hxk.2 ?_
    refine r_skip ?_
    refine r_seq ?_
    refine r_block ?_
    refine r_seq ?_
    refine r_region ?_
    refine r_p (p_assign rfl) rfl ?_
    refine r_nil ?_
    refine r_seq ?_
    refine r_seq ?_
    refine r_region ?_
    refine r_p (p_assign rfl) rfl ?_
    refine r_nil ?_
    refine r_block ?_
    refine r_loop (X := Nat) (fun j => j ≤ (L.getD k dE).pg.length) (fun j => [(0, .pointer (some ⟨r, 0, none⟩)), (1, .int .i64 pg), (5, sv v5), (6, .int .i64 (k : Int)), (7, .bool (decide (pg ∈ (L.getD k dE).pg.take j))), (8, .int .i64 (j : Int))]) (fun j => [(100, own 30 1 eU (sv v5) (onL pg (L.take k)))]) (fun j => [(0, row r 34 (cR base size cur vL vC)), (1, sl 5 eR (sv vL) L), (2, pgP S), (9, sl 1 eI (sv (L.getD k dE).pages) (L.getD k dE).pg)]) (fun j => (L.getD k dE).pg.length - j) 0 (Nat.zero_le _) rfl rfl rfl (fun j hj0 => ?_)
    refine r_seq ?_
    refine r_seq ?_
    refine r_region ?_
    refine r_p (p_move rfl) rfl ?_
    refine r_p (p_move rfl) rfl ?_
    refine r_p (p_nilCheck rfl) rfl ?_
    refine r_p (p_field0 fo34_3 rfl) rfl ?_
    refine r_p (p_load1 t31 rfl rfl (g_row1R (k := 0) rfl rfl)) rfl ?_
    refine r_p (p_move rfl) rfl ?_
    refine r_p (p_idx_sl (j := k) Try.underlying31 t36 rfl rfl (hs_sl (k := 1) rfl) (by first | rfl | omega) (by first | omega | (simp; done) | (simp; omega))) rfl ?_
    refine r_p (p_field fo36_4 rfl) rfl ?_
    refine r_p (p_load1 t23 rfl rfl (g_elp (hs_sl (k := 1) rfl) (by intro _; rfl) (getD_get dE (by omega)) rfl)) rfl ?_
    refine r_p (p_len_sl Try.underlying23 rfl (hs_sl (k := 9) rfl)) rfl ?_
    refine r_p (p_bin rfl rfl b_lt) rfl ?_
    refine r_nil ?_
    refine r_cond rfl (fun h2 => ?_) (fun h2 => ?_)
    · (try simp only [decide_eq_true_eq, decide_eq_false_iff_not, Bool.and_eq_true, Bool.or_eq_true, Bool.and_eq_false_iff, Bool.or_eq_false_iff, Bool.not_eq_true, Bool.not_eq_false, Bool.not_eq_true', Bool.not_eq_false', Bool.not_not, bne_iff_ne, beq_iff_eq] at h2)
      have hj : j < (L.getD k dE).pg.length := by omega
      refine r_skip ?_
      refine r_seq ?_
      refine r_block ?_
      refine r_region ?_
      refine r_p (p_move rfl) rfl ?_
      refine r_p (p_move rfl) rfl ?_
      refine r_gp [] rfl rfl trivial (fun hg3 => p_move rfl) rfl ?_
      refine r_gp [(33, _)] rfl rfl ⟨rfl, trivial⟩ (fun hg4 => p_nilCheck rfl) rfl ?_
      refine r_gp [(33, _), (34, _)] rfl rfl ⟨rfl, rfl, trivial⟩ (fun hg5 => p_field0 fo34_3 rfl) rfl ?_
      refine r_gp [(33, _), (34, _), (35, _)] rfl rfl ⟨rfl, rfl, rfl, trivial⟩ (fun hg6 => p_load1 t31 rfl rfl (g_row1R (k := 0) rfl rfl)) rfl ?_
      refine r_gp [(33, _), (34, _), (35, _), (36, _)] rfl rfl ⟨rfl, rfl, rfl, rfl, trivial⟩ (fun hg7 => p_move rfl) rfl ?_
      refine r_gp [(33, _), (34, _), (35, _), (36, _), (37, _)] rfl rfl ⟨rfl, rfl, rfl, rfl, rfl, trivial⟩ (fun hg8 => p_idx_sl (j := k) Try.underlying31 t36 rfl rfl (hs_sl (k := 1) rfl) (by first | rfl | omega) (by first | omega | (simp; done) | (simp; omega))) rfl ?_
      refine r_gp [(33, _), (34, _), (35, _), (36, _), (37, _), (38, _)] rfl rfl ⟨rfl, rfl, rfl, rfl, rfl, rfl, trivial⟩ (fun hg9 => p_field fo36_4 rfl) rfl ?_
      refine r_gp [(33, _), (34, _), (35, _), (36, _), (37, _), (38, _), (39, _)] rfl rfl ⟨rfl, rfl, rfl, rfl, rfl, rfl, rfl, trivial⟩ (fun hg10 => p_load1 t23 rfl rfl (g_elp (hs_sl (k := 1) rfl) (by intro _; rfl) (getD_get dE (by omega)) rfl)) rfl ?_
      refine r_gp [(33, _), (34, _), (35, _), (36, _), (37, _), (38, _), (39, _), (40, _)] rfl rfl ⟨rfl, rfl, rfl, rfl, rfl, rfl, rfl, rfl, trivial⟩ (fun hg11 => p_move rfl) rfl ?_
      refine r_gp [(33, _), (34, _), (35, _), (36, _), (37, _), (38, _), (39, _), (40, _), (41, _)] rfl rfl ⟨rfl, rfl, rfl, rfl, rfl, rfl, rfl, rfl, rfl, trivial⟩ (fun hg12 => p_idx_sl (j := j) Try.underlying23 t3 rfl rfl (hs_sl (k := 9) rfl) (by first | rfl | omega) (by first | omega | (simp; done) | (simp; omega))) rfl ?_
      refine r_gp [(33, _), (34, _), (35, _), (36, _), (37, _), (38, _), (39, _), (40, _), (41, _), (42, _)] rfl rfl ⟨rfl, rfl, rfl, rfl, rfl, rfl, rfl, rfl, rfl, rfl, trivial⟩ (fun hg13 => p_load1 t3 rfl rfl (g_el' (hs_sl (k := 9) rfl) (by intro _; rfl) (getD_get 0 (by omega)) (by rfl))) rfl ?_
      refine r_gp [(33, _), (34, _), (35, _), (36, _), (37, _), (38, _), (39, _), (40, _), (41, _), (42, _), (43, _)] rfl rfl ⟨rfl, rfl, rfl, rfl, rfl, rfl, rfl, rfl, rfl, rfl, rfl, trivial⟩ (fun hg14 => p_move rfl) rfl ?_
      refine r_gp [(33, _), (34, _), (35, _), (36, _), (37, _), (38, _), (39, _), (40, _), (41, _), (42, _), (43, _), (44, _)] rfl rfl ⟨rfl, rfl, rfl, rfl, rfl, rfl, rfl, rfl, rfl, rfl, rfl, rfl, trivial⟩ (fun hg15 => p_bin rfl rfl b_eq) rfl ?_
      refine r_p (p_pick rfl rfl rfl (by first | exact pick_and | exact pick_or |  rfl)) rfl ?_
      refine r_p (p_assign rfl) rfl ?_
      refine r_nil ?_
      refine r_region ?_
      refine r_p (p_move rfl) rfl ?_
      refine r_p (p_bin rfl rfl (b_add (by first | exact w_i64 (by omega) (by omega) | rfl))) rfl ?_
      refine r_p (p_assign rfl) rfl ?_
      refine r_nil ?_
      refine r_here (j + 1) ⟨by omega, by omega⟩ (by rw [memt_take hj]; rfl) rfl rfl
    · (try simp only [decide_eq_true_eq, decide_eq_false_iff_not, Bool.and_eq_true, Bool.or_eq_true, Bool.and_eq_false_iff, Bool.or_eq_false_iff, Bool.not_eq_true, Bool.not_eq_false, Bool.not_eq_true', Bool.not_eq_false', Bool.not_not, bne_iff_ne, beq_iff_eq] at h2)
      have hj : j = (L.getD k dE).pg.length := by omega
      subst hj
      rw [List.take_length]
      refine r_exit ?_
      refine r_seq ?_
      refine r_region ?_
      refine r_p (p_move rfl) rfl ?_
      refine r_nil ?_
      refine r_cond rfl (fun h16 => ?_) (fun h16 => ?_)
      · have hq3 : pg ∈ (L.getD k dE).pg := of_decide_eq_true h16
        refine r_region ?_
        refine r_p (p_move rfl) rfl ?_
        refine r_p (p_move rfl) rfl ?_
        refine r_p (p_nilCheck rfl) rfl ?_
        refine r_p (p_field0 fo34_3 rfl) rfl ?_
        refine r_p (p_load1 t31 rfl rfl (g_row1R (k := 0) rfl rfl)) rfl ?_
        refine r_p (p_move rfl) rfl ?_
        refine r_p (p_idx_sl (j := k) Try.underlying31 t36 rfl rfl (hs_sl (k := 1) rfl) (by first | rfl | omega) (by first | omega | (simp; done) | (simp; omega))) rfl ?_
        refine r_p (p_field fo36_0 rfl) rfl ?_
        refine r_p (p_load1 t30 rfl rfl (g_elp (hs_sl (k := 1) rfl) (by intro _; rfl) (getD_get dE (by omega)) rfl)) rfl ?_
        refine r_call (xs := [.tmp 48, .tmp 56]) (put_spec v5 _ _ (by omega)) cb57 [100] [] [100] [] rfl rfl rfl rfl rfl rfl rfl rfl (fun _ _ => rfl) (fun _ _ _ => rfl) rfl (fun v57 _ => ?_)
        refine r_p (p_assign rfl) rfl ?_
        refine r_nil ?_
        refine r_region ?_
        refine r_p (p_move rfl) rfl ?_
        refine r_p (p_bin rfl rfl (b_add (by first | exact w_i64 (by omega) (by omega) | rfl))) rfl ?_
        refine r_p (p_assign rfl) rfl ?_
        refine r_nil ?_
        have hon := onL_take pg hk
        rw [if_pos hq3] at hon
        refine r_here (k + 1, _) ⟨by dsimp only; omega, by dsimp only; omega⟩ rfl (by rw [hon]; rfl) rfl
      · have hq3 : ¬ pg ∈ (L.getD k dE).pg := of_decide_eq_false h16
        refine r_skip ?_
        refine r_region ?_
        refine r_p (p_move rfl) rfl ?_
        refine r_p (p_bin rfl rfl (b_add (by first | exact w_i64 (by omega) (by omega) | rfl))) rfl ?_
        refine r_p (p_assign rfl) rfl ?_
        refine r_nil ?_
        have hon := onL_take pg hk
        rw [if_neg hq3] at hon
        refine r_here (k + 1, _) ⟨by dsimp only; omega, by dsimp only; omega⟩ rfl (by rw [hon]; rfl) rfl
  · (try simp only [decide_eq_true_eq, decide_eq_false_iff_not, Bool.and_eq_true, Bool.or_eq_true, Bool.and_eq_false_iff, Bool.or_eq_false_iff, Bool.not_eq_true, Bool.not_eq_false, Bool.not_eq_true', Bool.not_eq_false', Bool.not_not, bne_iff_ne, beq_iff_eq] at h1)
    have hk : k = L.length := by omega
    subst hk
    rw [List.take_length]
    refine r_exit ?_
    refine r_seq ?_
    refine r_region ?_
    refine r_p (p_move rfl) rfl ?_
    refine r_p (p_assign rfl) rfl ?_
    refine r_nil ?_
    refine r_cret ?_
    refine r_ret _ trivial rfl (rs1 (rv_tmp rfl)) rfl [100] [] rfl rfl rfl
set_option maxHeartbeats 1000000 in
set_option maxRecDepth 100000 in
theorem pcs_spec (v u : SV) (l : List Int) (hl : l.length ≤ 1000) :
    Spec Try.prog 37 [sv v, sv u] [] [own 30 1 eU (sv v) l, own 30 1 eU (sv u) l] (X := Unit) (fun _ => True) (fun _ => .bool true) (fun _ => []) (fun _ => []) := by
  refine r_enter Try.func37 rfl Try.ntmps37 rfl fun w0 M H => ?_
  refine r_more 0 0 rfl (fun w G h _ => ⟨G, own_to_sl w G h, fun _ hb => hb⟩) ?_
  refine r_more 1 1 rfl (fun w G h _ => ⟨G, own_to_sl w G h, fun _ hb => hb⟩) ?_
  refine r_seq ?_
  refine r_region ?_
  refine r_p (p_assign rfl) rfl ?_
  refine r_nil ?_
  refine r_seq ?_
  refine r_seq ?_
  refine r_region ?_
  refine r_p (p_move rfl) rfl ?_
  refine r_p (p_len_sl Try.underlying44 rfl (hs_sl (k := 0) rfl)) rfl ?_
  refine r_p (p_move rfl) rfl ?_
  refine r_p (p_len_sl Try.underlying44 rfl (hs_sl (k := 1) rfl)) rfl ?_
  refine r_p (p_bin rfl rfl b_ne) rfl ?_
  refine r_nil ?_
  refine r_cond rfl (fun h1 => ?_) (fun h1 => ?_)
  · exact absurd h1 (by simp)
  · (try simp only [decide_eq_true_eq, decide_eq_false_iff_not, Bool.and_eq_true, Bool.or_eq_true, Bool.and_eq_false_iff, Bool.or_eq_false_iff, Bool.not_eq_true, Bool.not_eq_false, Bool.not_eq_true', Bool.not_eq_false', Bool.not_not, bne_iff_ne, beq_iff_eq] at h1)
    refine r_skip ?_
    refine r_seq ?_
    refine r_seq ?_
    refine r_region ?_
    refine r_p (p_assign rfl) rfl ?_
    refine r_nil ?_
    refine r_block ?_
    refine r_loop (X := Nat) (fun k => k ≤ l.length) (fun k => [(0, sv v), (1, sv u), (5, .int .i64 (k : Int))]) (fun k => []) (fun k => [(0, sl 1 eU (sv v) l), (1, sl 1 eU (sv u) l)]) (fun k => l.length - k) 0 (Nat.zero_le _) rfl rfl rfl (fun k hk0 => ?_)
    refine r_seq ?_
    refine r_seq ?_
    refine r_region ?_
    refine r_p (p_move rfl) rfl ?_
    refine r_p (p_move rfl) rfl ?_
    refine r_p (p_len_sl Try.underlying44 rfl (hs_sl (k := 1) rfl)) rfl ?_
    refine r_p (p_bin rfl rfl b_lt) rfl ?_
    refine r_nil ?_
    refine r_cond rfl (fun h2 => ?_) (fun h2 => ?_)
    · (try simp only [decide_eq_true_eq, decide_eq_false_iff_not, Bool.and_eq_true, Bool.or_eq_true, Bool.and_eq_false_iff, Bool.or_eq_false_iff, Bool.not_eq_true, Bool.not_eq_false, Bool.not_eq_true', Bool.not_eq_false', Bool.not_not, bne_iff_ne, beq_iff_eq] at h2)
      have hk : k < l.length := by omega
      refine r_skip ?_
      refine r_seq ?_
      refine r_block ?_
      refine r_seq ?_
      refine r_draw [17, 18, 19, 20, 21, 22, 23, 24, 25] _ rfl (stg_end (V := [(0, 17, _), (1, 18, _), (2, 19, _), (3, 20, _), (4, 21, _), (5, 22, _), (6, 23, _), (7, 24, _), (8, 25, _)]) [0, 1, 2, 3, 4, 5, 6, 7, 8] rfl rfl (prs_cons (pri rfl (p_move rfl)) (prs_cons (pri rfl (p_move rfl)) (prs_cons (pri rfl (p_idx_sl (j := k) Try.underlying44 t30 rfl rfl (hs_sl (k := 0) rfl) (by first | rfl | omega) (by first | omega | (simp; done) | (simp; omega)))) (prs_cons (pri rfl (p_load1 t30 rfl rfl (g_el' (hs_sl (k := 0) rfl) (by intro _; rfl) (getD_get 0 (by omega)) (by rfl)))) (prs_cons (pri rfl (p_move rfl)) (prs_cons (pri rfl (p_move rfl)) (prs_cons (pri rfl (p_idx_sl (j := k) Try.underlying44 t30 rfl rfl (hs_sl (k := 1) rfl) (by first | rfl | omega) (by first | omega | (simp; done) | (simp; omega)))) (prs_cons (pri rfl (p_load1 t30 rfl rfl (g_el' (hs_sl (k := 1) rfl) (by intro _; rfl) (getD_get 0 (by omega)) (by rfl)))) (prs_cons (pri rfl (p_bin rfl rfl b_ne)) prs_nil))))))))) rfl rfl rfl ?_)
      refine r_cond rfl (fun h3 => ?_) (fun h3 => ?_)
      · exact absurd h3 (by simp)
      · (try simp only [decide_eq_true_eq, decide_eq_false_iff_not, Bool.and_eq_true, Bool.or_eq_true, Bool.and_eq_false_iff, Bool.or_eq_false_iff, Bool.not_eq_true, Bool.not_eq_false, Bool.not_eq_true', Bool.not_eq_false', Bool.not_not, bne_iff_ne, beq_iff_eq] at h3)
        refine r_skip ?_
        refine r_region ?_
        refine r_p (p_move rfl) rfl ?_
        refine r_p (p_bin rfl rfl (b_add (by first | exact w_i64 (by omega) (by omega) | rfl))) rfl ?_
        refine r_p (p_assign rfl) rfl ?_
        refine r_nil ?_
        refine r_here (k + 1) ⟨by omega, by omega⟩ rfl rfl rfl
    · (try simp only [decide_eq_true_eq, decide_eq_false_iff_not, Bool.and_eq_true, Bool.or_eq_true, Bool.and_eq_false_iff, Bool.or_eq_false_iff, Bool.not_eq_true, Bool.not_eq_false, Bool.not_eq_true', Bool.not_eq_false', Bool.not_not, bne_iff_ne, beq_iff_eq] at h2)
      refine r_exit ?_
      refine r_seq ?_
      refine r_region ?_
      refine r_p (p_assign rfl) rfl ?_
      refine r_nil ?_
      refine r_cret ?_
      refine r_ret () trivial rfl (rs1 (rv_tmp rfl)) rfl [] [] rfl rfl rfl

end Go.Proofs.Ytbkonlkffajhkaa
