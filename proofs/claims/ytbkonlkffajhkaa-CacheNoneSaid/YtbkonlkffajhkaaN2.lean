/-
  The blocks on a page, from the cache. Condition: few.
-/
import Derived.Test.YtbkonlkffajhkaaI5
import Derived.Test.YtbkonlkffajhkaaU3
namespace Go.Proofs.Ytbkonlkffajhkaa
set_option linter.unusedSimpArgs false
set_option linter.unusedVariables false
open Go.RowKit

theorem getD0_mem {l : List Int} {k : Nat} (hk : k < l.length) : l.getD k 0 ∈ l := by
  rw [List.getD_eq_getElem?_getD, List.getElem?_eq_getElem hk]
  exact List.getElem_mem hk
theorem no_mem {l : List Int} {a : Int} (h : ∀ i, i < l.length → ¬ a = l.getD i 0) : ¬ a ∈ l := fun hm => by
  obtain ⟨i, hi, e⟩ := List.getElem_of_mem hm
  refine h i hi ?_
  rw [List.getD_eq_getElem?_getD, List.getElem?_eq_getElem hi]
  exact e.symm
theorem pcs_take {l : List En} {k : Nat} (hk : k < l.length) : (l.take (k + 1)).map En.pc = (l.take k).map En.pc ++ [(l.getD k dE).pc] := by
  rw [List.take_succ_eq_append_getElem hk, List.map_append, List.getD_eq_getElem?_getD, List.getElem?_eq_getElem hk]
  rfl

set_option maxHeartbeats 1000000 in
set_option maxRecDepth 100000 in
theorem index_spec (v : SV) (l : List Int) (a : Int) (hl : l.length ≤ 1000) :
    Spec Try.prog 70 [sv v, .int .i64 a] [] [sl 1 eI (sv v) l] (X := Int) (fun i => 0 ≤ i ↔ a ∈ l) (fun i => .int .i64 i) (fun _ => []) (fun _ => []) := by
  refine r_enter Try.func70 rfl Try.ntmps70 rfl fun w0 M H => ?_
  refine r_seq ?_
  refine r_region ?_
  refine r_p (p_assign rfl) rfl ?_
  refine r_nil ?_
  refine r_seq ?_
  refine r_seq ?_
  refine r_region ?_
  refine r_p (p_move rfl) rfl ?_
  refine r_p (p_len_sl Try.underlying23 rfl (hs_sl (k := 0) rfl)) rfl ?_
  refine r_p (p_move rfl) rfl ?_
  refine r_nil ?_
  refine r_block ?_
  refine r_loop (X := Nat) (fun k => k ≤ l.length ∧ ∀ i, i < k → ¬ a = l.getD i 0) (fun k => [(0, sv v), (1, .int .i64 a), (7, .int .i64 (l.length : Int)), (8, .int .i64 (k : Int))]) (fun k => []) (fun k => [(0, sl 1 eI (sv v) l)]) (fun k => l.length - k) 0 ⟨Nat.zero_le _, fun i hi => by omega⟩ rfl rfl rfl (fun k hk0 => ?_)
  obtain ⟨hk0, hno⟩ := hk0
  refine r_seq ?_
  refine r_region ?_
  refine r_p (p_bin rfl rfl b_lt) rfl ?_
  refine r_nil ?_
  refine r_seq ?_
  refine r_cond rfl (fun h1 => ?_) (fun h1 => ?_)
  · (try simp only [decide_eq_true_eq, decide_eq_false_iff_not, Bool.and_eq_true, Bool.or_eq_true, Bool.and_eq_false_iff, Bool.or_eq_false_iff, Bool.not_eq_true, Bool.not_eq_false, Bool.not_eq_true', Bool.not_eq_false', Bool.not_not, bne_iff_ne, beq_iff_eq] at h1)
    have hk : k < l.length := by omega
    refine r_skip ?_
    refine r_seq ?_
    refine r_block ?_
    refine r_seq ?_
    refine r_region ?_
    refine r_p (p_move rfl) rfl ?_
    refine r_p (p_assign rfl) rfl ?_
    refine r_nil ?_
    refine r_seq ?_
    refine r_region ?_
    refine r_p (p_move rfl) rfl ?_
    refine r_p (p_move rfl) rfl ?_
    refine r_p (p_move rfl) rfl ?_
    refine r_p (p_idx_sl (j := k) Try.underlying23 t3 rfl rfl (hs_sl (k := 0) rfl) (by first | rfl | omega) (by first | omega | (simp; done) | (simp; omega))) rfl ?_
    refine r_p (p_load1 t3 rfl rfl (g_el' (hs_sl (k := 0) rfl) (by intro _; rfl) (getD_get 0 (by omega)) (by rfl))) rfl ?_
    refine r_p (p_bin rfl rfl b_eq) rfl ?_
    refine r_nil ?_
    refine r_cond rfl (fun h2 => ?_) (fun h2 => ?_)
    · (try simp only [decide_eq_true_eq, decide_eq_false_iff_not, Bool.and_eq_true, Bool.or_eq_true, Bool.and_eq_false_iff, Bool.or_eq_false_iff, Bool.not_eq_true, Bool.not_eq_false, Bool.not_eq_true', Bool.not_eq_false', Bool.not_not, bne_iff_ne, beq_iff_eq] at h2)
      have heq := h2
      refine r_seq ?_
      refine r_region ?_
      refine r_p (p_move rfl) rfl ?_
      refine r_p (p_assign rfl) rfl ?_
      refine r_nil ?_
      refine r_cret ?_
      refine r_ret (k : Int) ⟨fun _ => by rw [heq]; exact getD0_mem hk, fun _ => by omega⟩ rfl (rs1 (rv_tmp rfl)) rfl [] [] rfl rfl rfl
    · (try simp only [decide_eq_true_eq, decide_eq_false_iff_not, Bool.and_eq_true, Bool.or_eq_true, Bool.and_eq_false_iff, Bool.or_eq_false_iff, Bool.not_eq_true, Bool.not_eq_false, Bool.not_eq_true', Bool.not_eq_false', Bool.not_not, bne_iff_ne, beq_iff_eq] at h2)
      have hne := h2
      refine r_skip ?_
      refine r_region ?_
      refine r_p (p_bin rfl rfl (b_add (by first | exact w_i64 (by omega) (by omega) | rfl))) rfl ?_
      refine r_p (p_move rfl) rfl ?_
      refine r_nil ?_
      refine r_here (k + 1) ⟨⟨by omega, fun i hi => by rcases Nat.lt_succ_iff_lt_or_eq.1 hi with h | h; exact hno i h; rw [h]; exact hne⟩, by omega⟩ rfl rfl rfl
  · (try simp only [decide_eq_true_eq, decide_eq_false_iff_not, Bool.and_eq_true, Bool.or_eq_true, Bool.and_eq_false_iff, Bool.or_eq_false_iff, Bool.not_eq_true, Bool.not_eq_false, Bool.not_eq_true', Bool.not_eq_false', Bool.not_not, bne_iff_ne, beq_iff_eq] at h1)
    have hk : k = l.length := by omega
    subst hk
    refine r_exit ?_
    refine r_seq ?_
    refine r_region ?_
    refine r_p (p_assign rfl) rfl ?_
    refine r_nil ?_
    refine r_cret ?_
    refine r_ret (-1) ⟨fun h => by omega, fun h => absurd h (no_mem hno)⟩ rfl (rs1 (rv_tmp rfl)) rfl [] [] rfl rfl rfl
set_option maxHeartbeats 1000000 in
set_option maxRecDepth 100000 in
theorem contains_spec (v : SV) (l : List Int) (a : Int) (hl : l.length ≤ 1000) :
    Spec Try.prog 55 [sv v, .int .i64 a] [] [sl 1 eI (sv v) l] (X := Unit) (fun _ => True) (fun _ => .bool (decide (a ∈ l))) (fun _ => []) (fun _ => []) := by
  refine r_enter Try.func55 rfl Try.ntmps55 rfl fun w0 M H => ?_
  refine r_seq ?_
  refine r_region ?_
  refine r_p (p_assign rfl) rfl ?_
  refine r_nil ?_
  refine r_seq ?_
  refine r_region ?_
  refine r_p (p_move rfl) rfl ?_
  refine r_p (p_move rfl) rfl ?_
  refine r_call (xs := [.tmp 5, .tmp 6]) (index_spec v l a hl) cb70 [] [(false, 0)] [] [] rfl rfl rfl rfl rfl rfl rfl rfl (fun _ _ => rfl) (fun _ _ _ => rfl) rfl (fun i hi => ?_)
  refine r_p (p_bin rfl rfl b_ge) rfl ?_
  refine r_p (p_assign rfl) rfl ?_
  refine r_nil ?_
  refine r_cret ?_
  refine r_ret () trivial rfl (rs1 (rv_tmp rfl)) (congrArg Value.bool (decide_eq_decide.2 hi)) [] [] rfl rfl rfl
set_option maxHeartbeats 1000000 in
set_option maxRecDepth 100000 in
theorem on1_spec (A0 A3 : Asn) (b : Nat) (pg : Int) (x : En) (S : List En) (hx : x ∈ S) (hl : x.pg.length ≤ 4) :
    Spec Try.prog 54 [veEnt x, .pointer (some ⟨b, 0, none⟩)] [] [A0, row b 3 [.int .i64 pg], pgP S, A3] (X := Unit) (fun _ => True) (fun _ => .bool (decide (pg ∈ x.pg))) (fun _ => []) (fun _ => []) := by
  refine r_enter Try.func54 rfl Try.ntmps54 rfl fun w0 M H => ?_
  refine r_pgsl 2 9 x rfl hx ?_
  refine r_seq ?_
  refine r_region ?_
  refine r_boxA rfl rfl fun b2 => ?_
  refine r_p (p_assign rfl) rfl ?_
  refine r_nil ?_
  refine r_seq ?_
  refine r_region ?_
  refine r_p (p_field0 fo54_2 rfl) rfl ?_
  refine r_p (p_field fo47_1 rfl) rfl ?_
  refine r_p (p_load1 t23 rfl rfl (g_row1 (k := 2) rfl rfl)) rfl ?_
  refine r_p (p_load1 t3 rfl rfl (g_row1R (k := 1) rfl rfl)) rfl ?_
  refine r_call (xs := [.tmp 6, .tmp 7]) (contains_spec x.pages x.pg pg (by omega)) cb55 [] [(false, 9)] [] [] rfl rfl rfl rfl rfl rfl rfl rfl (fun _ _ => rfl) (fun _ _ _ => rfl) rfl (fun _ _ => ?_)
  refine r_p (p_assign rfl) rfl ?_
  refine r_nil ?_
  refine r_cret ?_
  refine r_ret () trivial rfl (rs1 (rv_tmp rfl)) rfl [] [] rfl rfl rfl
set_option maxHeartbeats 1000000 in
set_option maxHeartbeats 1000000 in
set_option maxRecDepth 100000 in
theorem on_spec (C : Nat) (base size cur : Int) (ob ol : Option Nat) (L S : List En) (pg : Int) (hL : L.Pairwise fun x y => offW base x < offW base y) (hlen : L.length ≤ 12) (hS : ∀ x ∈ L, SameOk x ∧ x ∈ S) :
    Spec Try.prog 38 [.pointer (some ⟨C, 0, none⟩), .int .i64 pg] [] [row C 84 (cC base size cur ob ol), mpB ob L, pgP S] (X := SV × List Int) (fun x => x.2.Perm ((L.filter fun x => decide (pg ∈ x.pg)).map En.pc) ∧ Srt 0 (fun x y : Int => x ≤ y) x.2 0 x.2.length) (fun x => sv x.1) (fun x => [own 30 1 eU (sv x.1) x.2]) (fun _ => []) := by
  refine r_enter Try.func38 rfl Try.ntmps38 rfl fun w0 M H => ?_
  refine r_nilown 100 (S := 30) (s := 1) (enc := eU) ?_
  have hlf : (L.filter fun x => decide (pg ∈ x.pg)).length ≤ 12 := Nat.le_trans (List.length_filter_le _ _) hlen
  refine r_seq ?_
  refine r_region ?_
  refine r_box1 rfl rfl rfl fun b3 => ?_
  refine r_p (p_assign rfl) rfl ?_
  refine r_nil ?_
  refine r_seq ?_
  refine r_region ?_
  refine r_p (p_assign rfl) rfl ?_
  refine r_nil ?_
  refine r_seq ?_
  refine r_seq ?_
  refine r_region ?_
  refine r_p (p_move rfl) rfl ?_
  refine r_p (p_makeFunc (first := []) (cap := [.tmp 3]) rfl rfl) rfl ?_
  refine r_call (xs := [.tmp 8, .tmp 9]) (pick_spec C base size cur ob ol 54 [.pointer (some ⟨b3, 0, none⟩)] (row b3 3 [.int .i64 pg]) (pgP S) (row C 84 (cC base size cur ob ol)) (fun x => decide (pg ∈ x.pg)) L cb54 (fun x hx => on1_spec (row C 84 (cC base size cur ob ol)) (row C 84 (cC base size cur ob ol)) b3 pg x S (hS x hx).2 (hS x hx).1.2.2.2.2) hL (by omega)) cb42 [] [(false, 0), (false, 1), (true, 3), (false, 2), (false, 0)] [10] [] rfl rfl rfl rfl rfl rfl rfl rfl (fun _ _ => rfl) (fun _ _ _ => rfl) rfl (fun v10 _ => ?_)
  refine r_p (p_len_sl Try.underlying39 rfl (hs_own (k := 10) rfl)) rfl ?_
  refine r_p (p_move rfl) rfl ?_
  refine r_nil ?_
  refine r_block ?_
  refine r_loop (X := Nat × SV) (fun y => y.1 ≤ (L.filter fun x => decide (pg ∈ x.pg)).length) (fun y => [(5, sv y.2), (10, sv v10), (11, .int .i64 ((L.filter fun x => decide (pg ∈ x.pg)).length : Int)), (12, .int .i64 (y.1 : Int))]) (fun y => [(100, own 30 1 eU (sv y.2) (((L.filter fun x => decide (pg ∈ x.pg)).take y.1).map En.pc)), (10, own 54 36 eEnt (sv v10) (L.filter fun x => decide (pg ∈ x.pg)))]) (fun y => []) (fun y => (L.filter fun x => decide (pg ∈ x.pg)).length - y.1) (0, nilS) (Nat.zero_le _) rfl rfl rfl (fun ⟨k, v5⟩ hk0 => ?_)
  dsimp only at hk0 ⊢
  have hll : (((L.filter fun x => decide (pg ∈ x.pg)).take k).map En.pc).length ≤ k := by rw [List.length_map]; exact List.length_take_le _ _
  refine r_seq ?_
  refine r_region ?_
  refine r_p (p_bin rfl rfl b_lt) rfl ?_
  refine r_nil ?_
  refine r_seq ?_
  refine r_cond rfl (fun h1 => ?_) (fun h1 => ?_)
  · (try simp only [decide_eq_true_eq, decide_eq_false_iff_not, Bool.and_eq_true, Bool.or_eq_true, Bool.and_eq_false_iff, Bool.or_eq_false_iff, Bool.not_eq_true, Bool.not_eq_false, Bool.not_eq_true', Bool.not_eq_false', Bool.not_not, bne_iff_ne, beq_iff_eq] at h1)
    have hk : k < (L.filter fun x => decide (pg ∈ x.pg)).length := by omega
    refine r_skip ?_
    refine r_seq ?_
    refine r_block ?_
    refine r_seq ?_
    refine r_region ?_
    refine r_p (p_idx_sl (j := k) Try.underlying39 t54 rfl rfl (hs_own (k := 10) rfl) (by first | rfl | omega) (by first | omega | (simp; done) | (simp; omega))) rfl ?_
    refine r_p (p_loadA t54 rfl rfl rfl (g_el' (hs_own (k := 10) rfl) (by intro _; rfl) (getD_get dE (by omega)) (by rfl))) rfl ?_
    refine r_alloc t54 rfl rfl fun b7 => ?_
    refine r_store_all (k := 7) t54 rfl rfl rfl rfl rfl rfl ?_
    refine r_nil ?_
    refine r_region ?_
    refine r_p (p_move rfl) rfl ?_
    refine r_p (p_field0 fo54_0 rfl) rfl ?_
    refine r_p (p_load1 t30 rfl rfl (g_row1 (k := 7) rfl rfl)) rfl ?_
    refine r_bslice1 eU ((L.filter fun x => decide (pg ∈ x.pg)).getD k dE).pc Try.underlying44 t30 rfl (by decide) (by decide) rfl rfl rfl rfl fun v19 => ?_
    refine r_append 100 Try.underlying44 t30 rfl (by decide) (fun _ => rfl) (fun _ => rfl) rfl rfl rfl (hs_own (k := 19) rfl) (by first | omega | (simp; done) | (simp; omega)) (by unfold maxLen; first | omega | (simp; done) | (simp; omega)) rfl fun v20 => ?_
    refine r_p (p_assign rfl) rfl ?_
    refine r_nil ?_
    refine r_region ?_
    refine r_p (p_bin rfl rfl (b_add (by first | exact w_i64 (by omega) (by omega) | rfl))) rfl ?_
    refine r_p (p_move rfl) rfl ?_
    refine r_nil ?_
    refine r_here (k + 1, _) ⟨by dsimp only; omega, by dsimp only; omega⟩ rfl (by rw [pcs_take hk]; rfl) rfl
  · (try simp only [decide_eq_true_eq, decide_eq_false_iff_not, Bool.and_eq_true, Bool.or_eq_true, Bool.and_eq_false_iff, Bool.or_eq_false_iff, Bool.not_eq_true, Bool.not_eq_false, Bool.not_eq_true', Bool.not_eq_false', Bool.not_not, bne_iff_ne, beq_iff_eq] at h1)
    have hk : k = (L.filter fun x => decide (pg ∈ x.pg)).length := by omega
    subst hk
    rw [List.take_length]
    refine r_exit ?_
    refine r_seq ?_
    refine r_region ?_
    refine r_p (p_move rfl) rfl ?_
    refine r_call (xs := [.tmp 22]) (sort_small v5 _ (by rw [List.length_map]; exact hlf)) cb56 [100] [] [100] [] rfl rfl rfl rfl rfl rfl rfl rfl (fun _ _ => rfl) (fun _ _ _ => rfl) rfl (fun ys hys => ?_)
    refine r_nil ?_
    refine r_seq ?_
    refine r_region ?_
    refine r_p (p_move rfl) rfl ?_
    refine r_p (p_assign rfl) rfl ?_
    refine r_nil ?_
    refine r_cret ?_
    refine r_ret (v5, ys) hys rfl (rs1 (rv_tmp rfl)) rfl [100] [] rfl rfl rfl

end Go.Proofs.Ytbkonlkffajhkaa
