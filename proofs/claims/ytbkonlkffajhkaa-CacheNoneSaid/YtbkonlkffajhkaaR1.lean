/-
  The reference model: what it reads. Conditions: numbers are below 2^32.
-/
import Derived.Test.YtbkonlkffajhkaaQ8
namespace Go.Proofs.Ytbkonlkffajhkaa
set_option linter.unusedSimpArgs false
set_option linter.unusedVariables false
open Go.RowKit

theorem tmod_range {n m : Int} (hm : 0 < m) : -m < n.tmod m ∧ n.tmod m < m := by
  rcases Int.lt_or_le n 0 with h | h
  · have e : n.tmod m = -((-n).tmod m) := by
      have := Int.neg_tmod (-n) m
      rw [Int.neg_neg] at this
      exact this
    rw [e, Int.tmod_eq_emod_of_nonneg (by omega)]
    have h1 := Int.emod_nonneg (-n) (show m ≠ 0 by omega)
    have h2 := Int.emod_lt_of_pos (-n) hm
    omega
  · rw [Int.tmod_eq_emod_of_nonneg h]
    have h1 := Int.emod_nonneg n (show m ≠ 0 by omega)
    have h2 := Int.emod_lt_of_pos n hm
    omega
theorem mod_eq {n m : Int} (hm : 0 < m) : (n.tmod m + m).tmod m = n % m := by
  have hr := tmod_range (n := n) hm
  rw [Int.tmod_eq_emod_of_nonneg (by omega)]
  rcases Int.lt_or_le n 0 with h | h
  · have e : n.tmod m = -((-n) % m) := by
      have := Int.neg_tmod (-n) m
      rw [Int.neg_neg] at this
      rw [this, Int.tmod_eq_emod_of_nonneg (by omega)]
    rw [e, Int.add_emod_right]
    have h1 := Int.mul_ediv_add_emod (-n) m
    have : -((-n) % m) = n + m * ((-n) / m) := by omega
    rw [this, Int.add_mul_emod_self_left]
  · rw [Int.tmod_eq_emod_of_nonneg h, Int.add_emod_right, Int.emod_emod]

set_option maxRecDepth 100000 in
theorem mod_spec (n m : Int) (hm : 0 < m) (hm2 : m ≤ 1000000) :
    Spec Try.prog 17 [.int .i64 n, .int .i64 m] [] [] (X := Unit) (fun _ => True) (fun _ => .int .i64 (n % m)) (fun _ => []) (fun _ => []) := by
  refine r_enter Try.func17 rfl Try.ntmps17 rfl fun w0 M H => ?_
  have htr := tmod_range (n := n) hm
  refine r_seq ?_
  refine r_region ?_
  refine r_p (p_assign rfl) rfl ?_
  refine r_nil ?_
  refine r_seq ?_
  refine r_region ?_
  refine r_p (p_move rfl) rfl ?_
  refine r_p (p_move rfl) rfl ?_
  refine r_p (p_bin rfl rfl (b_rem (by omega) rfl)) rfl ?_
  refine r_p (p_move rfl) rfl ?_
  refine r_p (p_bin rfl rfl (b_add (by first | exact w_i64 (by omega) (by omega) | rfl))) rfl ?_
  refine r_p (p_move rfl) rfl ?_
  refine r_p (p_bin rfl rfl (b_rem (by omega) (mod_eq hm))) rfl ?_
  refine r_p (p_assign rfl) rfl ?_
  refine r_nil ?_
  refine r_cret ?_
  refine r_ret () trivial rfl (rs1 (rv_tmp rfl)) rfl [] [] rfl rfl rfl
set_option maxRecDepth 100000 in
theorem among_spec (a : Int) (v : SV) (G : List Int) (hgl : G.length ≤ 1000) :
    Spec Try.prog 69 [.int .u32 a, sv v] [] [sl 1 eW (sv v) G] (X := Unit) (fun _ => True) (fun _ => .bool (decide (a ∈ G))) (fun _ => []) (fun _ => []) := by
  refine r_enter Try.func69 rfl Try.ntmps69 rfl fun w0 M H => ?_
  refine r_seq ?_
  refine r_region ?_
  refine r_p (p_assign rfl) rfl ?_
  refine r_nil ?_
  refine r_seq ?_
  refine r_seq ?_
  refine r_region ?_
  refine r_p (p_assign rfl) rfl ?_
  refine r_nil ?_
  refine r_block ?_
  refine r_loop (X := Nat) (fun k => k ≤ G.length ∧ ∀ i, i < k → G.getD i 0 ≠ a) (fun k => [(0, .int .u32 a), (1, sv v), (5, .int .i64 (k : Int))]) (fun k => []) (fun k => [(0, sl 1 eW (sv v) G)]) (fun k => G.length - k) 0 ⟨Nat.zero_le _, fun i hi => by omega⟩ rfl rfl rfl (fun k hk0 => ?_)
  obtain ⟨hk0, hno⟩ := hk0
  refine r_seq ?_
  refine r_seq ?_
  refine r_region ?_
  refine r_p (p_move rfl) rfl ?_
  refine r_p (p_move rfl) rfl ?_
  refine r_p (p_len_sl Try.underlying44 rfl (hs_sl (k := 0) rfl)) rfl ?_
  refine r_p (p_bin rfl rfl b_lt) rfl ?_
  refine r_nil ?_
  refine r_cond rfl (fun h1 => ?_) (fun h1 => ?_)
  · (try simp only [decide_eq_true_eq, decide_eq_false_iff_not, Bool.and_eq_true, Bool.or_eq_true, Bool.and_eq_false_iff, Bool.or_eq_false_iff, Bool.not_eq_true, Bool.not_eq_false, Bool.not_eq_true', Bool.not_eq_false', Bool.not_not, bne_iff_ne, beq_iff_eq] at h1)
    have hk : k < G.length := by omega
    refine r_skip ?_
    refine r_seq ?_
    refine r_block ?_
    refine r_seq ?_
    refine r_region ?_
    refine r_p (p_move rfl) rfl ?_
    refine r_p (p_move rfl) rfl ?_
    refine r_p (p_idx_sl (j := k) Try.underlying44 t30 rfl rfl (hs_sl (k := 0) rfl) (by first | rfl | omega) (by first | omega | (simp; done) | (simp; omega))) rfl ?_
    refine r_p (p_load1 t30 rfl rfl (g_el' (hs_sl (k := 0) rfl) (by intro _; rfl) (getD_get 0 (by omega)) (by rfl))) rfl ?_
    refine r_p (p_move rfl) rfl ?_
    refine r_p (p_bin rfl rfl b_eq) rfl ?_
    refine r_nil ?_
    refine r_cond rfl (fun h2 => ?_) (fun h2 => ?_)
    · (try simp only [decide_eq_true_eq, decide_eq_false_iff_not, Bool.and_eq_true, Bool.or_eq_true, Bool.and_eq_false_iff, Bool.or_eq_false_iff, Bool.not_eq_true, Bool.not_eq_false, Bool.not_eq_true', Bool.not_eq_false', Bool.not_not, bne_iff_ne, beq_iff_eq] at h2)
      have hm : a ∈ G := by
        rw [← h2, List.getD_eq_getElem?_getD, List.getElem?_eq_getElem hk]
        exact List.getElem_mem hk
      refine r_seq ?_
      refine r_region ?_
      refine r_p (p_assign rfl) rfl ?_
      refine r_nil ?_
      refine r_cret ?_
      refine r_ret () trivial rfl (rs1 (rv_tmp rfl)) (by simp [hm]) [] [] rfl rfl rfl
    · (try simp only [decide_eq_true_eq, decide_eq_false_iff_not, Bool.and_eq_true, Bool.or_eq_true, Bool.and_eq_false_iff, Bool.or_eq_false_iff, Bool.not_eq_true, Bool.not_eq_false, Bool.not_eq_true', Bool.not_eq_false', Bool.not_not, bne_iff_ne, beq_iff_eq] at h2)
      have hne : G.getD k 0 ≠ a := h2
      refine r_skip ?_
      refine r_region ?_
      refine r_p (p_move rfl) rfl ?_
      refine r_p (p_bin rfl rfl (b_add (by first | exact w_i64 (by omega) (by omega) | rfl))) rfl ?_
      refine r_p (p_assign rfl) rfl ?_
      refine r_nil ?_
      refine r_here (k + 1) ⟨⟨by omega, fun i hi => by
        rcases Nat.lt_or_eq_of_le (Nat.le_of_lt_succ hi) with h | h
        · exact hno i h
        · subst h; exact hne⟩, by omega⟩ rfl rfl rfl
  · (try simp only [decide_eq_true_eq, decide_eq_false_iff_not, Bool.and_eq_true, Bool.or_eq_true, Bool.and_eq_false_iff, Bool.or_eq_false_iff, Bool.not_eq_true, Bool.not_eq_false, Bool.not_eq_true', Bool.not_eq_false', Bool.not_not, bne_iff_ne, beq_iff_eq] at h1)
    have hk : k = G.length := by omega
    subst hk
    have hm : ¬ a ∈ G := fun hm => by
      obtain ⟨i, hi, e⟩ := List.getElem_of_mem hm
      refine hno i hi ?_
      rw [List.getD_eq_getElem?_getD, List.getElem?_eq_getElem hi]
      exact e
    refine r_exit ?_
    refine r_seq ?_
    refine r_region ?_
    refine r_p (p_assign rfl) rfl ?_
    refine r_nil ?_
    refine r_cret ?_
    refine r_ret () trivial rfl (rs1 (rv_tmp rfl)) (by simp [hm]) [] [] rfl rfl rfl
def isAt (x : En) (i : Int) (L : List En) (p : En → Prop) : Prop := True
/-- The place of the first block with a property, or -1. -/
def Place (L : List En) (p : En → Prop) (i : Int) : Prop := (i = -1 ∧ ∀ x ∈ L, ¬ p x) ∨ ∃ j : Nat, j < L.length ∧ i = j ∧ p (L.getD j dE) ∧ ∀ q, q < j → ¬ p (L.getD q dE)
theorem none_of {L : List En} {p : En → Prop} (h : ∀ i, i < L.length → ¬ p (L.getD i dE)) : ∀ x ∈ L, ¬ p x := fun x hx => by
  obtain ⟨i, hi, e⟩ := List.getElem_of_mem hx
  have := h i hi
  rw [List.getD_eq_getElem?_getD, List.getElem?_eq_getElem hi] at this
  rw [← e]
  exact this

set_option maxRecDepth 100000 in
theorem rfind_spec (r : Nat) (base size cur : Int) (vL vC : SV) (L : List En) (pc : Int) (hlen : L.length < 40) :
    Spec Try.prog 28 [.pointer (some ⟨r, 0, none⟩), .int .u32 pc] [] [row r 34 (cR base size cur vL vC), own 36 5 eR (sv vL) L] (X := Int) (fun i => Place L (fun x => x.pc = pc) i) (fun i => .int .i64 i) (fun _ => []) (fun _ => []) := by
  refine r_enter Try.func28 rfl Try.ntmps28 rfl fun w0 M H => ?_
  refine r_more 1 1 rfl (fun w G h _ => ⟨G, own_to_sl w G h, fun _ hb => hb⟩) ?_
  refine r_seq ?_
  refine r_region ?_
  refine r_p (p_assign rfl) rfl ?_
  refine r_nil ?_
  refine r_seq ?_
  refine r_seq ?_
  refine r_region ?_
  refine r_p (p_assign rfl) rfl ?_
  refine r_nil ?_
  refine r_block ?_
  refine r_loop (X := Nat) (fun k => k ≤ L.length ∧ ∀ i, i < k → ¬ (L.getD i dE).pc = pc) (fun k => [(0, .pointer (some ⟨r, 0, none⟩)), (1, .int .u32 pc), (5, .int .i64 (k : Int))]) (fun k => []) (fun k => [(0, row r 34 (cR base size cur vL vC)), (1, sl 5 eR (sv vL) L)]) (fun k => L.length - k) 0 ⟨Nat.zero_le _, fun i hi => by omega⟩ rfl rfl rfl (fun k hk0 => ?_)
  obtain ⟨hk0, hno⟩ := hk0
  refine r_seq ?_
  refine r_seq ?_
  refine r_region ?_
  refine r_p (p_move rfl) rfl ?_
  refine r_p (p_move rfl) rfl ?_
  refine r_p (p_nilCheck rfl) rfl ?_
  refine r_p (p_field0 fo34_3 rfl) rfl ?_
  refine r_p (p_load1 t31 rfl rfl (g_row1R (k := 0) rfl rfl)) rfl ?_
  refine r_p (p_len_sl Try.underlying31 rfl (hs_sl (k := 1) rfl)) rfl ?_
  refine r_p (p_bin rfl rfl b_lt) rfl ?_
  refine r_nil ?_
  refine r_cond rfl (fun h1 => ?_) (fun h1 => ?_)
  · (try simp only [decide_eq_true_eq, decide_eq_false_iff_not, Bool.and_eq_true, Bool.or_eq_true, Bool.and_eq_false_iff, Bool.or_eq_false_iff, Bool.not_eq_true, Bool.not_eq_false, Bool.not_eq_true', Bool.not_eq_false', Bool.not_not, bne_iff_ne, beq_iff_eq] at h1)
    have hk : k < L.length := by omega
    refine r_skip ?_
    refine r_seq ?_
    refine r_block ?_
    refine r_seq ?_
    refine r_region ?_
    refine r_p (p_move rfl) rfl ?_
    refine r_p (p_nilCheck rfl) rfl ?_
    refine r_p (p_field0 fo34_3 rfl) rfl ?_
    refine r_p (p_load1 t31 rfl rfl (g_row1R (k := 0) rfl rfl)) rfl ?_
    refine r_p (p_move rfl) rfl ?_
    refine r_p (p_idx_sl (j := k) Try.underlying31 t36 rfl rfl (hs_sl (k := 1) rfl) (by first | rfl | omega) (by first | omega | (simp; done) | (simp; omega))) rfl ?_
    refine r_p (p_field fo36_0 rfl) rfl ?_
    refine r_p (p_load1 t30 rfl rfl (g_elp (hs_sl (k := 1) rfl) (by intro _; rfl) (getD_get dE (by omega)) rfl)) rfl ?_
    refine r_p (p_move rfl) rfl ?_
    refine r_p (p_bin rfl rfl b_eq) rfl ?_
    refine r_nil ?_
    refine r_cond rfl (fun h2 => ?_) (fun h2 => ?_)
    · (try simp only [decide_eq_true_eq, decide_eq_false_iff_not, Bool.and_eq_true, Bool.or_eq_true, Bool.and_eq_false_iff, Bool.or_eq_false_iff, Bool.not_eq_true, Bool.not_eq_false, Bool.not_eq_true', Bool.not_eq_false', Bool.not_not, bne_iff_ne, beq_iff_eq] at h2)
      have hyes : (L.getD k dE).pc = pc := h2
      refine r_seq ?_
      refine r_region ?_
      refine r_p (p_move rfl) rfl ?_
      refine r_p (p_assign rfl) rfl ?_
      refine r_nil ?_
      refine r_cret ?_
      refine r_ret _ (.inr ⟨k, hk, rfl, hyes, hno⟩) rfl (rs1 (rv_tmp rfl)) rfl [] [] rfl rfl rfl
    · (try simp only [decide_eq_true_eq, decide_eq_false_iff_not, Bool.and_eq_true, Bool.or_eq_true, Bool.and_eq_false_iff, Bool.or_eq_false_iff, Bool.not_eq_true, Bool.not_eq_false, Bool.not_eq_true', Bool.not_eq_false', Bool.not_not, bne_iff_ne, beq_iff_eq] at h2)
      have hne : ¬ (L.getD k dE).pc = pc := h2
      refine r_skip ?_
      refine r_region ?_
      refine r_p (p_move rfl) rfl ?_
      refine r_p (p_bin rfl rfl (b_add (by first | exact w_i64 (by omega) (by omega) | rfl))) rfl ?_
      refine r_p (p_assign rfl) rfl ?_
      refine r_nil ?_
      refine r_here (k + 1) ⟨⟨by omega, fun i hi => by
        rcases Nat.lt_or_eq_of_le (Nat.le_of_lt_succ hi) with h | h
        · exact hno i h
        · subst h; exact hne⟩, by omega⟩ rfl rfl rfl
  · (try simp only [decide_eq_true_eq, decide_eq_false_iff_not, Bool.and_eq_true, Bool.or_eq_true, Bool.and_eq_false_iff, Bool.or_eq_false_iff, Bool.not_eq_true, Bool.not_eq_false, Bool.not_eq_true', Bool.not_eq_false', Bool.not_not, bne_iff_ne, beq_iff_eq] at h1)
    have hk : k = L.length := by omega
    subst hk
    refine r_exit ?_
    refine r_seq ?_
    refine r_region ?_
    refine r_p (p_assign rfl) rfl ?_
    refine r_nil ?_
    refine r_cret ?_
    refine r_ret (-1) (.inl ⟨rfl, none_of hno⟩) rfl (rs1 (rv_tmp rfl)) rfl [] [] rfl rfl rfl
set_option maxRecDepth 100000 in
theorem rat_spec (r : Nat) (base size cur : Int) (vL vC : SV) (L : List En) (a : Int) (hlen : L.length < 40) (ha : 0 ≤ a ∧ a < 4294967296) (hb : ∀ x ∈ L, 0 ≤ x.base ∧ x.base < 4294967296) :
    Spec Try.prog 30 [.pointer (some ⟨r, 0, none⟩), .int .u32 a] [] [row r 34 (cR base size cur vL vC), own 36 5 eR (sv vL) L] (X := Int) (fun i => Place L (fun x => x.base ≤ a ∧ a - x.base < x.bytes.size) i) (fun i => .int .i64 i) (fun _ => []) (fun _ => []) := by
  refine r_enter Try.func30 rfl Try.ntmps30 rfl fun w0 M H => ?_
  refine r_more 1 1 rfl (fun w G h _ => ⟨G, own_to_sl w G h, fun _ hb => hb⟩) ?_
  refine r_seq ?_
  refine r_region ?_
  refine r_p (p_assign rfl) rfl ?_
  refine r_nil ?_
  refine r_seq ?_
  refine r_seq ?_
  refine r_region ?_
  refine r_p (p_assign rfl) rfl ?_
  refine r_nil ?_
  refine r_block ?_
  refine r_loop (X := Nat) (fun k => k ≤ L.length ∧ ∀ i, i < k → ¬ ((L.getD i dE).base ≤ a ∧ a - (L.getD i dE).base < (L.getD i dE).bytes.size)) (fun k => [(0, .pointer (some ⟨r, 0, none⟩)), (1, .int .u32 a), (5, .int .i64 (k : Int))]) (fun k => []) (fun k => [(0, row r 34 (cR base size cur vL vC)), (1, sl 5 eR (sv vL) L)]) (fun k => L.length - k) 0 ⟨Nat.zero_le _, fun i hi => by omega⟩ rfl rfl rfl (fun k hk0 => ?_)
  obtain ⟨hk0, hno⟩ := hk0
  refine r_seq ?_
  refine r_seq ?_
  refine r_region ?_
  refine r_p (p_move rfl) rfl ?_
  refine r_p (p_move rfl) rfl ?_
  refine r_p (p_nilCheck rfl) rfl ?_
  refine r_p (p_field0 fo34_3 rfl) rfl ?_
  refine r_p (p_load1 t31 rfl rfl (g_row1R (k := 0) rfl rfl)) rfl ?_
  refine r_p (p_len_sl Try.underlying31 rfl (hs_sl (k := 1) rfl)) rfl ?_
  refine r_p (p_bin rfl rfl b_lt) rfl ?_
  refine r_nil ?_
  refine r_cond rfl (fun h1 => ?_) (fun h1 => ?_)
  · (try simp only [decide_eq_true_eq, decide_eq_false_iff_not, Bool.and_eq_true, Bool.or_eq_true, Bool.and_eq_false_iff, Bool.or_eq_false_iff, Bool.not_eq_true, Bool.not_eq_false, Bool.not_eq_true', Bool.not_eq_false', Bool.not_not, bne_iff_ne, beq_iff_eq] at h1)
    have hk : k < L.length := by omega
    have hbk := hb (L.getD k dE) (by rw [List.getD_eq_getElem?_getD, List.getElem?_eq_getElem hk]; exact List.getElem_mem hk)
    refine r_skip ?_
    refine r_seq ?_
    refine r_block ?_
    refine r_seq ?_
    refine r_region ?_
    refine r_p (p_move rfl) rfl ?_
    refine r_p (p_conv Try.underlying30 Try.underlying3 rfl (by first | exact w_i64 (by omega) (by omega) | rfl)) rfl ?_
    refine r_p (p_move rfl) rfl ?_
    refine r_p (p_nilCheck rfl) rfl ?_
    refine r_p (p_field0 fo34_3 rfl) rfl ?_
    refine r_p (p_load1 t31 rfl rfl (g_row1R (k := 0) rfl rfl)) rfl ?_
    refine r_p (p_move rfl) rfl ?_
    refine r_p (p_idx_sl (j := k) Try.underlying31 t36 rfl rfl (hs_sl (k := 1) rfl) (by first | rfl | omega) (by first | omega | (simp; done) | (simp; omega))) rfl ?_
    refine r_p (p_field fo36_1 rfl) rfl ?_
    refine r_p (p_load1 t30 rfl rfl (g_elp (hs_sl (k := 1) rfl) (by intro _; rfl) (getD_get dE (by omega)) rfl)) rfl ?_
    refine r_p (p_conv Try.underlying30 Try.underlying3 rfl (by first | exact w_i64 (by omega) (by omega) | rfl)) rfl ?_
    refine r_p (p_bin rfl rfl (b_sub (by first | exact w_i64 (by omega) (by omega) | rfl))) rfl ?_
    refine r_p (p_assign rfl) rfl ?_
    refine r_nil ?_
    refine r_seq ?_
    refine r_region ?_
    refine r_p (p_move rfl) rfl ?_
    refine r_p (p_bin rfl rfl b_ge) rfl ?_
    refine r_p (p_move rfl) rfl ?_
    refine r_gp [] rfl rfl trivial (fun hg2 => p_move rfl) rfl ?_
    refine r_gp [(31, _)] rfl rfl ⟨rfl, trivial⟩ (fun hg3 => p_move rfl) rfl ?_
    refine r_gp [(31, _), (32, _)] rfl rfl ⟨rfl, rfl, trivial⟩ (fun hg4 => p_nilCheck rfl) rfl ?_
    refine r_gp [(31, _), (32, _), (33, _)] rfl rfl ⟨rfl, rfl, rfl, trivial⟩ (fun hg5 => p_field0 fo34_3 rfl) rfl ?_
    refine r_gp [(31, _), (32, _), (33, _), (34, _)] rfl rfl ⟨rfl, rfl, rfl, rfl, trivial⟩ (fun hg6 => p_load1 t31 rfl rfl (g_row1R (k := 0) rfl rfl)) rfl ?_
    refine r_gp [(31, _), (32, _), (33, _), (34, _), (35, _)] rfl rfl ⟨rfl, rfl, rfl, rfl, rfl, trivial⟩ (fun hg7 => p_move rfl) rfl ?_
    refine r_gp [(31, _), (32, _), (33, _), (34, _), (35, _), (36, _)] rfl rfl ⟨rfl, rfl, rfl, rfl, rfl, rfl, trivial⟩ (fun hg8 => p_idx_sl (j := k) Try.underlying31 t36 rfl rfl (hs_sl (k := 1) rfl) (by first | rfl | omega) (by first | omega | (simp; done) | (simp; omega))) rfl ?_
    refine r_gp [(31, _), (32, _), (33, _), (34, _), (35, _), (36, _), (37, _)] rfl rfl ⟨rfl, rfl, rfl, rfl, rfl, rfl, rfl, trivial⟩ (fun hg9 => p_field fo36_2 rfl) rfl ?_
    refine r_gp [(31, _), (32, _), (33, _), (34, _), (35, _), (36, _), (37, _), (38, _)] rfl rfl ⟨rfl, rfl, rfl, rfl, rfl, rfl, rfl, rfl, trivial⟩ (fun hg10 => p_load1 t9 rfl rfl (g_elp (hs_sl (k := 1) rfl) (by intro _; rfl) (getD_get dE (by omega)) rfl)) rfl ?_
    refine r_gp [(31, _), (32, _), (33, _), (34, _), (35, _), (36, _), (37, _), (38, _), (39, _)] rfl rfl ⟨rfl, rfl, rfl, rfl, rfl, rfl, rfl, rfl, rfl, trivial⟩ (fun hg11 => p_len_str Try.underlying9 rfl) rfl ?_
    refine r_gp [(31, _), (32, _), (33, _), (34, _), (35, _), (36, _), (37, _), (38, _), (39, _), (40, _)] rfl rfl ⟨rfl, rfl, rfl, rfl, rfl, rfl, rfl, rfl, rfl, rfl, trivial⟩ (fun hg12 => p_bin rfl rfl b_lt) rfl ?_
    refine r_p (p_pick rfl rfl rfl (by first | exact pick_and | exact pick_or |  rfl)) rfl ?_
    refine r_nil ?_
    refine r_cond rfl (fun h13 => ?_) (fun h13 => ?_)
    · (try simp only [decide_eq_true_eq, decide_eq_false_iff_not, Bool.and_eq_true, Bool.or_eq_true, Bool.and_eq_false_iff, Bool.or_eq_false_iff, Bool.not_eq_true, Bool.not_eq_false, Bool.not_eq_true', Bool.not_eq_false', Bool.not_not, bne_iff_ne, beq_iff_eq] at h13)
      have hyes : (L.getD k dE).base ≤ a ∧ a - (L.getD k dE).base < (L.getD k dE).bytes.size := by omega
      refine r_seq ?_
      refine r_region ?_
      refine r_p (p_move rfl) rfl ?_
      refine r_p (p_assign rfl) rfl ?_
      refine r_nil ?_
      refine r_cret ?_
      refine r_ret _ (.inr ⟨k, hk, rfl, hyes, hno⟩) rfl (rs1 (rv_tmp rfl)) rfl [] [] rfl rfl rfl
    · (try simp only [decide_eq_true_eq, decide_eq_false_iff_not, Bool.and_eq_true, Bool.or_eq_true, Bool.and_eq_false_iff, Bool.or_eq_false_iff, Bool.not_eq_true, Bool.not_eq_false, Bool.not_eq_true', Bool.not_eq_false', Bool.not_not, bne_iff_ne, beq_iff_eq] at h13)
      have hne : ¬ ((L.getD k dE).base ≤ a ∧ a - (L.getD k dE).base < (L.getD k dE).bytes.size) := by omega
      refine r_skip ?_
      refine r_region ?_
      refine r_p (p_move rfl) rfl ?_
      refine r_p (p_bin rfl rfl (b_add (by first | exact w_i64 (by omega) (by omega) | rfl))) rfl ?_
      refine r_p (p_assign rfl) rfl ?_
      refine r_nil ?_
      refine r_here (k + 1) ⟨⟨by omega, fun i hi => by
        rcases Nat.lt_or_eq_of_le (Nat.le_of_lt_succ hi) with h | h
        · exact hno i h
        · subst h; exact hne⟩, by omega⟩ rfl rfl rfl
  · (try simp only [decide_eq_true_eq, decide_eq_false_iff_not, Bool.and_eq_true, Bool.or_eq_true, Bool.and_eq_false_iff, Bool.or_eq_false_iff, Bool.not_eq_true, Bool.not_eq_false, Bool.not_eq_true', Bool.not_eq_false', Bool.not_not, bne_iff_ne, beq_iff_eq] at h1)
    have hk : k = L.length := by omega
    subst hk
    refine r_exit ?_
    refine r_seq ?_
    refine r_region ?_
    refine r_p (p_assign rfl) rfl ?_
    refine r_nil ?_
    refine r_cret ?_
    refine r_ret (-1) (.inl ⟨rfl, none_of hno⟩) rfl (rs1 (rv_tmp rfl)) rfl [] [] rfl rfl rfl
set_option maxRecDepth 100000 in
theorem rused_spec (r : Nat) (base size cur : Int) (vL vC : SV) (L : List En) (hlen : L.length < 40) (hb : ∀ x ∈ L, x.bytes.size ≤ 4294967296) :
    Spec Try.prog 34 [.pointer (some ⟨r, 0, none⟩)] [] [row r 34 (cR base size cur vL vC), own 36 5 eR (sv vL) L] (X := Unit) (fun _ => True) (fun _ => .int .i64 (usedL L)) (fun _ => []) (fun _ => []) := by
  refine r_enter Try.func34 rfl Try.ntmps34 rfl fun w0 M H => ?_
  refine r_more 1 1 rfl (fun w G h _ => ⟨G, own_to_sl w G h, fun _ hb => hb⟩) ?_
  refine r_seq ?_
  refine r_region ?_
  refine r_p (p_assign rfl) rfl ?_
  refine r_nil ?_
  refine r_seq ?_
  refine r_region ?_
  refine r_p (p_assign rfl) rfl ?_
  refine r_nil ?_
  refine r_seq ?_
  refine r_seq ?_
  refine r_region ?_
  refine r_p (p_assign rfl) rfl ?_
  refine r_nil ?_
  refine r_block ?_
  refine r_loop (X := Nat) (fun k => k ≤ L.length) (fun k => [(0, .pointer (some ⟨r, 0, none⟩)), (3, .int .i64 (usedL (L.take k))), (4, .int .i64 (k : Int))]) (fun k => []) (fun k => [(0, row r 34 (cR base size cur vL vC)), (1, sl 5 eR (sv vL) L)]) (fun k => L.length - k) 0 (Nat.zero_le _) rfl rfl rfl (fun k hk0 => ?_)
  refine r_seq ?_
  refine r_seq ?_
  refine r_region ?_
  refine r_p (p_move rfl) rfl ?_
  refine r_p (p_move rfl) rfl ?_
  refine r_p (p_nilCheck rfl) rfl ?_
  refine r_p (p_field0 fo34_3 rfl) rfl ?_
  refine r_p (p_load1 t31 rfl rfl (g_row1R (k := 0) rfl rfl)) rfl ?_
  refine r_p (p_len_sl Try.underlying31 rfl (hs_sl (k := 1) rfl)) rfl ?_
  refine r_p (p_bin rfl rfl b_lt) rfl ?_
  refine r_nil ?_
  refine r_cond rfl (fun h1 => ?_) (fun h1 => ?_)
  · (try simp only [decide_eq_true_eq, decide_eq_false_iff_not, Bool.and_eq_true, Bool.or_eq_true, Bool.and_eq_false_iff, Bool.or_eq_false_iff, Bool.not_eq_true, Bool.not_eq_false, Bool.not_eq_true', Bool.not_eq_false', Bool.not_not, bne_iff_ne, beq_iff_eq] at h1)
    have hk : k < L.length := by omega
    have hub := usedL_bd hb hlen k
    have hxb : (L.getD k dE).bytes.size ≤ 4294967296 := hb _ (by rw [List.getD_eq_getElem?_getD, List.getElem?_eq_getElem hk]; exact List.getElem_mem hk)
    refine r_skip ?_
    refine r_seq ?_
    refine r_block ?_
    refine r_region ?_
    refine r_p (p_move rfl) rfl ?_
    refine r_p (p_move rfl) rfl ?_
    refine r_p (p_nilCheck rfl) rfl ?_
    refine r_p (p_field0 fo34_3 rfl) rfl ?_
    refine r_p (p_load1 t31 rfl rfl (g_row1R (k := 0) rfl rfl)) rfl ?_
    refine r_p (p_move rfl) rfl ?_
    refine r_p (p_idx_sl (j := k) Try.underlying31 t36 rfl rfl (hs_sl (k := 1) rfl) (by first | rfl | omega) (by first | omega | (simp; done) | (simp; omega))) rfl ?_
    refine r_p (p_field fo36_2 rfl) rfl ?_
    refine r_p (p_load1 t9 rfl rfl (g_elp (hs_sl (k := 1) rfl) (by intro _; rfl) (getD_get dE (by omega)) rfl)) rfl ?_
    refine r_p (p_len_str Try.underlying9 rfl) rfl ?_
    refine r_p (p_bin rfl rfl (b_add (by first | exact w_i64 (by omega) (by omega) | rfl))) rfl ?_
    refine r_p (p_assign rfl) rfl ?_
    refine r_nil ?_
    refine r_region ?_
    refine r_p (p_move rfl) rfl ?_
    refine r_p (p_bin rfl rfl (b_add (by first | exact w_i64 (by omega) (by omega) | rfl))) rfl ?_
    refine r_p (p_assign rfl) rfl ?_
    refine r_nil ?_
    refine r_here (k + 1) ⟨by omega, by omega⟩ (by rw [usedL_take hk]; rfl) rfl rfl
  · (try simp only [decide_eq_true_eq, decide_eq_false_iff_not, Bool.and_eq_true, Bool.or_eq_true, Bool.and_eq_false_iff, Bool.or_eq_false_iff, Bool.not_eq_true, Bool.not_eq_false, Bool.not_eq_true', Bool.not_eq_false', Bool.not_not, bne_iff_ne, beq_iff_eq] at h1)
    have hk : k = L.length := by omega
    subst hk
    refine r_exit ?_
    refine r_seq ?_
    refine r_region ?_
    refine r_p (p_move rfl) rfl ?_
    refine r_p (p_assign rfl) rfl ?_
    refine r_nil ?_
    refine r_cret ?_
    refine r_ret () trivial rfl (rs1 (rv_tmp rfl)) (by rw [List.take_length]) [] [] rfl rfl rfl
set_option maxRecDepth 100000 in
theorem roff_spec (r : Nat) (base size cur : Int) (vL vC : SV) (x : En) (hx : 0 ≤ x.base ∧ x.base < 4294967296) (hb : 0 ≤ base ∧ base < 4294967296) :
    Spec Try.prog 52 [.pointer (some ⟨r, 0, none⟩), veR x] [] [row r 34 (cR base size cur vL vC)] (X := Unit) (fun _ => True) (fun _ => .int .i64 (x.base - base)) (fun _ => []) (fun _ => []) := by
  refine r_enter Try.func52 rfl Try.ntmps52 rfl fun w0 M H => ?_
  refine r_seq ?_
  refine r_region ?_
  refine r_boxA rfl rfl fun b3 => ?_
  refine r_p (p_assign rfl) rfl ?_
  refine r_nil ?_
  refine r_seq ?_
  refine r_draw [5, 6, 7, 8, 9, 10, 11, 12, 13, 4] _ rfl (stg_end (V := [(0, 5, _), (1, 6, _), (2, 7, _), (3, 8, _), (4, 9, _), (5, 10, _), (6, 11, _), (7, 12, _), (8, 13, _), (9, 4, _)]) [0, 1, 2, 3, 4, 5, 6, 7, 8, 9] rfl rfl (prs_cons (pri rfl (p_field0 fo36_1 rfl)) (prs_cons (pri rfl (p_load1 t30 rfl rfl (g_row1 (k := 3) rfl rfl))) (prs_cons (pri rfl (p_conv Try.underlying30 Try.underlying3 rfl (by first | exact w_i64 (by omega) (by omega) | rfl))) (prs_cons (pri rfl (p_move rfl)) (prs_cons (pri rfl (p_nilCheck rfl)) (prs_cons (pri rfl (p_field0 fo34_0 rfl)) (prs_cons (pri rfl (p_load1 t30 rfl rfl (g_row1R (k := 0) rfl rfl))) (prs_cons (pri rfl (p_conv Try.underlying30 Try.underlying3 rfl (by first | exact w_i64 (by omega) (by omega) | rfl))) (prs_cons (pri rfl (p_bin rfl rfl (b_sub (by first | exact w_i64 (by omega) (by omega) | rfl)))) (prs_cons (pri rfl (p_assign rfl)) prs_nil)))))))))) rfl rfl rfl ?_)
  refine r_cret ?_
  refine r_ret () trivial rfl (rs1 (rv_tmp rfl)) rfl [] [] rfl rfl rfl
set_option maxRecDepth 100000 in
theorem before_spec (x y : Lk) :
    Spec Try.prog 73 [veL x, veL y] [] [] (X := Unit) (fun _ => True) (fun _ => .bool (decide (x.f < y.f) || (decide (x.f = y.f) && decide (x.s < y.s)))) (fun _ => []) (fun _ => []) := by
  refine r_enter Try.func73 rfl Try.ntmps73 rfl fun w0 M H => ?_
  refine r_seq ?_
  refine r_region ?_
  refine r_boxA rfl rfl fun b2 => ?_
  refine r_boxA rfl rfl fun b3 => ?_
  refine r_p (p_assign rfl) rfl ?_
  refine r_nil ?_
  refine r_seq ?_
  refine r_region ?_
  refine r_p (p_field0 fo100_0 rfl) rfl ?_
  refine r_p (p_load1 t30 rfl rfl (g_row1 (k := 2) rfl rfl)) rfl ?_
  refine r_p (p_field0 fo100_0 rfl) rfl ?_
  refine r_p (p_load1 t30 rfl rfl (g_row1 (k := 3) rfl rfl)) rfl ?_
  refine r_p (p_bin rfl rfl b_lt) rfl ?_
  refine r_p (p_move rfl) rfl ?_
  refine r_gp [] rfl rfl trivial (fun hg1 => p_field0 fo100_0 rfl) rfl ?_
  refine r_gp [(11, _)] rfl rfl ⟨rfl, trivial⟩ (fun hg2 => p_load1 t30 rfl rfl (g_row1 (k := 2) rfl rfl)) rfl ?_
  refine r_gp [(11, _), (12, _)] rfl rfl ⟨rfl, rfl, trivial⟩ (fun hg3 => p_field0 fo100_0 rfl) rfl ?_
  refine r_gp [(11, _), (12, _), (13, _)] rfl rfl ⟨rfl, rfl, rfl, trivial⟩ (fun hg4 => p_load1 t30 rfl rfl (g_row1 (k := 3) rfl rfl)) rfl ?_
  refine r_gp [(11, _), (12, _), (13, _), (14, _)] rfl rfl ⟨rfl, rfl, rfl, rfl, trivial⟩ (fun hg5 => p_bin rfl rfl b_eq) rfl ?_
  refine r_gp [(11, _), (12, _), (13, _), (14, _), (15, _)] rfl rfl ⟨rfl, rfl, rfl, rfl, rfl, trivial⟩ (fun hg6 => p_move rfl) rfl ?_
  refine r_gp2 [] [(11, _), (12, _), (13, _), (14, _), (15, _), (16, _)] rfl rfl trivial ⟨rfl, rfl, rfl, rfl, rfl, rfl, trivial⟩ (fun hg7 hg7' => p_field0 fo100_1 rfl) rfl ?_
  refine r_gp2 [(17, _)] [(11, _), (12, _), (13, _), (14, _), (15, _), (16, _)] rfl rfl ⟨rfl, trivial⟩ ⟨rfl, rfl, rfl, rfl, rfl, rfl, trivial⟩ (fun hg8 hg8' => p_load1 t3 rfl rfl (g_row1 (k := 2) rfl rfl)) rfl ?_
  refine r_gp2 [(17, _), (18, _)] [(11, _), (12, _), (13, _), (14, _), (15, _), (16, _)] rfl rfl ⟨rfl, rfl, trivial⟩ ⟨rfl, rfl, rfl, rfl, rfl, rfl, trivial⟩ (fun hg9 hg9' => p_field0 fo100_1 rfl) rfl ?_
  refine r_gp2 [(17, _), (18, _), (19, _)] [(11, _), (12, _), (13, _), (14, _), (15, _), (16, _)] rfl rfl ⟨rfl, rfl, rfl, trivial⟩ ⟨rfl, rfl, rfl, rfl, rfl, rfl, trivial⟩ (fun hg10 hg10' => p_load1 t3 rfl rfl (g_row1 (k := 3) rfl rfl)) rfl ?_
  refine r_gp2 [(17, _), (18, _), (19, _), (20, _)] [(11, _), (12, _), (13, _), (14, _), (15, _), (16, _)] rfl rfl ⟨rfl, rfl, rfl, rfl, trivial⟩ ⟨rfl, rfl, rfl, rfl, rfl, rfl, trivial⟩ (fun hg11 hg11' => p_bin rfl rfl b_lt) rfl ?_
  refine r_gp [(11, _), (12, _), (13, _), (14, _), (15, _), (16, _)] rfl rfl ⟨rfl, rfl, rfl, rfl, rfl, rfl, trivial⟩ (fun hg12 => p_pick rfl rfl rfl (by first | exact pick_and | exact pick_or | exact pick_and2 hg12 | exact pick_or2 hg12 | rfl)) rfl ?_
  refine r_p (p_pick rfl rfl rfl (by first | exact pick_and | exact pick_or |  rfl)) rfl ?_
  refine r_p (p_assign rfl) rfl ?_
  refine r_nil ?_
  refine r_cret ?_
  refine r_ret () trivial rfl (rs1 (rv_tmp rfl)) rfl [] [] rfl rfl rfl
/-- The link that four numbers make. -/
def chainQ (q : Nat → Int) : Lk := ⟨4 * (q 0 % 12), q 2 % 5 - 1, 4 * (q 1 % 12)⟩
def vi (u : Nat → Int) : Nat → Value := fun i => .int .i64 (u i)
def vq (q : Nat → Int) : Value := .agg ((List.range 4).map (vi q)).toArray
theorem m12 (n : Int) : 0 ≤ n % 12 ∧ n % 12 < 12 := by omega
theorem m5 (n : Int) : 0 ≤ n % 5 ∧ n % 5 < 5 := by omega
set_option maxRecDepth 100000 in
theorem chain_spec (q : Nat → Int) :
    Spec Try.prog 58 [vq q] [] [] (X := Unit) (fun _ => True) (fun _ => veL (chainQ q)) (fun _ => []) (fun _ => []) := by
  refine r_enter Try.func58 rfl Try.ntmps58 rfl fun w0 M H => ?_
  have h12a := m12 (q 0)
  have h12b := m12 (q 1)
  have h5 := m5 (q 2)
  refine r_seq ?_
  refine r_region ?_
  refine r_box_arr rfl rfl fun b1 => ?_
  refine r_alloc t100 rfl rfl fun b2 => ?_
  refine r_nil ?_
  refine r_seq ?_
  refine r_draw [3, 4, 5, 6, 7, 8, 9, 10, 11, 12, 13, 14, 15, 16, 17] _ rfl (stg_mem (V := [(0, 3, _), (1, 4, _), (5, 8, _), (6, 9, _), (9, 12, _), (10, 13, _)]) [0, 1, 5, 6, 9, 10] 2 [2, 1, 0] [3, 4] (fun _ => [(3, 6, _), (4, 7, _)]) rfl rfl (prs_cons (pri rfl (p_idx_arr1 (j := 0) Try.underlying38 t3 rfl rfl (by rfl) (by decide))) (prs_cons (pri rfl (p_load1 t3 rfl rfl (g_arr1 (k := 1) rfl (by omega)))) (prs_cons (pri rfl (p_idx_arr1 (j := 2) Try.underlying38 t3 rfl rfl (by rfl) (by decide))) (prs_cons (pri rfl (p_load1 t3 rfl rfl (g_arr1 (k := 1) rfl (by omega)))) (prs_cons (pri rfl (p_idx_arr1 (j := 1) Try.underlying38 t3 rfl rfl (by rfl) (by decide))) (prs_cons (pri rfl (p_load1 t3 rfl rfl (g_arr1 (k := 1) rfl (by omega)))) prs_nil)))))) rfl rfl rfl rfl rfl rfl rfl rfl rfl rfl rfl (fun _ _ => rfl) rfl (ms_call (xs := [.tmp 4, .const (.int .i64 12)]) (mod_spec (q 0) 12 (by omega) (by omega)) cb17 [] [] [] [] rfl rfl rfl rfl rfl rfl rfl rfl (fun _ _ => rfl) (fun _ _ _ => rfl)) (fun _ _ => stg_mem [3, 4, 5, 6, 9, 10] 7 [7, 6, 5, 2, 1, 0] [8] (fun _ => [(8, 11, _)]) rfl rfl (prs_cons (pri rfl (p_bin rfl rfl (b_mul (by first | exact w_i64 (by omega) (by omega) | rfl)))) (prs_cons (pri rfl (p_conv Try.underlying3 Try.underlying30 rfl (by first | exact w_u32 (by omega) (by omega) | rfl))) (prs_cons (pri rfl (p_idx_arr1 (j := 2) Try.underlying38 t3 rfl rfl (by rfl) (by decide))) (prs_cons (pri rfl (p_load1 t3 rfl rfl (g_arr1 (k := 1) rfl (by omega)))) (prs_cons (pri rfl (p_idx_arr1 (j := 1) Try.underlying38 t3 rfl rfl (by rfl) (by decide))) (prs_cons (pri rfl (p_load1 t3 rfl rfl (g_arr1 (k := 1) rfl (by omega)))) prs_nil)))))) rfl rfl rfl rfl rfl rfl rfl rfl rfl rfl rfl (fun _ _ => rfl) rfl (ms_call (xs := [.tmp 9, .const (.int .i64 5)]) (mod_spec (q 2) 5 (by omega) (by omega)) cb17 [] [] [] [] rfl rfl rfl rfl rfl rfl rfl rfl (fun _ _ => rfl) (fun _ _ _ => rfl)) (fun _ _ => stg_mem [8, 3, 4, 9, 10] 11 [11, 10, 9, 7, 6, 5, 2, 1, 0] [12, 13, 14] (fun _ => [(12, 15, _), (13, 16, _), (14, 17, _)]) rfl rfl (prs_cons (pri rfl (p_bin rfl rfl (b_sub (by first | exact w_i64 (by omega) (by omega) | rfl)))) (prs_cons (pri rfl (p_bin rfl rfl (b_mul (by first | exact w_i64 (by omega) (by omega) | rfl)))) (prs_cons (pri rfl (p_conv Try.underlying3 Try.underlying30 rfl (by first | exact w_u32 (by omega) (by omega) | rfl))) (prs_cons (pri rfl (p_idx_arr1 (j := 1) Try.underlying38 t3 rfl rfl (by rfl) (by decide))) (prs_cons (pri rfl (p_load1 t3 rfl rfl (g_arr1 (k := 1) rfl (by omega)))) prs_nil))))) rfl rfl rfl rfl rfl rfl rfl rfl rfl rfl rfl (fun _ _ => rfl) rfl (ms_call (xs := [.tmp 13, .const (.int .i64 12)]) (mod_spec (q 1) 12 (by omega) (by omega)) cb17 [] [] [] [] rfl rfl rfl rfl rfl rfl rfl rfl (fun _ _ => rfl) (fun _ _ _ => rfl)) (fun _ _ => stg_mem0 [12, 13, 14, 8, 3, 4] 15 [15, 14, 13, 12, 11, 10, 9, 8, 7, 6, 5, 4, 3, 2, 1, 0] [] (fun _ => []) rfl rfl (prs_cons (pri rfl (p_bin rfl rfl (b_mul (by first | exact w_i64 (by omega) (by omega) | rfl)))) (prs_cons (pri rfl (p_conv Try.underlying3 Try.underlying30 rfl (by first | exact w_u32 (by omega) (by omega) | rfl))) (prs_cons (pri rfl (p_build (parts := [(0, .tmp 7), (1, .tmp 11), (2, .tmp 16)]) t100 pl100 rfl rfl)) (prs_cons (pri rfl (p_bin rfl rfl (b_sub (by first | exact w_i64 (by omega) (by omega) | rfl)))) (prs_cons (pri rfl (p_bin rfl rfl (b_mul (by first | exact w_i64 (by omega) (by omega) | rfl)))) (prs_cons (pri rfl (p_conv Try.underlying3 Try.underlying30 rfl (by first | exact w_u32 (by omega) (by omega) | rfl))) prs_nil)))))) rfl rfl rfl rfl rfl rfl rfl rfl rfl (fun _ _ => rfl) rfl (ms_store_all (k := 2) t100 rfl rfl rfl rfl rfl rfl) (fun _ _ => stg_end [] rfl rfl prs_nil rfl rfl rfl ?_)))))
  refine r_cret ?_
  refine r_ret () trivial rfl (rs1 (rv_cellA t100 rfl rfl rfl (g_all (k := 2) rfl))) rfl [] [] rfl rfl rfl

end Go.Proofs.Ytbkonlkffajhkaa
