/-
  Adding a block. Conditions: the cache is in order, and there are few blocks and links.
-/
import Derived.Test.YtbkonlkffajhkaaQ7
namespace Go.Proofs.Ytbkonlkffajhkaa
set_option linter.unusedSimpArgs false
set_option linter.unusedVariables false
open Go.RowKit

theorem Spec.roL {P : Program} {n : Nat} {vs : List Value} {L : List Asn} {A B : Asn} {X : Type} {φ : X → Prop} {v : X → Value} {L' R' : X → List Asn} (h : Spec P n vs L [A] φ v L' R') (hAB : ∀ w G, B.pred w G → A.pred w G) : Spec P n vs L [B] φ v L' R' := fun w M H ⟨F, hF⟩ =>
  h w M H ⟨F, hF.touch, hF.has, hF.lt, hF.mine, hF.apart, fun k C hk => by
    cases k with
    | zero =>
      obtain ⟨G, h1, h2⟩ := hF.ro 0 B rfl
      simp at hk
      subst hk
      exact ⟨G, hAB w G h1, h2⟩
    | succ k => simp at hk⟩
def curN (size cur n : Int) : Int := if cur + n > size then 0 else cur
def remL (L : List En) (base c1 n : Int) (e : En) : List En := L.filter (inWay base c1 n e)
def putE (base c1 : Int) (e : En) : En := { e with base := base + c1, sum := crc e.bytes }
theorem keep_self {L : List En} {base c1 n : Int} {e : En} : (L.filter (keepE ((remL L base c1 n e).map En.pc))).filter (fun x => decide (x.pc ≠ e.pc)) = L.filter (keepE ((remL L base c1 n e).map En.pc)) := by
  rw [List.filter_eq_self]
  intro x hx
  obtain ⟨h1, h2⟩ := List.mem_filter.1 hx
  simp only [decide_eq_true_eq]
  intro h
  have : x.pc ∈ (remL L base c1 n e).map En.pc := List.mem_map.2 ⟨x, List.mem_filter.2 ⟨h1, by simp [inWay, h]⟩, rfl⟩
  simp [keepE, this] at h2

set_option maxRecDepth 100000 in
theorem add_empty (C : Nat) (base size cur : Int) (ob ol : Option Nat) (L : List En) (K : List Lk) (e : En) (hn : e.bytes.size = 0) :
    Spec Try.prog 19 [.pointer (some ⟨C, 0, none⟩), veEnt e] [row C 84 (cC base size cur ob ol), mpB ob L, mpL ol K] [] (X := Unit) (fun _ => True) (fun _ => .tuple #[.int .u32 0, sv nilS, sv nilS, .int .i64 1]) (fun _ => [row C 84 (cC base size cur ob ol), mpB ob L, mpL ol K]) (fun _ => []) := by
  refine r_enter Try.func19 rfl Try.ntmps19 rfl fun w0 M H => ?_
  refine r_mv 2 200 rfl rfl ?_
  
  refine r_seq ?_
  refine r_region ?_
  refine r_box1 rfl rfl rfl fun b2 => ?_
  refine r_boxA rfl rfl fun b3 => ?_
  refine r_p (p_assign rfl) rfl ?_
  refine r_p (p_assign rfl) rfl ?_
  refine r_p (p_assign rfl) rfl ?_
  refine r_p (p_assign rfl) rfl ?_
  refine r_nil ?_
  refine r_seq ?_
  refine r_region ?_
  refine r_p (p_field0 fo54_4 rfl) rfl ?_
  refine r_p (p_field fo52_0 rfl) rfl ?_
  refine r_p (p_load1 t9 rfl rfl (g_row1 (k := 3) rfl rfl)) rfl ?_
  refine r_p (p_len_str Try.underlying9 rfl) rfl ?_
  refine r_alloc t3 rfl rfl fun b8 => ?_
  refine r_store_row (k := 8) t3 rfl rfl rfl rfl rfl rfl rfl rfl ?_
  refine r_nil ?_
  refine r_seq ?_
  refine r_seq ?_
  refine r_region ?_
  refine r_p (p_load1 t25 rfl rfl (g_row1 (k := 2) rfl rfl)) rfl ?_
  refine r_p (p_bin rfl rfl (b_eqPn Try.underlying25)) rfl ?_
  refine r_p (p_move rfl) rfl ?_
  refine r_gp [] rfl rfl trivial (fun hg1 => p_load1 t3 rfl rfl (g_row1 (k := 8) rfl rfl)) rfl ?_
  refine r_gp [(16, _)] rfl rfl ⟨rfl, trivial⟩ (fun hg2 => p_bin rfl rfl b_eq) rfl ?_
  refine r_p (p_pick rfl rfl rfl (by first | exact pick_and | exact pick_or |  rfl)) rfl ?_
  refine r_nil ?_
  refine r_cond rfl (fun h3 => ?_) (fun h3 => ?_)
  · (try simp only [decide_eq_true_eq, decide_eq_false_iff_not, Bool.and_eq_true, Bool.or_eq_true, Bool.and_eq_false_iff, Bool.or_eq_false_iff, Bool.not_eq_true, Bool.not_eq_false, Bool.not_eq_true', Bool.not_eq_false', Bool.not_not, bne_iff_ne, beq_iff_eq] at h3)
    refine r_seq ?_
    refine r_region ?_
    refine r_p (p_assign rfl) rfl ?_
    refine r_p (p_assign rfl) rfl ?_
    refine r_p (p_assign rfl) rfl ?_
    refine r_p (p_assign rfl) rfl ?_
    refine r_nil ?_
    refine r_cret ?_
    refine r_ret () trivial rfl (rs4 (rv_tmp rfl) (rv_tmp rfl) (rv_tmp rfl) (rv_tmp rfl)) rfl [0, 1, 200] [] rfl rfl rfl
  · exact absurd h3 (by simp [hn])
set_option maxRecDepth 100000 in
theorem add_full (C : Nat) (base size cur : Int) (ob ol : Option Nat) (L : List En) (K : List Lk) (e : En) (hn : 0 < e.bytes.size) (hf : size < e.bytes.size) :
    Spec Try.prog 19 [.pointer (some ⟨C, 0, none⟩), veEnt e] [row C 84 (cC base size cur ob ol), mpB ob L, mpL ol K] [] (X := Unit) (fun _ => True) (fun _ => .tuple #[.int .u32 0, sv nilS, sv nilS, .int .i64 30]) (fun _ => [row C 84 (cC base size cur ob ol), mpB ob L, mpL ol K]) (fun _ => []) := by
  refine r_enter Try.func19 rfl Try.ntmps19 rfl fun w0 M H => ?_
  refine r_mv 2 200 rfl rfl ?_
  
  refine r_seq ?_
  refine r_region ?_
  refine r_box1 rfl rfl rfl fun b2 => ?_
  refine r_boxA rfl rfl fun b3 => ?_
  refine r_p (p_assign rfl) rfl ?_
  refine r_p (p_assign rfl) rfl ?_
  refine r_p (p_assign rfl) rfl ?_
  refine r_p (p_assign rfl) rfl ?_
  refine r_nil ?_
  refine r_seq ?_
  refine r_region ?_
  refine r_p (p_field0 fo54_4 rfl) rfl ?_
  refine r_p (p_field fo52_0 rfl) rfl ?_
  refine r_p (p_load1 t9 rfl rfl (g_row1 (k := 3) rfl rfl)) rfl ?_
  refine r_p (p_len_str Try.underlying9 rfl) rfl ?_
  refine r_alloc t3 rfl rfl fun b8 => ?_
  refine r_store_row (k := 8) t3 rfl rfl rfl rfl rfl rfl rfl rfl ?_
  refine r_nil ?_
  refine r_seq ?_
  refine r_seq ?_
  refine r_region ?_
  refine r_p (p_load1 t25 rfl rfl (g_row1 (k := 2) rfl rfl)) rfl ?_
  refine r_p (p_bin rfl rfl (b_eqPn Try.underlying25)) rfl ?_
  refine r_p (p_move rfl) rfl ?_
  refine r_gp [] rfl rfl trivial (fun hg1 => p_load1 t3 rfl rfl (g_row1 (k := 8) rfl rfl)) rfl ?_
  refine r_gp [(16, _)] rfl rfl ⟨rfl, trivial⟩ (fun hg2 => p_bin rfl rfl b_eq) rfl ?_
  refine r_p (p_pick rfl rfl rfl (by first | exact pick_and | exact pick_or |  rfl)) rfl ?_
  refine r_nil ?_
  refine r_cond rfl (fun h3 => ?_) (fun h3 => ?_)
  · exfalso; rcases Bool.or_eq_true_iff.1 h3 with h | h; cases h; have := of_decide_eq_true h; omega
  · (try simp only [decide_eq_true_eq, decide_eq_false_iff_not, Bool.and_eq_true, Bool.or_eq_true, Bool.and_eq_false_iff, Bool.or_eq_false_iff, Bool.not_eq_true, Bool.not_eq_false, Bool.not_eq_true', Bool.not_eq_false', Bool.not_not, bne_iff_ne, beq_iff_eq] at h3)
    refine r_skip ?_
    refine r_seq ?_
    refine r_seq ?_
    refine r_draw [19, 20, 21, 22, 23, 24] _ rfl (stg_end (V := [(0, 19, _), (1, 20, _), (2, 21, _), (3, 22, _), (4, 23, _), (5, 24, _)]) [0, 1, 2, 3, 4, 5] rfl rfl (prs_cons (pri rfl (p_load1 t3 rfl rfl (g_row1 (k := 8) rfl rfl))) (prs_cons (pri rfl (p_load1 t25 rfl rfl (g_row1 (k := 2) rfl rfl))) (prs_cons (pri rfl (p_nilCheck rfl)) (prs_cons (pri rfl (p_field0 fo84_1 rfl)) (prs_cons (pri rfl (p_load1 t3 rfl rfl (g_row1 (k := 0) rfl rfl))) (prs_cons (pri rfl (p_bin rfl rfl b_gt)) prs_nil)))))) rfl rfl rfl ?_)
    refine r_cond rfl (fun h4 => ?_) (fun h4 => ?_)
    · (try simp only [decide_eq_true_eq, decide_eq_false_iff_not, Bool.and_eq_true, Bool.or_eq_true, Bool.and_eq_false_iff, Bool.or_eq_false_iff, Bool.not_eq_true, Bool.not_eq_false, Bool.not_eq_true', Bool.not_eq_false', Bool.not_not, bne_iff_ne, beq_iff_eq] at h4)
      refine r_seq ?_
      refine r_region ?_
      refine r_p (p_assign rfl) rfl ?_
      refine r_p (p_assign rfl) rfl ?_
      refine r_p (p_assign rfl) rfl ?_
      refine r_p (p_assign rfl) rfl ?_
      refine r_nil ?_
      refine r_cret ?_
      refine r_ret () trivial rfl (rs4 (rv_tmp rfl) (rv_tmp rfl) (rv_tmp rfl) (rv_tmp rfl)) rfl [0, 1, 200] [] rfl rfl rfl
    · exfalso; have := of_decide_eq_false h4; omega
set_option maxHeartbeats 2000000 in
set_option maxRecDepth 100000 in
theorem add_ok (C : Nat) (base size cur : Int) (ob ol : Option Nat) (L : List En) (K : List Lk) (e : En) (hn : 0 < e.bytes.size) (hfit : (e.bytes.size : Int) ≤ size) (hb : 0 ≤ base ∧ base + size ≤ 4294967296) (hc : 0 ≤ cur ∧ cur ≤ size) (hbs : ∀ x ∈ L, x.bytes.size ≤ 4294967296) (hL : L.Pairwise fun x y => offW base x < offW base y) (hlen : L.length < 40) (hK : K.Pairwise ltK) (hlenK : K.length < 40) (hpc : (L.map En.pc).Nodup) (hes : e.bytes.size ≤ 1000000) :
    Spec Try.prog 19 [.pointer (some ⟨C, 0, none⟩), veEnt e] [row C 84 (cC base size cur ob ol), mpB ob L, mpL ol K] [] (X := (SV × SV × Nat)) (fun _ => True) (fun x => .tuple #[.int .u32 (base + (curN size cur e.bytes.size)), sv x.1, sv x.2.1, .int .i64 0]) (fun x => [row C 84 (cC base size ((curN size cur e.bytes.size) + e.bytes.size) (some x.2.2) ol), mpB (some x.2.2) (putE base (curN size cur e.bytes.size) e :: L.filter (keepE ((remL L base (curN size cur e.bytes.size) e.bytes.size e).map En.pc))), mpL ol (K.filter (keepK ((remL L base (curN size cur e.bytes.size) e.bytes.size e).map En.pc))), own 54 36 eEnt (sv x.1) (remL L base (curN size cur e.bytes.size) e.bytes.size e), own 64 3 eL (sv x.2.1) (K.filter (cutK ((remL L base (curN size cur e.bytes.size) e.bytes.size e).map En.pc)))]) (fun _ => []) := by
  refine r_enter Try.func19 rfl Try.ntmps19 rfl fun w0 M H => ?_
  refine r_mv 2 200 rfl rfl ?_
  obtain ⟨c1, hc1⟩ : ∃ c1, c1 = (curN size cur e.bytes.size) := ⟨_, rfl⟩
  have hc1b : 0 ≤ c1 ∧ c1 + e.bytes.size ≤ size := by rw [hc1, curN]; split <;> omega
  rw [← hc1]
  refine r_seq ?_
  refine r_region ?_
  refine r_box1 rfl rfl rfl fun b2 => ?_
  refine r_boxA rfl rfl fun b3 => ?_
  refine r_p (p_assign rfl) rfl ?_
  refine r_p (p_assign rfl) rfl ?_
  refine r_p (p_assign rfl) rfl ?_
  refine r_p (p_assign rfl) rfl ?_
  refine r_nil ?_
  refine r_seq ?_
  refine r_region ?_
  refine r_p (p_field0 fo54_4 rfl) rfl ?_
  refine r_p (p_field fo52_0 rfl) rfl ?_
  refine r_p (p_load1 t9 rfl rfl (g_row1 (k := 3) rfl rfl)) rfl ?_
  refine r_p (p_len_str Try.underlying9 rfl) rfl ?_
  refine r_alloc t3 rfl rfl fun b8 => ?_
  refine r_store_row (k := 8) t3 rfl rfl rfl rfl rfl rfl rfl rfl ?_
  refine r_nil ?_
  refine r_seq ?_
  refine r_seq ?_
  refine r_region ?_
  refine r_p (p_load1 t25 rfl rfl (g_row1 (k := 2) rfl rfl)) rfl ?_
  refine r_p (p_bin rfl rfl (b_eqPn Try.underlying25)) rfl ?_
  refine r_p (p_move rfl) rfl ?_
  refine r_gp [] rfl rfl trivial (fun hg1 => p_load1 t3 rfl rfl (g_row1 (k := 8) rfl rfl)) rfl ?_
  refine r_gp [(16, _)] rfl rfl ⟨rfl, trivial⟩ (fun hg2 => p_bin rfl rfl b_eq) rfl ?_
  refine r_p (p_pick rfl rfl rfl (by first | exact pick_and | exact pick_or |  rfl)) rfl ?_
  refine r_nil ?_
  refine r_cond rfl (fun h3 => ?_) (fun h3 => ?_)
  · exfalso; rcases Bool.or_eq_true_iff.1 h3 with h | h; cases h; have := of_decide_eq_true h; omega
  · (try simp only [decide_eq_true_eq, decide_eq_false_iff_not, Bool.and_eq_true, Bool.or_eq_true, Bool.and_eq_false_iff, Bool.or_eq_false_iff, Bool.not_eq_true, Bool.not_eq_false, Bool.not_eq_true', Bool.not_eq_false', Bool.not_not, bne_iff_ne, beq_iff_eq] at h3)
    refine r_skip ?_
    refine r_seq ?_
    refine r_seq ?_
    refine r_draw [19, 20, 21, 22, 23, 24] _ rfl (stg_end (V := [(0, 19, _), (1, 20, _), (2, 21, _), (3, 22, _), (4, 23, _), (5, 24, _)]) [0, 1, 2, 3, 4, 5] rfl rfl (prs_cons (pri rfl (p_load1 t3 rfl rfl (g_row1 (k := 8) rfl rfl))) (prs_cons (pri rfl (p_load1 t25 rfl rfl (g_row1 (k := 2) rfl rfl))) (prs_cons (pri rfl (p_nilCheck rfl)) (prs_cons (pri rfl (p_field0 fo84_1 rfl)) (prs_cons (pri rfl (p_load1 t3 rfl rfl (g_row1 (k := 0) rfl rfl))) (prs_cons (pri rfl (p_bin rfl rfl b_gt)) prs_nil)))))) rfl rfl rfl ?_)
    refine r_cond rfl (fun h4 => ?_) (fun h4 => ?_)
    · exfalso; have := of_decide_eq_true h4; omega
    · (try simp only [decide_eq_true_eq, decide_eq_false_iff_not, Bool.and_eq_true, Bool.or_eq_true, Bool.and_eq_false_iff, Bool.or_eq_false_iff, Bool.not_eq_true, Bool.not_eq_false, Bool.not_eq_true', Bool.not_eq_false', Bool.not_not, bne_iff_ne, beq_iff_eq] at h4)
      refine r_skip ?_
      refine r_seq_cut (X := Unit) (fun _ => True) (fun _ => [(2, .pointer (some ⟨b2, 0, none⟩)), (3, .pointer (some ⟨b3, 0, none⟩)), (8, .pointer (some ⟨b8, 0, none⟩))]) (fun _ => [(0, row C 84 (cC base size c1 ob ol)), (1, mpB ob L), (200, mpL ol K), (2, row b2 25 [.pointer (some ⟨C, 0, none⟩)]), (3, row b3 54 (eEnt e)), (8, row b8 3 [.int .i64 (e.bytes.size : Int)])]) (fun _ => []) ?_ (fun _ _ => ?_)
      · refine r_seq ?_
        refine r_draw [25, 26, 27, 28, 29, 30, 31, 32, 33, 34, 35] _ rfl (stg_end (V := [(0, 25, _), (1, 26, _), (2, 27, _), (3, 28, _), (4, 29, _), (5, 30, _), (6, 31, _), (7, 32, _), (8, 33, _), (9, 34, _), (10, 35, _)]) [0, 1, 2, 3, 4, 5, 6, 7, 8, 9, 10] rfl rfl (prs_cons (pri rfl (p_load1 t25 rfl rfl (g_row1 (k := 2) rfl rfl))) (prs_cons (pri rfl (p_nilCheck rfl)) (prs_cons (pri rfl (p_field0 fo84_2 rfl)) (prs_cons (pri rfl (p_load1 t3 rfl rfl (g_row1 (k := 0) rfl rfl))) (prs_cons (pri rfl (p_load1 t3 rfl rfl (g_row1 (k := 8) rfl rfl))) (prs_cons (pri rfl (p_bin rfl rfl (b_add (by first | exact w_i64 (by omega) (by omega) | rfl)))) (prs_cons (pri rfl (p_load1 t25 rfl rfl (g_row1 (k := 2) rfl rfl))) (prs_cons (pri rfl (p_nilCheck rfl)) (prs_cons (pri rfl (p_field0 fo84_1 rfl)) (prs_cons (pri rfl (p_load1 t3 rfl rfl (g_row1 (k := 0) rfl rfl))) (prs_cons (pri rfl (p_bin rfl rfl b_gt)) prs_nil))))))))))) rfl rfl rfl ?_)
        refine r_cond rfl (fun h5 => ?_) (fun h5 => ?_)
        · (try simp only [decide_eq_true_eq, decide_eq_false_iff_not, Bool.and_eq_true, Bool.or_eq_true, Bool.and_eq_false_iff, Bool.or_eq_false_iff, Bool.not_eq_true, Bool.not_eq_false, Bool.not_eq_true', Bool.not_eq_false', Bool.not_not, bne_iff_ne, beq_iff_eq] at h5)
          refine r_region ?_
          refine r_p (p_load1 t25 rfl rfl (g_row1 (k := 2) rfl rfl)) rfl ?_
          refine r_p (p_nilCheck rfl) rfl ?_
          refine r_p (p_field0 fo84_2 rfl) rfl ?_
          refine r_store_row (k := 0) t3 rfl rfl rfl rfl rfl rfl rfl rfl ?_
          refine r_nil ?_
          refine r_here () trivial rfl (by rw [hc1, curN, if_pos (by omega)]; rfl) rfl
        · (try simp only [decide_eq_true_eq, decide_eq_false_iff_not, Bool.and_eq_true, Bool.or_eq_true, Bool.and_eq_false_iff, Bool.or_eq_false_iff, Bool.not_eq_true, Bool.not_eq_false, Bool.not_eq_true', Bool.not_eq_false', Bool.not_not, bne_iff_ne, beq_iff_eq] at h5)
          refine r_skip ?_
          refine r_here () trivial rfl (by rw [hc1, curN, if_neg (by omega)]; rfl) rfl
      · refine r_seq ?_
        refine r_region ?_
        refine r_p (p_load1 t25 rfl rfl (g_row1 (k := 2) rfl rfl)) rfl ?_
        refine r_p (p_makeFunc (first := []) (cap := [.tmp 2, .tmp 3, .tmp 8]) rfl rfl) rfl ?_
        refine r_call (xs := [.tmp 39, .tmp 40]) (pick_spec C base size c1 ob ol 43 [.pointer (some ⟨b2, 0, none⟩), .pointer (some ⟨b3, 0, none⟩), .pointer (some ⟨b8, 0, none⟩)] (row b2 25 [.pointer (some ⟨C, 0, none⟩)]) (row b3 54 (eEnt e)) (row b8 3 [.int .i64 (e.bytes.size : Int)]) (inWay base c1 e.bytes.size e) L cb43 (fun x hx => addT_spec C base size c1 ob ol b2 b3 b8 e.bytes.size e x (by omega) (by omega) (hbs x hx)) hL hlen) cb42 [] [(true, 0), (true, 1), (true, 2), (true, 3), (true, 8)] [41] [] rfl rfl rfl rfl rfl rfl rfl rfl (fun _ _ => rfl) (fun _ _ _ => rfl) rfl (fun v41 _ => ?_)
        refine r_p (p_assign rfl) rfl ?_
        refine r_nil ?_
        refine r_seq ?_
        refine r_region ?_
        refine r_p (p_load1 t25 rfl rfl (g_row1 (k := 2) rfl rfl)) rfl ?_
        refine r_p (p_move rfl) rfl ?_
        refine r_call (xs := [.tmp 42, .tmp 43]) ((drop_spec C base size c1 ob ol v41 (remL L base c1 e.bytes.size e) L K hK hlenK ((List.filter_sublist.map _).nodup hpc) (by have := List.length_filter_le (inWay base c1 e.bytes.size e) L; unfold remL; omega)).roL (own_to_sl (T := 54))) cb45 [0, 1, 200] [(true, 41)] [0, 1, 200, 44] [] rfl rfl rfl rfl rfl rfl rfl rfl (fun _ _ => rfl) (fun _ _ _ => rfl) rfl (fun v44 _ => ?_)
        refine r_p (p_assign rfl) rfl ?_
        refine r_nil ?_
        refine r_seq ?_
        refine r_draw [45, 46, 47, 48, 49, 50, 51, 52, 53, 54, 55] _ rfl (stg_mem0 (V := [(0, 45, _), (1, 46, _), (2, 47, _), (3, 48, _), (4, 49, _), (5, 50, _), (6, 51, _), (7, 52, _), (8, 53, _), (9, 54, _), (10, 55, _)]) [0, 1, 2, 3, 4, 5, 6, 7, 8, 9, 10] 11 [11, 10, 9, 8, 7, 6, 5, 4, 3, 2, 1, 0] [] (fun _ => []) rfl rfl (prs_cons (pri rfl (p_load1 t25 rfl rfl (g_row1 (k := 2) rfl rfl))) (prs_cons (pri rfl (p_nilCheck rfl)) (prs_cons (pri rfl (p_field0 fo84_0 rfl)) (prs_cons (pri rfl (p_load1 t30 rfl rfl (g_row1 (k := 0) rfl rfl))) (prs_cons (pri rfl (p_load1 t25 rfl rfl (g_row1 (k := 2) rfl rfl))) (prs_cons (pri rfl (p_nilCheck rfl)) (prs_cons (pri rfl (p_field0 fo84_2 rfl)) (prs_cons (pri rfl (p_load1 t3 rfl rfl (g_row1 (k := 0) rfl rfl))) (prs_cons (pri rfl (p_conv Try.underlying3 Try.underlying30 rfl (by first | exact w_u32 (by omega) (by omega) | rfl))) (prs_cons (pri rfl (p_bin rfl rfl (b_add (by first | exact w_u32 (by omega) (by omega) | rfl)))) (prs_cons (pri rfl (p_field0 fo54_1 rfl)) prs_nil))))))))))) rfl rfl rfl rfl rfl rfl rfl rfl rfl (fun _ _ => rfl) rfl (ms_store_row (k := 3) t30 rfl rfl rfl rfl rfl rfl rfl rfl) (fun _ _ => stg_end [] rfl rfl prs_nil rfl rfl rfl ?_))
        refine r_seq ?_
        refine r_region ?_
        refine r_p (p_field0 fo54_4 rfl) rfl ?_
        refine r_p (p_field fo52_0 rfl) rfl ?_
        refine r_p (p_load1 t9 rfl rfl (g_row1 (k := 3) rfl rfl)) rfl ?_
        refine r_call (xs := [.tmp 58]) (sumA_spec e.bytes hes) cb46 [] [] [] [] rfl rfl rfl rfl rfl rfl rfl rfl (fun _ _ => rfl) (fun _ _ _ => rfl) rfl (fun _ _ => ?_)
        refine r_p (p_field0 fo54_5 rfl) rfl ?_
        refine r_store_row (k := 3) t30 rfl rfl rfl rfl rfl rfl rfl rfl ?_
        refine r_nil ?_
        refine r_seq ?_
        refine r_seq ?_
        refine r_region ?_
        refine r_p (p_load1 t25 rfl rfl (g_row1 (k := 2) rfl rfl)) rfl ?_
        refine r_p (p_nilCheck rfl) rfl ?_
        refine r_p (p_field0 fo84_3 rfl) rfl ?_
        refine r_p (p_load1 t81 rfl rfl (g_row1 (k := 0) rfl rfl)) rfl ?_
        refine r_p (p_bin rfl rfl (b_eqMn Try.underlying81)) rfl ?_
        refine r_nil ?_
        refine r_cond rfl (fun h6 => ?_) (fun h6 => ?_)
        · (try simp only [decide_eq_true_eq, decide_eq_false_iff_not, Bool.and_eq_true, Bool.or_eq_true, Bool.and_eq_false_iff, Bool.or_eq_false_iff, Bool.not_eq_true, Bool.not_eq_false, Bool.not_eq_true', Bool.not_eq_false', Bool.not_not, bne_iff_ne, beq_iff_eq] at h6)
          obtain rfl : ob = none := by cases ob <;> simp_all
          refine r_factG (k := 1) rfl (fun w G h => mp_none w G h) (fun hLn => ?_)
          refine r_region ?_
          refine r_p (p_load1 t25 rfl rfl (g_row1 (k := 2) rfl rfl)) rfl ?_
          refine r_makeMap En.pc mkU veEnt rfl fun b67 => ?_
          refine r_p (p_nilCheck rfl) rfl ?_
          refine r_p (p_field0 fo84_3 rfl) rfl ?_
          refine r_store_row (k := 0) t81 rfl rfl rfl rfl rfl rfl rfl rfl ?_
          refine r_nil ?_
          refine r_seq ?_
          refine r_draw [70, 71, 72, 73, 74, 75, 76] _ rfl (stg_mem0 (V := [(0, 70, _), (1, 71, _), (2, 72, _), (3, 73, _), (4, 74, _), (5, 75, _), (6, 76, _)]) [0, 1, 2, 3, 4, 5, 6] 7 [7, 6, 5, 4, 3, 2, 1, 0] [] (fun _ => []) rfl rfl (prs_cons (pri rfl (p_load1 t25 rfl rfl (g_row1 (k := 2) rfl rfl))) (prs_cons (pri rfl (p_nilCheck rfl)) (prs_cons (pri rfl (p_field0 fo84_3 rfl)) (prs_cons (pri rfl (p_load1 t81 rfl rfl (g_row1 (k := 0) rfl rfl))) (prs_cons (pri rfl (p_field0 fo54_0 rfl)) (prs_cons (pri rfl (p_load1 t30 rfl rfl (g_row1 (k := 3) rfl rfl))) (prs_cons (pri rfl (p_loadA t54 rfl rfl rfl (g_all (k := 3) rfl))) prs_nil))))))) rfl rfl rfl rfl rfl rfl rfl rfl rfl (fun _ _ => rfl) rfl (ms_mapUpdate (k := 67) (putE base c1 e) (putE base c1 e :: L.filter (keepE ((remL L base c1 e.bytes.size e).map En.pc))) Try.underlying81 keyU rfl rfl rfl rfl (by rw [hLn]; exact List.Perm.refl _)) (fun _ _ => stg_end [] rfl rfl prs_nil rfl rfl rfl ?_))
          refine r_seq ?_
          refine r_draw [77, 78, 79, 80, 81, 82, 83, 84] _ rfl (stg_mem0 (V := [(0, 77, _), (1, 78, _), (2, 79, _), (3, 80, _), (4, 81, _), (5, 82, _), (6, 83, _), (7, 84, _)]) [0, 1, 2, 3, 4, 5, 6, 7] 8 [8, 7, 6, 5, 4, 3, 2, 1, 0] [] (fun _ => []) rfl rfl (prs_cons (pri rfl (p_load1 t25 rfl rfl (g_row1 (k := 2) rfl rfl))) (prs_cons (pri rfl (p_nilCheck rfl)) (prs_cons (pri rfl (p_field0 fo84_2 rfl)) (prs_cons (pri rfl (p_load1 t3 rfl rfl (g_row1 (k := 0) rfl rfl))) (prs_cons (pri rfl (p_load1 t3 rfl rfl (g_row1 (k := 8) rfl rfl))) (prs_cons (pri rfl (p_bin rfl rfl (b_add (by first | exact w_i64 (by omega) (by omega) | rfl)))) (prs_cons (pri rfl (p_nilCheck rfl)) (prs_cons (pri rfl (p_field0 fo84_2 rfl)) prs_nil)))))))) rfl rfl rfl rfl rfl rfl rfl rfl rfl (fun _ _ => rfl) rfl (ms_store_row (k := 0) t3 rfl rfl rfl rfl rfl rfl rfl rfl) (fun _ _ => stg_end [] rfl rfl prs_nil rfl rfl rfl ?_))
          refine r_seq ?_
          refine r_region ?_
          refine r_p (p_field0 fo54_1 rfl) rfl ?_
          refine r_p (p_load1 t30 rfl rfl (g_row1 (k := 3) rfl rfl)) rfl ?_
          refine r_p (p_move rfl) rfl ?_
          refine r_p (p_move rfl) rfl ?_
          refine r_p (p_assign rfl) rfl ?_
          refine r_p (p_assign rfl) rfl ?_
          refine r_p (p_assign rfl) rfl ?_
          refine r_p (p_assign rfl) rfl ?_
          refine r_nil ?_
          refine r_cret ?_
          refine r_ret (v41, v44, b67) trivial rfl (rs4 (rv_tmp rfl) (rv_tmp rfl) (rv_tmp rfl) (rv_tmp rfl)) rfl [0, 67, 200, 41, 44] [] rfl rfl rfl
        · (try simp only [decide_eq_true_eq, decide_eq_false_iff_not, Bool.and_eq_true, Bool.or_eq_true, Bool.and_eq_false_iff, Bool.or_eq_false_iff, Bool.not_eq_true, Bool.not_eq_false, Bool.not_eq_true', Bool.not_eq_false', Bool.not_not, bne_iff_ne, beq_iff_eq] at h6)
          obtain ⟨b, rfl⟩ : ∃ b, ob = some b := by cases ob with
            | none => simp at h6
            | some b => exact ⟨b, rfl⟩
          refine r_skip ?_
          refine r_seq ?_
          refine r_draw [70, 71, 72, 73, 74, 75, 76] _ rfl (stg_mem0 (V := [(0, 70, _), (1, 71, _), (2, 72, _), (3, 73, _), (4, 74, _), (5, 75, _), (6, 76, _)]) [0, 1, 2, 3, 4, 5, 6] 7 [7, 6, 5, 4, 3, 2, 1, 0] [] (fun _ => []) rfl rfl (prs_cons (pri rfl (p_load1 t25 rfl rfl (g_row1 (k := 2) rfl rfl))) (prs_cons (pri rfl (p_nilCheck rfl)) (prs_cons (pri rfl (p_field0 fo84_3 rfl)) (prs_cons (pri rfl (p_load1 t81 rfl rfl (g_row1 (k := 0) rfl rfl))) (prs_cons (pri rfl (p_field0 fo54_0 rfl)) (prs_cons (pri rfl (p_load1 t30 rfl rfl (g_row1 (k := 3) rfl rfl))) (prs_cons (pri rfl (p_loadA t54 rfl rfl rfl (g_all (k := 3) rfl))) prs_nil))))))) rfl rfl rfl rfl rfl rfl rfl rfl rfl (fun _ _ => rfl) rfl (ms_mapUpdate (k := 1) (putE base c1 e) (putE base c1 e :: L.filter (keepE ((remL L base c1 e.bytes.size e).map En.pc))) Try.underlying81 keyU rfl rfl rfl rfl (by rw [show (putE base c1 e).pc = e.pc from rfl, keep_self])) (fun _ _ => stg_end [] rfl rfl prs_nil rfl rfl rfl ?_))
          refine r_seq ?_
          refine r_draw [77, 78, 79, 80, 81, 82, 83, 84] _ rfl (stg_mem0 (V := [(0, 77, _), (1, 78, _), (2, 79, _), (3, 80, _), (4, 81, _), (5, 82, _), (6, 83, _), (7, 84, _)]) [0, 1, 2, 3, 4, 5, 6, 7] 8 [8, 7, 6, 5, 4, 3, 2, 1, 0] [] (fun _ => []) rfl rfl (prs_cons (pri rfl (p_load1 t25 rfl rfl (g_row1 (k := 2) rfl rfl))) (prs_cons (pri rfl (p_nilCheck rfl)) (prs_cons (pri rfl (p_field0 fo84_2 rfl)) (prs_cons (pri rfl (p_load1 t3 rfl rfl (g_row1 (k := 0) rfl rfl))) (prs_cons (pri rfl (p_load1 t3 rfl rfl (g_row1 (k := 8) rfl rfl))) (prs_cons (pri rfl (p_bin rfl rfl (b_add (by first | exact w_i64 (by omega) (by omega) | rfl)))) (prs_cons (pri rfl (p_nilCheck rfl)) (prs_cons (pri rfl (p_field0 fo84_2 rfl)) prs_nil)))))))) rfl rfl rfl rfl rfl rfl rfl rfl rfl (fun _ _ => rfl) rfl (ms_store_row (k := 0) t3 rfl rfl rfl rfl rfl rfl rfl rfl) (fun _ _ => stg_end [] rfl rfl prs_nil rfl rfl rfl ?_))
          refine r_seq ?_
          refine r_region ?_
          refine r_p (p_field0 fo54_1 rfl) rfl ?_
          refine r_p (p_load1 t30 rfl rfl (g_row1 (k := 3) rfl rfl)) rfl ?_
          refine r_p (p_move rfl) rfl ?_
          refine r_p (p_move rfl) rfl ?_
          refine r_p (p_assign rfl) rfl ?_
          refine r_p (p_assign rfl) rfl ?_
          refine r_p (p_assign rfl) rfl ?_
          refine r_p (p_assign rfl) rfl ?_
          refine r_nil ?_
          refine r_cret ?_
          refine r_ret (v41, v44, b) trivial rfl (rs4 (rv_tmp rfl) (rv_tmp rfl) (rv_tmp rfl) (rv_tmp rfl)) rfl [0, 1, 200, 41, 44] [] rfl rfl rfl

end Go.Proofs.Ytbkonlkffajhkaa
