/-
  CacheRemoves walks. No condition.
-/
import Derived.Test.YtbkonlkffajhkaaI5
namespace Go.Proofs.Ytbkonlkffajhkaa
set_option linter.unusedSimpArgs false
set_option linter.unusedVariables false
open Go.RowKit

theorem getD_memL {K : List Lk} {j : Nat} (hj : j < K.length) : K.getD j dL ∈ K := by
  rw [List.getD_eq_getElem?_getD, List.getElem?_eq_getElem hj]
  exact List.getElem_mem hj
theorem ps12_ge {p : Int} (h : p ∈ PS12) : 0 ≤ p ∧ p < 48 ∧ p % 4 = 0 := by
  obtain ⟨n, h1, rfl⟩ := List.mem_map.1 h
  have := List.mem_range.1 h1
  omega
theorem gone_ge {PS : List Int} {base size cur : Int} {L : List En} {K : List Lk} (h : CInv PS base size cur L K) (hp : ∀ p ∈ PS, p % 4 = 0) {k : Int} (hg : ∀ e ∈ L, 4 * k ≤ e.pc) : ∀ e ∈ L.filter (keepE [4 * k]), 4 * (k + 1) ≤ e.pc := fun e he => by
  obtain ⟨h1, h2⟩ := List.mem_filter.1 he
  have h3 := hg e h1
  have h4 := hp _ (h.ent e h1).2.2.2.2.1
  have h5 : e.pc ≠ 4 * k := by simpa [keepE] using h2
  omega
theorem find_ge {L : List En} {k : Int} (hg : ∀ e ∈ L, 4 * (k + 1) ≤ e.pc) : L.find? (fun a => decide (a.pc = 4 * k)) = none := by
  rw [List.find?_eq_none]
  intro e he
  have := hg e he
  simp
  omega
theorem lk_ge {PS : List Int} {base size cur : Int} {L : List En} {K : List Lk} (h : CInv PS base size cur L K) {k : Int} (hg : ∀ e ∈ L, k ≤ e.pc) {l : Lk} (hl : l ∈ K) : k ≤ l.f ∧ k ≤ l.t := by
  obtain ⟨x, hx, e1, _⟩ := h.lkf l hl
  obtain ⟨y, hy, e2⟩ := h.lkt l hl
  have := hg x hx
  have := hg y hy
  omega

set_option maxHeartbeats 1000000 in
set_option maxRecDepth 100000 in
theorem removes_law (sz : Int) (vs : SV) (l : List Q4) :
    Spec Try.prog 12 [.int .i64 sz, sv vs] [] [sl 4 eQ (sv vs) l] (X := Unit) (fun _ => True) (fun _ => .bool true) (fun _ => []) (fun _ => []) := by
  refine r_enter Try.func12 rfl Try.ntmps12 rfl fun w0 M H => ?_
  refine r_seq ?_
  refine r_region ?_
  refine r_p (p_assign rfl) rfl ?_
  refine r_nil ?_
  refine r_seq ?_
  refine r_region ?_
  refine r_call (xs := []) sanity_spec cb15 [] [] [] [] rfl rfl rfl rfl rfl rfl rfl rfl (fun _ _ => rfl) (fun _ _ _ => rfl) rfl (fun _ _ => ?_)
  refine r_p (p_assign rfl) rfl ?_
  refine r_nil ?_
  refine r_seq ?_
  refine r_region ?_
  refine r_p (p_move rfl) rfl ?_
  refine r_p (p_move rfl) rfl ?_
  refine r_call (xs := [.tmp 17, .tmp 18]) (played_spec sz vs l) cb16 [] [(false, 0)] [500, 501, 502, 503, 504, 505] [1] rfl rfl rfl rfl rfl rfl rfl rfl (fun _ _ => rfl) (fun _ _ _ => rfl) rfl (fun ⟨C, r, ⟨cur, L, K, ob, ol, vL, vC, S⟩⟩ hpl => ?_)
  obtain ⟨hi, hS⟩ := hpl
  dsimp only at hi hS ⊢
  have hlen := hi.hlen ps12_len
  have hlenK := hi.hlenK ps12_len
  have h60 := m60 sz
  have hsz := hi.sz
  have hcu := hi.cu
  have hse := size60 sz
  refine r_p (p_move rfl) rfl ?_
  refine r_p (p_extract rfl rfl) rfl ?_
  refine r_p (p_extract rfl rfl) rfl ?_
  refine r_p (p_assign rfl) rfl ?_
  refine r_p (p_assign rfl) rfl ?_
  refine r_nil ?_
  refine r_seq ?_
  refine r_seq ?_
  refine r_region ?_
  refine r_p (p_move rfl) rfl ?_
  refine r_p (p_bin rfl rfl (b_eqPn Try.underlying25)) rfl ?_
  refine r_nil ?_
  refine r_cond rfl (fun h1 => ?_) (fun h1 => ?_)
  · exact absurd h1 (by simp)
  · (try simp only [decide_eq_true_eq, decide_eq_false_iff_not, Bool.and_eq_true, Bool.or_eq_true, Bool.and_eq_false_iff, Bool.or_eq_false_iff, Bool.not_eq_true, Bool.not_eq_false, Bool.not_eq_true', Bool.not_eq_false', Bool.not_not, bne_iff_ne, beq_iff_eq] at h1)
    refine r_skip ?_
    refine r_seq ?_
    refine r_seq ?_
    refine r_region ?_
    refine r_p (p_assign rfl) rfl ?_
    refine r_nil ?_
    refine r_block ?_
    refine r_loop (X := Nat × List En × List Lk × SV × SV) (fun x => x.1 ≤ 12 ∧ CInv PS12 4096 (sizeN 4096 (sz % 60)) cur x.2.1 x.2.2.1 ∧ ∀ e ∈ x.2.1, 4 * (x.1 : Int) ≤ e.pc) (fun x => [(5, .bool true), (6, .pointer (some ⟨C, 0, none⟩)), (7, .pointer (some ⟨r, 0, none⟩)), (8, .int .i64 (x.1 : Int))]) (fun x => [(500, row C 84 (cC 4096 (sizeN 4096 (sz % 60)) cur ob ol)), (501, mpB ob x.2.1), (502, mpL ol x.2.2.1), (503, row r 34 (cR 4096 (sizeN 4096 (sz % 60)) cur x.2.2.2.1 x.2.2.2.2)), (504, own 36 5 eR (sv x.2.2.2.1) x.2.1), (505, own 100 3 eL (sv x.2.2.2.2) x.2.2.1)]) (fun x => [(0, sl 4 eQ (sv vs) l), (1, pgP S)]) (fun x => 12 - x.1) (0, L, K, vL, vC) ⟨Nat.zero_le _, hi, fun e he => by have := (ps12_ge (hi.ent e he).2.2.2.2.1).1; dsimp only; omega⟩ rfl rfl rfl (fun ⟨k, L, K, vL, vC⟩ hx0 => ?_)
    obtain ⟨hk0, hi, hge⟩ := hx0
    dsimp only at hk0 hi hge ⊢
    have hlen := hi.hlen ps12_len
    have hlenK := hi.hlenK ps12_len
    refine r_seq ?_
    refine r_seq ?_
    refine r_region ?_
    refine r_p (p_move rfl) rfl ?_
    refine r_p (p_bin rfl rfl b_lt) rfl ?_
    refine r_nil ?_
    refine r_cond rfl (fun h2 => ?_) (fun h2 => ?_)
    · (try simp only [decide_eq_true_eq, decide_eq_false_iff_not, Bool.and_eq_true, Bool.or_eq_true, Bool.and_eq_false_iff, Bool.or_eq_false_iff, Bool.not_eq_true, Bool.not_eq_false, Bool.not_eq_true', Bool.not_eq_false', Bool.not_not, bne_iff_ne, beq_iff_eq] at h2)
      have hk : k < 12 := by omega
      refine r_skip ?_
      refine r_seq ?_
      refine r_block ?_
      refine r_seq ?_
      refine r_region ?_
      refine r_p (p_move rfl) rfl ?_
      refine r_p (p_bin rfl rfl (b_mul (by first | exact w_i64 (by omega) (by omega) | rfl))) rfl ?_
      refine r_p (p_conv Try.underlying3 Try.underlying30 rfl (by first | exact w_u32 (by omega) (by omega) | rfl)) rfl ?_
      refine r_p (p_assign rfl) rfl ?_
      refine r_nil ?_
      refine r_seq ?_
      refine r_region ?_
      refine r_p (p_move rfl) rfl ?_
      refine r_p (p_move rfl) rfl ?_
      refine r_call (xs := [.tmp 31, .tmp 32]) (remove_specG C 4096 (sizeN 4096 (sz % 60)) cur ob ol hi ps12_len _) cb35 [500, 501, 502] [] [500, 501, 502, 33] [] rfl rfl rfl rfl rfl rfl rfl rfl (fun _ _ => rfl) (fun _ _ _ => rfl) rfl (fun v33 _ => ?_)
      refine r_p (p_move rfl) rfl ?_
      refine r_p (p_move rfl) rfl ?_
      refine r_call (xs := [.tmp 34, .tmp 35]) (rremove_spec r 4096 (sizeN 4096 (sz % 60)) cur vL vC L K _ (by omega) hlenK) cb36 [503, 504, 505] [] [503, 504, 505, 36] [] rfl rfl rfl rfl rfl rfl rfl rfl (fun _ _ => rfl) (fun _ _ _ => rfl) rfl (fun ⟨v36, vl, vk⟩ _ => ?_)
      dsimp only
      refine r_call (xs := [.tmp 33, .tmp 36]) (chainsO_spec v33 v36 _ (Nat.le_trans (List.length_filter_le _ _) (by omega))) cb27 [] [(true, 33), (true, 36)] [] [] rfl rfl rfl rfl rfl rfl rfl rfl (fun _ _ => rfl) (fun _ _ _ => rfl) rfl (fun _ _ => ?_)
      have hi1 := hi.gone [4 * (k : Int)]
      have hge1 := gone_ge hi (fun p hp => (ps12_ge hp).2.2) hge
      have hfn := find_ge hge1
      have hlK1 := hi1.hlenK ps12_len
      refine r_p (p_assign rfl) rfl ?_
      refine r_nil ?_
      refine r_seq ?_
      refine r_region ?_
      refine r_p (p_move rfl) rfl ?_
      refine r_p (p_move rfl) rfl ?_
      refine r_call (xs := [.tmp 39, .tmp 40]) (find_spec C 4096 (sizeN 4096 (sz % 60)) cur ob ol (L.filter (keepE [4 * (k : Int)])) _ _ hfn) cb21 [] [(true, 500), (true, 501)] [] [] rfl rfl rfl rfl rfl rfl rfl rfl (fun _ _ => rfl) (fun _ _ _ => rfl) rfl (fun _ _ => ?_)
      refine r_p (p_move rfl) rfl ?_
      refine r_p (p_extract rfl rfl) rfl ?_
      refine r_p (p_extract rfl rfl) rfl ?_
      refine r_alloc t54 rfl rfl fun b11 => ?_
      refine r_store_all (k := 11) t54 rfl rfl rfl rfl rfl rfl ?_
      refine r_p (p_assign rfl) rfl ?_
      refine r_nil ?_
      refine r_seq ?_
      refine r_seq ?_
      refine r_region ?_
      refine r_p (p_move rfl) rfl ?_
      refine r_p (p_not rfl) rfl ?_
      refine r_p (p_move rfl) rfl ?_
      refine r_split (t := 46) rfl (fun h3 => False.elim (by simp at h3)) (fun h3 => ?_)
      refine r_gyes rfl rfl ?_
      refine r_p (p_move rfl) rfl ?_
      refine r_p (p_pick rfl rfl rfl (by first | exact pick_and | exact pick_or |  rfl)) rfl ?_
      refine r_nil ?_
      refine r_cond rfl (fun h4 => ?_) (fun h4 => ?_)
      · exact absurd h4 (by simp)
      · (try simp only [decide_eq_true_eq, decide_eq_false_iff_not, Bool.and_eq_true, Bool.or_eq_true, Bool.and_eq_false_iff, Bool.or_eq_false_iff, Bool.not_eq_true, Bool.not_eq_false, Bool.not_eq_true', Bool.not_eq_false', Bool.not_not, bne_iff_ne, beq_iff_eq] at h4)
        refine r_skip ?_
        refine r_seq ?_
        refine r_region ?_
        refine r_p (p_move rfl) rfl ?_
        refine r_call (xs := [.tmp 49]) (links_spec C 4096 (sizeN 4096 (sz % 60)) cur ob ol (K.filter (keepK [4 * (k : Int)])) hi1.ordK hlK1) cb24 [] [(true, 500), (true, 502)] [50] [] rfl rfl rfl rfl rfl rfl rfl rfl (fun _ _ => rfl) (fun _ _ _ => rfl) rfl (fun v50 _ => ?_)
        refine r_p (p_assign rfl) rfl ?_
        refine r_nil ?_
        refine r_seq ?_
        refine r_region ?_
        refine r_p (p_assign rfl) rfl ?_
        refine r_nil ?_
        refine r_block ?_
        refine r_loop (X := Nat) (fun j => j ≤ (K.filter (keepK [4 * (k : Int)])).length) (fun j => [(5, .bool true), (6, .pointer (some ⟨C, 0, none⟩)), (7, .pointer (some ⟨r, 0, none⟩)), (8, .int .i64 (k : Int)), (9, .int .u32 (4 * (k : Int))), (13, sv v50), (14, .int .i64 (j : Int))]) (fun j => [(500, row C 84 (cC 4096 (sizeN 4096 (sz % 60)) cur ob ol)), (501, mpB ob (L.filter (keepE [4 * (k : Int)]))), (502, mpL ol (K.filter (keepK [4 * (k : Int)]))), (503, row r 34 (cR 4096 (sizeN 4096 (sz % 60)) cur vl vk)), (504, own 36 5 eR (sv vl) (L.filter (keepE [4 * (k : Int)]))), (505, own 100 3 eL (sv vk) (K.filter (keepK [4 * (k : Int)]))), (50, own 64 3 eL (sv v50) (K.filter (keepK [4 * (k : Int)])))]) (fun j => [(0, sl 4 eQ (sv vs) l), (1, pgP S)]) (fun j => (K.filter (keepK [4 * (k : Int)])).length - j) 0 (Nat.zero_le _) rfl rfl rfl (fun j hj0 => ?_)
        refine r_seq ?_
        refine r_seq ?_
        refine r_region ?_
        refine r_p (p_move rfl) rfl ?_
        refine r_p (p_move rfl) rfl ?_
        refine r_p (p_len_sl Try.underlying40 rfl (hs_own (k := 50) rfl)) rfl ?_
        refine r_p (p_bin rfl rfl b_lt) rfl ?_
        refine r_nil ?_
        refine r_cond rfl (fun h5 => ?_) (fun h5 => ?_)
        · (try simp only [decide_eq_true_eq, decide_eq_false_iff_not, Bool.and_eq_true, Bool.or_eq_true, Bool.and_eq_false_iff, Bool.or_eq_false_iff, Bool.not_eq_true, Bool.not_eq_false, Bool.not_eq_true', Bool.not_eq_false', Bool.not_not, bne_iff_ne, beq_iff_eq] at h5)
          have hj : j < (K.filter (keepK [4 * (k : Int)])).length := by omega
          have hlj := lk_ge hi1 hge1 (getD_memL hj)
          refine r_skip ?_
          refine r_seq ?_
          refine r_block ?_
          refine r_seq ?_
          refine r_region ?_
          refine r_p (p_move rfl) rfl ?_
          refine r_p (p_move rfl) rfl ?_
          refine r_p (p_idx_sl (j := j) Try.underlying40 t64 rfl rfl (hs_own (k := 50) rfl) (by first | rfl | omega) (by first | omega | (simp; done) | (simp; omega))) rfl ?_
          refine r_p (p_field fo64_0 rfl) rfl ?_
          refine r_p (p_load1 t30 rfl rfl (g_elp (hs_own (k := 50) rfl) (by intro _; rfl) (getD_get dL (by omega)) rfl)) rfl ?_
          refine r_p (p_move rfl) rfl ?_
          refine r_p (p_bin rfl rfl b_eq) rfl ?_
          refine r_p (p_move rfl) rfl ?_
          refine r_split (t := 64) rfl (fun h6 => False.elim (by have := of_decide_eq_true h6; omega)) (fun h6 => ?_)
          refine r_gyes rfl rfl ?_
          refine r_p (p_move rfl) rfl ?_
          refine r_gyes rfl rfl ?_
          refine r_p (p_move rfl) rfl ?_
          refine r_gyes rfl rfl ?_
          refine r_p (p_idx_sl (j := j) Try.underlying40 t64 rfl rfl (hs_own (k := 50) rfl) (by first | rfl | omega) (by first | omega | (simp; done) | (simp; omega))) rfl ?_
          refine r_gyes rfl rfl ?_
          refine r_p (p_field fo64_2 rfl) rfl ?_
          refine r_gyes rfl rfl ?_
          refine r_p (p_load1 t30 rfl rfl (g_elp (hs_own (k := 50) rfl) (by intro _; rfl) (getD_get dL (by omega)) rfl)) rfl ?_
          refine r_gyes rfl rfl ?_
          refine r_p (p_move rfl) rfl ?_
          refine r_gyes rfl rfl ?_
          refine r_p (p_bin rfl rfl b_eq) rfl ?_
          refine r_p (p_pick rfl rfl rfl (by first | exact pick_and | exact pick_or |  rfl)) rfl ?_
          refine r_nil ?_
          refine r_cond rfl (fun h7 => ?_) (fun h7 => ?_)
          · exfalso; have := of_decide_eq_true h7; omega
          · (try simp only [decide_eq_true_eq, decide_eq_false_iff_not, Bool.and_eq_true, Bool.or_eq_true, Bool.and_eq_false_iff, Bool.or_eq_false_iff, Bool.not_eq_true, Bool.not_eq_false, Bool.not_eq_true', Bool.not_eq_false', Bool.not_not, bne_iff_ne, beq_iff_eq] at h7)
            refine r_skip ?_
            refine r_region ?_
            refine r_p (p_move rfl) rfl ?_
            refine r_p (p_bin rfl rfl (b_add (by first | exact w_i64 (by omega) (by omega) | rfl))) rfl ?_
            refine r_p (p_assign rfl) rfl ?_
            refine r_nil ?_
            refine r_here (j + 1) ⟨by omega, by omega⟩ rfl rfl rfl
        · (try simp only [decide_eq_true_eq, decide_eq_false_iff_not, Bool.and_eq_true, Bool.or_eq_true, Bool.and_eq_false_iff, Bool.or_eq_false_iff, Bool.not_eq_true, Bool.not_eq_false, Bool.not_eq_true', Bool.not_eq_false', Bool.not_not, bne_iff_ne, beq_iff_eq] at h5)
          refine r_exit ?_
          refine r_region ?_
          refine r_p (p_move rfl) rfl ?_
          refine r_p (p_bin rfl rfl (b_add (by first | exact w_i64 (by omega) (by omega) | rfl))) rfl ?_
          refine r_p (p_assign rfl) rfl ?_
          refine r_nil ?_
          refine r_here (k + 1, (L.filter (keepE [4 * (k : Int)])), (K.filter (keepK [4 * (k : Int)])), vl, vk) ⟨⟨by dsimp only; omega, hi1, by dsimp only; exact_mod_cast hge1⟩, by dsimp only; omega⟩ rfl rfl rfl
    · (try simp only [decide_eq_true_eq, decide_eq_false_iff_not, Bool.and_eq_true, Bool.or_eq_true, Bool.and_eq_false_iff, Bool.or_eq_false_iff, Bool.not_eq_true, Bool.not_eq_false, Bool.not_eq_true', Bool.not_eq_false', Bool.not_not, bne_iff_ne, beq_iff_eq] at h2)
      have hk : k = 12 := by omega
      have hL0 : L = [] := List.eq_nil_iff_forall_not_mem.2 fun e he => by
        have h1 := (ps12_ge (hi.ent e he).2.2.2.2.1).2.1
        have h2 := hge e he
        omega
      subst hL0
      have hK0 : K = [] := List.eq_nil_iff_forall_not_mem.2 fun l hl => by
        obtain ⟨x, hx, _⟩ := hi.lkf l hl
        simp at hx
      subst hK0
      refine r_exit ?_
      refine r_seq ?_
      refine r_region ?_
      refine r_p (p_move rfl) rfl ?_
      refine r_p (p_move rfl) rfl ?_
      refine r_split (t := 74) rfl (fun h8 => ?_) (fun h8 => False.elim (by simp at h8))
      refine r_gyes rfl rfl ?_
      refine r_p (p_move rfl) rfl ?_
      refine r_gyes rfl rfl ?_
      refine r_call (xs := [.tmp 75]) (all_spec C 4096 (sizeN 4096 (sz % 60)) cur ob ol [] hi.hL (by simp)) cb26 [] [(true, 500), (true, 501)] [76] [] rfl rfl rfl rfl rfl rfl rfl rfl (fun _ _ => rfl) (fun _ _ _ => rfl) rfl (fun v76 _ => ?_)
      refine r_gyes rfl rfl ?_
      refine r_p (p_len_sl Try.underlying39 rfl (hs_own (k := 76) rfl)) rfl ?_
      refine r_gyes rfl rfl ?_
      refine r_p (p_bin rfl rfl b_eq) rfl ?_
      refine r_p (p_pick rfl rfl rfl (by first | exact pick_and | exact pick_or |  rfl)) rfl ?_
      refine r_p (p_move rfl) rfl ?_
      refine r_split (t := 80) rfl (fun h9 => ?_) (fun h9 => False.elim (by simp at h9))
      refine r_gyes rfl rfl ?_
      refine r_p (p_move rfl) rfl ?_
      refine r_gyes rfl rfl ?_
      refine r_call (xs := [.tmp 81]) (links_spec C 4096 (sizeN 4096 (sz % 60)) cur ob ol [] hi.ordK (by simp)) cb24 [] [(true, 500), (true, 502)] [82] [] rfl rfl rfl rfl rfl rfl rfl rfl (fun _ _ => rfl) (fun _ _ _ => rfl) rfl (fun v82 _ => ?_)
      refine r_gyes rfl rfl ?_
      refine r_p (p_len_sl Try.underlying40 rfl (hs_own (k := 82) rfl)) rfl ?_
      refine r_gyes rfl rfl ?_
      refine r_p (p_bin rfl rfl b_eq) rfl ?_
      refine r_p (p_pick rfl rfl rfl (by first | exact pick_and | exact pick_or |  rfl)) rfl ?_
      refine r_p (p_move rfl) rfl ?_
      refine r_split (t := 86) rfl (fun h10 => ?_) (fun h10 => False.elim (by simp at h10))
      refine r_gyes rfl rfl ?_
      refine r_p (p_move rfl) rfl ?_
      refine r_gyes rfl rfl ?_
      refine r_call (xs := [.tmp 87]) (used_spec C 4096 (sizeN 4096 (sz % 60)) cur ob ol [] hi.hL (by simp) (by simp)) cb31 [] [(true, 500), (true, 501)] [] [] rfl rfl rfl rfl rfl rfl rfl rfl (fun _ _ => rfl) (fun _ _ _ => rfl) rfl (fun _ _ => ?_)
      refine r_gyes rfl rfl ?_
      refine r_p (p_bin rfl rfl b_eq) rfl ?_
      refine r_p (p_pick rfl rfl rfl (by first | exact pick_and | exact pick_or |  rfl)) rfl ?_
      refine r_p (p_assign rfl) rfl ?_
      refine r_nil ?_
      refine r_cret ?_
      refine r_ret () trivial rfl (rs1 (rv_tmp rfl)) (congrArg Value.bool (by simp [usedL])) [] [] rfl rfl rfl

end Go.Proofs.Ytbkonlkffajhkaa
