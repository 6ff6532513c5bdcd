/-
  The reference model: what it removes; putting an element in order. Condition: few blocks and links.
-/
import Derived.Test.YtbkonlkffajhkaaR1
namespace Go.Proofs.Ytbkonlkffajhkaa
set_option linter.unusedSimpArgs false
set_option linter.unusedVariables false
open Go.RowKit

theorem take_filter {α : Type} {d : α} {l : List α} {k : Nat} (hk : k < l.length) (p : α → Bool) : (l.take (k + 1)).filter p = (l.take k).filter p ++ (if p (l.getD k d) = true then [l.getD k d] else []) := by
  rw [List.take_succ_eq_append_getElem hk, List.filter_append, List.getD_eq_getElem?_getD, List.getElem?_eq_getElem hk]
  congr 1
  simp [List.filter]
  split <;> simp_all
theorem filter_take_len {α : Type} (l : List α) (p : α → Bool) (k : Nat) : ((l.take k).filter p).length ≤ l.length := by
  have h1 := List.length_filter_le p (l.take k)
  have h2 := List.length_take_le' k l
  omega

set_option maxHeartbeats 1000000 in
set_option maxRecDepth 100000 in
theorem rdrop_spec (r : Nat) (base size cur : Int) (vL vC : SV) (vp : SV) (G : List Int) (L : List En) (K : List Lk) (hlen : L.length < 40) (hlenK : K.length < 40) (hgl : G.length ≤ 1000) :
    Spec Try.prog 53 [.pointer (some ⟨r, 0, none⟩), sv vp] [row r 34 (cR base size cur vL vC), own 36 5 eR (sv vL) L, own 100 3 eL (sv vC) K] [sl 1 eW (sv vp) G] (X := (SV × SV × SV)) (fun _ => True) (fun x => sv x.1) (fun x => [row r 34 (cR base size cur x.2.1 x.2.2), own 36 5 eR (sv x.2.1) (L.filter (keepE G)), own 100 3 eL (sv x.2.2) (K.filter (keepK G)), own 100 3 eL (sv x.1) (K.filter (cutK G))]) (fun _ => []) := by
  refine r_enter Try.func53 rfl Try.ntmps53 rfl fun w0 M H => ?_
  refine r_nilown 300 (S := 100) (s := 3) (enc := eL) ?_
  refine r_nilown 301 (S := 100) (s := 3) (enc := eL) ?_
  refine r_nilown 302 (S := 36) (s := 5) (enc := eR) ?_
  refine r_seq ?_
  refine r_region ?_
  refine r_p (p_assign rfl) rfl ?_
  refine r_nil ?_
  refine r_seq ?_
  refine r_region ?_
  refine r_p (p_assign rfl) rfl ?_
  refine r_nil ?_
  refine r_seq ?_
  refine r_region ?_
  refine r_p (p_assign rfl) rfl ?_
  refine r_nil ?_
  refine r_seq ?_
  refine r_seq ?_
  refine r_region ?_
  refine r_p (p_assign rfl) rfl ?_
  refine r_nil ?_
  refine r_block ?_
  refine r_loop (X := Nat × SV × SV) (fun x => x.1 ≤ K.length) (fun x => [(0, .pointer (some ⟨r, 0, none⟩)), (1, sv vp), (5, sv x.2.1), (6, sv x.2.2), (7, .int .i64 (x.1 : Int))]) (fun x => [(0, row r 34 (cR base size cur vL vC)), (1, own 36 5 eR (sv vL) L), (2, own 100 3 eL (sv vC) K), (300, own 100 3 eL (sv x.2.1) ((K.take x.1).filter (cutK G))), (301, own 100 3 eL (sv x.2.2) ((K.take x.1).filter (keepK G))), (302, own 36 5 eR (.slice none 0 0) [])]) (fun x => [(0, sl 1 eW (sv vp) G)]) (fun x => K.length - x.1) (0, nilS, nilS) (Nat.zero_le _) rfl rfl rfl (fun ⟨k, vo, vk⟩ hk0 => ?_)
  dsimp only at hk0 ⊢
  have hf1 := filter_take_len K (cutK G) k
  have hf2 := filter_take_len K (keepK G) k
  refine r_seq ?_
  refine r_seq ?_
  refine r_region ?_
  refine r_p (p_move rfl) rfl ?_
  refine r_p (p_move rfl) rfl ?_
  refine r_p (p_nilCheck rfl) rfl ?_
  refine r_p (p_field0 fo34_4 rfl) rfl ?_
  refine r_p (p_load1 t32 rfl rfl (g_row1 (k := 0) rfl rfl)) rfl ?_
  refine r_p (p_len_sl Try.underlying32 rfl (hs_own (k := 2) rfl)) rfl ?_
  refine r_p (p_bin rfl rfl b_lt) rfl ?_
  refine r_nil ?_
  refine r_cond rfl (fun h1 => ?_) (fun h1 => ?_)
  · (try simp only [decide_eq_true_eq, decide_eq_false_iff_not, Bool.and_eq_true, Bool.or_eq_true, Bool.and_eq_false_iff, Bool.or_eq_false_iff, Bool.not_eq_true, Bool.not_eq_false, Bool.not_eq_true', Bool.not_eq_false', Bool.not_not, bne_iff_ne, beq_iff_eq] at h1)
    have hk : k < K.length := by omega
    refine r_skip ?_
    refine r_seq ?_
    refine r_block ?_
    refine r_seq ?_
    refine r_region ?_
    refine r_p (p_move rfl) rfl ?_
    refine r_p (p_nilCheck rfl) rfl ?_
    refine r_p (p_field0 fo34_4 rfl) rfl ?_
    refine r_p (p_load1 t32 rfl rfl (g_row1 (k := 0) rfl rfl)) rfl ?_
    refine r_p (p_move rfl) rfl ?_
    refine r_p (p_idx_sl (j := k) Try.underlying32 t100 rfl rfl (hs_own (k := 2) rfl) (by first | rfl | omega) (by first | omega | (simp; done) | (simp; omega))) rfl ?_
    refine r_p (p_field fo100_0 rfl) rfl ?_
    refine r_p (p_load1 t30 rfl rfl (g_elp (hs_own (k := 2) rfl) (by intro _; rfl) (getD_get dL (by omega)) rfl)) rfl ?_
    refine r_p (p_move rfl) rfl ?_
    refine r_call (xs := [.tmp 29, .tmp 30]) (among_spec _ vp G hgl) cb69 [] [(false, 0)] [] [] rfl rfl rfl rfl rfl rfl rfl rfl (fun _ _ => rfl) (fun _ _ _ => rfl) rfl (fun _ _ => ?_)
    refine r_p (p_assign rfl) rfl ?_
    refine r_nil ?_
    refine r_seq ?_
    refine r_region ?_
    refine r_p (p_move rfl) rfl ?_
    refine r_p (p_nilCheck rfl) rfl ?_
    refine r_p (p_field0 fo34_4 rfl) rfl ?_
    refine r_p (p_load1 t32 rfl rfl (g_row1 (k := 0) rfl rfl)) rfl ?_
    refine r_p (p_move rfl) rfl ?_
    refine r_p (p_idx_sl (j := k) Try.underlying32 t100 rfl rfl (hs_own (k := 2) rfl) (by first | rfl | omega) (by first | omega | (simp; done) | (simp; omega))) rfl ?_
    refine r_p (p_field fo100_2 rfl) rfl ?_
    refine r_p (p_load1 t30 rfl rfl (g_elp (hs_own (k := 2) rfl) (by intro _; rfl) (getD_get dL (by omega)) rfl)) rfl ?_
    refine r_p (p_move rfl) rfl ?_
    refine r_call (xs := [.tmp 39, .tmp 40]) (among_spec _ vp G hgl) cb69 [] [(false, 0)] [] [] rfl rfl rfl rfl rfl rfl rfl rfl (fun _ _ => rfl) (fun _ _ _ => rfl) rfl (fun _ _ => ?_)
    refine r_p (p_assign rfl) rfl ?_
    refine r_nil ?_
    refine r_seq ?_
    refine r_seq ?_
    refine r_region ?_
    refine r_p (p_move rfl) rfl ?_
    refine r_p (p_not rfl) rfl ?_
    refine r_p (p_move rfl) rfl ?_
    refine r_gp [] rfl rfl trivial (fun hg2 => p_move rfl) rfl ?_
    refine r_gp [(45, _)] rfl rfl ⟨rfl, trivial⟩ (fun hg3 => p_not rfl) rfl ?_
    refine r_p (p_pick rfl rfl rfl (by first | exact pick_and | exact pick_or |  rfl)) rfl ?_
    refine r_nil ?_
    refine r_cond rfl (fun h4 => ?_) (fun h4 => ?_)
    · (try simp only [decide_eq_true_eq, decide_eq_false_iff_not, Bool.and_eq_true, Bool.or_eq_true, Bool.and_eq_false_iff, Bool.or_eq_false_iff, Bool.not_eq_true, Bool.not_eq_false, Bool.not_eq_true', Bool.not_eq_false', Bool.not_not, bne_iff_ne, beq_iff_eq] at h4)
      refine r_region ?_
      refine r_p (p_move rfl) rfl ?_
      refine r_p (p_move rfl) rfl ?_
      refine r_p (p_nilCheck rfl) rfl ?_
      refine r_p (p_field0 fo34_4 rfl) rfl ?_
      refine r_p (p_load1 t32 rfl rfl (g_row1 (k := 0) rfl rfl)) rfl ?_
      refine r_p (p_move rfl) rfl ?_
      refine r_p (p_idx_sl (j := k) Try.underlying32 t100 rfl rfl (hs_own (k := 2) rfl) (by first | rfl | omega) (by first | omega | (simp; done) | (simp; omega))) rfl ?_
      refine r_p (p_loadA t100 rfl rfl rfl (g_el' (hs_own (k := 2) rfl) (by intro _; rfl) (getD_get dL (by omega)) (by rfl))) rfl ?_
      refine r_bslice1 eL (K.getD k dL) Try.underlying32 t100 rfl (by decide) (by decide) rfl rfl rfl rfl fun v56 => ?_
      refine r_append 301 Try.underlying32 t100 rfl (by decide) (fun _ => rfl) (fun _ => rfl) rfl rfl rfl (hs_own (k := 56) rfl) (by first | omega | (simp; done) | (simp; omega)) (by unfold maxLen; first | omega | (simp; done) | (simp; omega)) rfl fun v57 => ?_
      refine r_p (p_assign rfl) rfl ?_
      refine r_nil ?_
      refine r_seq ?_
      refine r_region ?_
      refine r_p (p_move rfl) rfl ?_
      refine r_p (p_not rfl) rfl ?_
      refine r_p (p_move rfl) rfl ?_
      refine r_gp [] rfl rfl trivial (fun hg5 => p_move rfl) rfl ?_
      refine r_p (p_pick rfl rfl rfl (by first | exact pick_and | exact pick_or |  rfl)) rfl ?_
      refine r_nil ?_
      refine r_cond rfl (fun h6 => ?_) (fun h6 => ?_)
      · (try simp only [decide_eq_true_eq, decide_eq_false_iff_not, Bool.and_eq_true, Bool.or_eq_true, Bool.and_eq_false_iff, Bool.or_eq_false_iff, Bool.not_eq_true, Bool.not_eq_false, Bool.not_eq_true', Bool.not_eq_false', Bool.not_not, bne_iff_ne, beq_iff_eq] at h6)
        refine r_region ?_
        refine r_p (p_move rfl) rfl ?_
        refine r_p (p_move rfl) rfl ?_
        refine r_p (p_nilCheck rfl) rfl ?_
        refine r_p (p_field0 fo34_4 rfl) rfl ?_
        refine r_p (p_load1 t32 rfl rfl (g_row1 (k := 0) rfl rfl)) rfl ?_
        refine r_p (p_move rfl) rfl ?_
        refine r_p (p_idx_sl (j := k) Try.underlying32 t100 rfl rfl (hs_own (k := 2) rfl) (by first | rfl | omega) (by first | omega | (simp; done) | (simp; omega))) rfl ?_
        refine r_p (p_loadA t100 rfl rfl rfl (g_el' (hs_own (k := 2) rfl) (by intro _; rfl) (getD_get dL (by omega)) (by rfl))) rfl ?_
        refine r_bslice1 eL (K.getD k dL) Try.underlying32 t100 rfl (by decide) (by decide) rfl rfl rfl rfl fun v71 => ?_
        refine r_append 300 Try.underlying32 t100 rfl (by decide) (fun _ => rfl) (fun _ => rfl) rfl rfl rfl (hs_own (k := 71) rfl) (by first | omega | (simp; done) | (simp; omega)) (by unfold maxLen; first | omega | (simp; done) | (simp; omega)) rfl fun v72 => ?_
        refine r_p (p_assign rfl) rfl ?_
        refine r_nil ?_
        refine r_region ?_
        refine r_p (p_move rfl) rfl ?_
        refine r_p (p_bin rfl rfl (b_add (by first | exact w_i64 (by omega) (by omega) | rfl))) rfl ?_
        refine r_p (p_assign rfl) rfl ?_
        refine r_nil ?_
        have hkp : keepK G (K.getD k dL) = true := by
          unfold keepK
          cases ha : decide ((K.getD k dL).f ∈ G) <;> cases hb : decide ((K.getD k dL).t ∈ G) <;> simp_all
        have hct : cutK G (K.getD k dL) = true := by
          unfold cutK
          cases ha : decide ((K.getD k dL).f ∈ G) <;> cases hb : decide ((K.getD k dL).t ∈ G) <;> simp_all
        refine r_here (k + 1, _, _) ⟨by dsimp only; omega, by dsimp only; omega⟩ rfl (by rw [take_filter (d := dL) hk, take_filter (d := dL) hk, hkp, hct]; simp; rfl) rfl
      · (try simp only [decide_eq_true_eq, decide_eq_false_iff_not, Bool.and_eq_true, Bool.or_eq_true, Bool.and_eq_false_iff, Bool.or_eq_false_iff, Bool.not_eq_true, Bool.not_eq_false, Bool.not_eq_true', Bool.not_eq_false', Bool.not_not, bne_iff_ne, beq_iff_eq] at h6)
        refine r_skip ?_
        refine r_region ?_
        refine r_p (p_move rfl) rfl ?_
        refine r_p (p_bin rfl rfl (b_add (by first | exact w_i64 (by omega) (by omega) | rfl))) rfl ?_
        refine r_p (p_assign rfl) rfl ?_
        refine r_nil ?_
        have hkp : keepK G (K.getD k dL) = true := by
          unfold keepK
          cases ha : decide ((K.getD k dL).f ∈ G) <;> cases hb : decide ((K.getD k dL).t ∈ G) <;> simp_all
        have hct : cutK G (K.getD k dL) = false := by
          unfold cutK
          cases ha : decide ((K.getD k dL).f ∈ G) <;> cases hb : decide ((K.getD k dL).t ∈ G) <;> simp_all
        refine r_here (k + 1, _, _) ⟨by dsimp only; omega, by dsimp only; omega⟩ rfl (by rw [take_filter (d := dL) hk, take_filter (d := dL) hk, hkp, hct]; simp; rfl) rfl
    · (try simp only [decide_eq_true_eq, decide_eq_false_iff_not, Bool.and_eq_true, Bool.or_eq_true, Bool.and_eq_false_iff, Bool.or_eq_false_iff, Bool.not_eq_true, Bool.not_eq_false, Bool.not_eq_true', Bool.not_eq_false', Bool.not_not, bne_iff_ne, beq_iff_eq] at h4)
      refine r_skip ?_
      refine r_seq ?_
      refine r_region ?_
      refine r_p (p_move rfl) rfl ?_
      refine r_p (p_not rfl) rfl ?_
      refine r_p (p_move rfl) rfl ?_
      refine r_gp [] rfl rfl trivial (fun hg7 => p_move rfl) rfl ?_
      refine r_p (p_pick rfl rfl rfl (by first | exact pick_and | exact pick_or |  rfl)) rfl ?_
      refine r_nil ?_
      refine r_cond rfl (fun h8 => ?_) (fun h8 => ?_)
      · (try simp only [decide_eq_true_eq, decide_eq_false_iff_not, Bool.and_eq_true, Bool.or_eq_true, Bool.and_eq_false_iff, Bool.or_eq_false_iff, Bool.not_eq_true, Bool.not_eq_false, Bool.not_eq_true', Bool.not_eq_false', Bool.not_not, bne_iff_ne, beq_iff_eq] at h8)
        refine r_region ?_
        refine r_p (p_move rfl) rfl ?_
        refine r_p (p_move rfl) rfl ?_
        refine r_p (p_nilCheck rfl) rfl ?_
        refine r_p (p_field0 fo34_4 rfl) rfl ?_
        refine r_p (p_load1 t32 rfl rfl (g_row1 (k := 0) rfl rfl)) rfl ?_
        refine r_p (p_move rfl) rfl ?_
        refine r_p (p_idx_sl (j := k) Try.underlying32 t100 rfl rfl (hs_own (k := 2) rfl) (by first | rfl | omega) (by first | omega | (simp; done) | (simp; omega))) rfl ?_
        refine r_p (p_loadA t100 rfl rfl rfl (g_el' (hs_own (k := 2) rfl) (by intro _; rfl) (getD_get dL (by omega)) (by rfl))) rfl ?_
        refine r_bslice1 eL (K.getD k dL) Try.underlying32 t100 rfl (by decide) (by decide) rfl rfl rfl rfl fun v71 => ?_
        refine r_append 300 Try.underlying32 t100 rfl (by decide) (fun _ => rfl) (fun _ => rfl) rfl rfl rfl (hs_own (k := 71) rfl) (by first | omega | (simp; done) | (simp; omega)) (by unfold maxLen; first | omega | (simp; done) | (simp; omega)) rfl fun v72 => ?_
        refine r_p (p_assign rfl) rfl ?_
        refine r_nil ?_
        refine r_region ?_
        refine r_p (p_move rfl) rfl ?_
        refine r_p (p_bin rfl rfl (b_add (by first | exact w_i64 (by omega) (by omega) | rfl))) rfl ?_
        refine r_p (p_assign rfl) rfl ?_
        refine r_nil ?_
        have hkp : keepK G (K.getD k dL) = false := by
          unfold keepK
          cases ha : decide ((K.getD k dL).f ∈ G) <;> cases hb : decide ((K.getD k dL).t ∈ G) <;> simp_all
        have hct : cutK G (K.getD k dL) = true := by
          unfold cutK
          cases ha : decide ((K.getD k dL).f ∈ G) <;> cases hb : decide ((K.getD k dL).t ∈ G) <;> simp_all
        refine r_here (k + 1, _, _) ⟨by dsimp only; omega, by dsimp only; omega⟩ rfl (by rw [take_filter (d := dL) hk, take_filter (d := dL) hk, hkp, hct]; simp; rfl) rfl
      · (try simp only [decide_eq_true_eq, decide_eq_false_iff_not, Bool.and_eq_true, Bool.or_eq_true, Bool.and_eq_false_iff, Bool.or_eq_false_iff, Bool.not_eq_true, Bool.not_eq_false, Bool.not_eq_true', Bool.not_eq_false', Bool.not_not, bne_iff_ne, beq_iff_eq] at h8)
        refine r_skip ?_
        refine r_region ?_
        refine r_p (p_move rfl) rfl ?_
        refine r_p (p_bin rfl rfl (b_add (by first | exact w_i64 (by omega) (by omega) | rfl))) rfl ?_
        refine r_p (p_assign rfl) rfl ?_
        refine r_nil ?_
        have hkp : keepK G (K.getD k dL) = false := by
          unfold keepK
          cases ha : decide ((K.getD k dL).f ∈ G) <;> cases hb : decide ((K.getD k dL).t ∈ G) <;> simp_all
        have hct : cutK G (K.getD k dL) = false := by
          unfold cutK
          cases ha : decide ((K.getD k dL).f ∈ G) <;> cases hb : decide ((K.getD k dL).t ∈ G) <;> simp_all
        refine r_here (k + 1, _, _) ⟨by dsimp only; omega, by dsimp only; omega⟩ rfl (by rw [take_filter (d := dL) hk, take_filter (d := dL) hk, hkp, hct]; simp; rfl) rfl
  · (try simp only [decide_eq_true_eq, decide_eq_false_iff_not, Bool.and_eq_true, Bool.or_eq_true, Bool.and_eq_false_iff, Bool.or_eq_false_iff, Bool.not_eq_true, Bool.not_eq_false, Bool.not_eq_true', Bool.not_eq_false', Bool.not_not, bne_iff_ne, beq_iff_eq] at h1)
    have hk : k = K.length := by omega
    subst hk
    refine r_exit ?_
    refine r_seq ?_
    refine r_region ?_
    refine r_p (p_move rfl) rfl ?_
    refine r_p (p_move rfl) rfl ?_
    refine r_p (p_nilCheck rfl) rfl ?_
    refine r_p (p_field0 fo34_4 rfl) rfl ?_
    refine r_store_row (k := 0) t32 rfl rfl rfl rfl rfl rfl rfl rfl ?_
    refine r_nil ?_
    refine r_seq ?_
    refine r_region ?_
    refine r_p (p_assign rfl) rfl ?_
    refine r_nil ?_
    refine r_seq ?_
    refine r_seq ?_
    refine r_region ?_
    refine r_p (p_assign rfl) rfl ?_
    refine r_nil ?_
    refine r_block ?_
    refine r_loop (X := Nat × SV) (fun x => x.1 ≤ L.length) (fun x => [(0, .pointer (some ⟨r, 0, none⟩)), (1, sv vp), (5, sv vo), (10, sv x.2), (11, .int .i64 (x.1 : Int))]) (fun x => [(0, row r 34 (cR base size cur vL vk)), (1, own 36 5 eR (sv vL) L), (300, own 100 3 eL (sv vo) (K.filter (cutK G))), (301, own 100 3 eL (sv vk) (K.filter (keepK G))), (302, own 36 5 eR (sv x.2) ((L.take x.1).filter (keepE G)))]) (fun x => [(0, sl 1 eW (sv vp) G)]) (fun x => L.length - x.1) (0, nilS) (Nat.zero_le _) rfl (by rw [List.take_length]; rfl) rfl (fun ⟨k, vl⟩ hk0 => ?_)
    dsimp only at hk0 ⊢
    have hf3 := filter_take_len L (keepE G) k
    refine r_seq ?_
    refine r_seq ?_
    refine r_region ?_
    refine r_p (p_move rfl) rfl ?_
    refine r_p (p_move rfl) rfl ?_
    refine r_p (p_nilCheck rfl) rfl ?_
    refine r_p (p_field0 fo34_3 rfl) rfl ?_
    refine r_p (p_load1 t31 rfl rfl (g_row1 (k := 0) rfl rfl)) rfl ?_
    refine r_p (p_len_sl Try.underlying31 rfl (hs_own (k := 1) rfl)) rfl ?_
    refine r_p (p_bin rfl rfl b_lt) rfl ?_
    refine r_nil ?_
    refine r_cond rfl (fun h9 => ?_) (fun h9 => ?_)
    · (try simp only [decide_eq_true_eq, decide_eq_false_iff_not, Bool.and_eq_true, Bool.or_eq_true, Bool.and_eq_false_iff, Bool.or_eq_false_iff, Bool.not_eq_true, Bool.not_eq_false, Bool.not_eq_true', Bool.not_eq_false', Bool.not_not, bne_iff_ne, beq_iff_eq] at h9)
      have hk : k < L.length := by omega
      refine r_skip ?_
      refine r_seq ?_
      refine r_block ?_
      refine r_seq ?_
      refine r_region ?_
      refine r_p (p_move rfl) rfl ?_
      refine r_p (p_nilCheck rfl) rfl ?_
      refine r_p (p_field0 fo34_3 rfl) rfl ?_
      refine r_p (p_load1 t31 rfl rfl (g_row1 (k := 0) rfl rfl)) rfl ?_
      refine r_p (p_move rfl) rfl ?_
      refine r_p (p_idx_sl (j := k) Try.underlying31 t36 rfl rfl (hs_own (k := 1) rfl) (by first | rfl | omega) (by first | omega | (simp; done) | (simp; omega))) rfl ?_
      refine r_p (p_field fo36_0 rfl) rfl ?_
      refine r_p (p_load1 t30 rfl rfl (g_elp (hs_own (k := 1) rfl) (by intro _; rfl) (getD_get dE (by omega)) rfl)) rfl ?_
      refine r_p (p_move rfl) rfl ?_
      refine r_call (xs := [.tmp 93, .tmp 94]) (among_spec _ vp G hgl) cb69 [] [(false, 0)] [] [] rfl rfl rfl rfl rfl rfl rfl rfl (fun _ _ => rfl) (fun _ _ _ => rfl) rfl (fun _ _ => ?_)
      refine r_p (p_assign rfl) rfl ?_
      refine r_nil ?_
      refine r_seq ?_
      refine r_region ?_
      refine r_p (p_move rfl) rfl ?_
      refine r_p (p_not rfl) rfl ?_
      refine r_nil ?_
      refine r_cond rfl (fun h10 => ?_) (fun h10 => ?_)
      · (try simp only [decide_eq_true_eq, decide_eq_false_iff_not, Bool.and_eq_true, Bool.or_eq_true, Bool.and_eq_false_iff, Bool.or_eq_false_iff, Bool.not_eq_true, Bool.not_eq_false, Bool.not_eq_true', Bool.not_eq_false', Bool.not_not, bne_iff_ne, beq_iff_eq] at h10)
        refine r_region ?_
        refine r_p (p_move rfl) rfl ?_
        refine r_p (p_move rfl) rfl ?_
        refine r_p (p_nilCheck rfl) rfl ?_
        refine r_p (p_field0 fo34_3 rfl) rfl ?_
        refine r_p (p_load1 t31 rfl rfl (g_row1 (k := 0) rfl rfl)) rfl ?_
        refine r_p (p_move rfl) rfl ?_
        refine r_p (p_idx_sl (j := k) Try.underlying31 t36 rfl rfl (hs_own (k := 1) rfl) (by first | rfl | omega) (by first | omega | (simp; done) | (simp; omega))) rfl ?_
        refine r_p (p_loadA t36 rfl rfl rfl (g_el' (hs_own (k := 1) rfl) (by intro _; rfl) (getD_get dE (by omega)) (by rfl))) rfl ?_
        refine r_bslice1 eR (L.getD k dE) Try.underlying31 t36 rfl (by decide) (by decide) rfl rfl rfl rfl fun v106 => ?_
        refine r_append 302 Try.underlying31 t36 rfl (by decide) (fun _ => rfl) (fun _ => rfl) rfl rfl rfl (hs_own (k := 106) rfl) (by first | omega | (simp; done) | (simp; omega)) (by unfold maxLen; first | omega | (simp; done) | (simp; omega)) rfl fun v107 => ?_
        refine r_p (p_assign rfl) rfl ?_
        refine r_nil ?_
        refine r_region ?_
        refine r_p (p_move rfl) rfl ?_
        refine r_p (p_bin rfl rfl (b_add (by first | exact w_i64 (by omega) (by omega) | rfl))) rfl ?_
        refine r_p (p_assign rfl) rfl ?_
        refine r_nil ?_
        have hkp : keepE G (L.getD k dE) = true := by
          unfold keepE
          simp_all
        refine r_here (k + 1, _) ⟨by dsimp only; omega, by dsimp only; omega⟩ rfl (by rw [take_filter (d := dE) hk, hkp]; simp; rfl) rfl
      · (try simp only [decide_eq_true_eq, decide_eq_false_iff_not, Bool.and_eq_true, Bool.or_eq_true, Bool.and_eq_false_iff, Bool.or_eq_false_iff, Bool.not_eq_true, Bool.not_eq_false, Bool.not_eq_true', Bool.not_eq_false', Bool.not_not, bne_iff_ne, beq_iff_eq] at h10)
        refine r_skip ?_
        refine r_region ?_
        refine r_p (p_move rfl) rfl ?_
        refine r_p (p_bin rfl rfl (b_add (by first | exact w_i64 (by omega) (by omega) | rfl))) rfl ?_
        refine r_p (p_assign rfl) rfl ?_
        refine r_nil ?_
        have hkp : keepE G (L.getD k dE) = false := by
          unfold keepE
          simp_all
        refine r_here (k + 1, _) ⟨by dsimp only; omega, by dsimp only; omega⟩ rfl (by rw [take_filter (d := dE) hk, hkp]; simp; rfl) rfl
    · (try simp only [decide_eq_true_eq, decide_eq_false_iff_not, Bool.and_eq_true, Bool.or_eq_true, Bool.and_eq_false_iff, Bool.or_eq_false_iff, Bool.not_eq_true, Bool.not_eq_false, Bool.not_eq_true', Bool.not_eq_false', Bool.not_not, bne_iff_ne, beq_iff_eq] at h9)
      have hk : k = L.length := by omega
      subst hk
      refine r_exit ?_
      refine r_seq ?_
      refine r_region ?_
      refine r_p (p_move rfl) rfl ?_
      refine r_p (p_move rfl) rfl ?_
      refine r_p (p_nilCheck rfl) rfl ?_
      refine r_p (p_field0 fo34_3 rfl) rfl ?_
      refine r_store_row (k := 0) t31 rfl rfl rfl rfl rfl rfl rfl rfl ?_
      refine r_nil ?_
      refine r_seq ?_
      refine r_region ?_
      refine r_p (p_move rfl) rfl ?_
      refine r_p (p_assign rfl) rfl ?_
      refine r_nil ?_
      refine r_cret ?_
      refine r_ret (vo, vl, vk) trivial rfl (rs1 (rv_tmp rfl)) rfl [0, 302, 301, 300] [] rfl (by rw [List.take_length]; rfl) rfl
set_option maxRecDepth 100000 in
theorem rremove_spec (r : Nat) (base size cur : Int) (vL vC : SV) (L : List En) (K : List Lk) (pc : Int) (hlen : L.length < 40) (hlenK : K.length < 40) :
    Spec Try.prog 36 [.pointer (some ⟨r, 0, none⟩), .int .u32 pc] [row r 34 (cR base size cur vL vC), own 36 5 eR (sv vL) L, own 100 3 eL (sv vC) K] [] (X := (SV × SV × SV)) (fun _ => True) (fun x => sv x.1) (fun x => [row r 34 (cR base size cur x.2.1 x.2.2), own 36 5 eR (sv x.2.1) (L.filter (keepE [pc])), own 100 3 eL (sv x.2.2) (K.filter (keepK [pc])), own 100 3 eL (sv x.1) (K.filter (cutK [pc]))]) (fun _ => []) := by
  refine r_enter Try.func36 rfl Try.ntmps36 rfl fun w0 M H => ?_
  refine r_seq ?_
  refine r_region ?_
  refine r_p (p_assign rfl) rfl ?_
  refine r_nil ?_
  refine r_seq ?_
  refine r_region ?_
  refine r_p (p_move rfl) rfl ?_
  refine r_p (p_move rfl) rfl ?_
  refine r_bslice1 eW pc Try.underlying44 t30 rfl (by decide) (by decide) rfl rfl rfl rfl fun v7 => ?_
  refine r_call (xs := [.tmp 5, .tmp 7]) ((rdrop_spec r base size cur vL vC v7 [pc] L K hlen hlenK (by simp)).roL (own_to_sl (T := 30))) cb53 [0, 1, 2] [(true, 7)] [0, 1, 2, 8] [] rfl rfl rfl rfl rfl rfl rfl rfl (fun _ _ => rfl) (fun _ _ _ => rfl) rfl (fun x8 _ => ?_)
  refine r_p (p_assign rfl) rfl ?_
  refine r_nil ?_
  refine r_cret ?_
  refine r_ret x8 trivial rfl (rs1 (rv_tmp rfl)) rfl [0, 1, 2, 8] [] rfl rfl rfl
/-- Putting an element before the first one that it must precede. -/
def insF {α : Type} (q : α → Bool) (e : α) (l : List α) : List α × Bool := l.foldl (fun s x => if (!s.2 && q x) = true then (s.1 ++ [e] ++ [x], true) else (s.1 ++ [x], s.2)) ([], false)
def insD {α : Type} (q : α → Bool) (e : α) (l : List α) : List α := if (insF q e l).2 = true then (insF q e l).1 else (insF q e l).1 ++ [e]
theorem insF_snoc {α : Type} (q : α → Bool) (e x : α) (l : List α) : insF q e (l ++ [x]) = if (!(insF q e l).2 && q x) = true then ((insF q e l).1 ++ [e] ++ [x], true) else ((insF q e l).1 ++ [x], (insF q e l).2) := by
  simp [insF, List.foldl_append]
theorem foldl_ins {α : Type} (q : α → Bool) (e : α) : ∀ (l acc : List α), (l.foldl (fun s x => if (!s.2 && q x) = true then (s.1 ++ [e] ++ [x], true) else (s.1 ++ [x], s.2)) (acc, true) = (acc ++ l, true)) ∧
    (l.foldl (fun s x => if (!s.2 && q x) = true then (s.1 ++ [e] ++ [x], true) else (s.1 ++ [x], s.2)) (acc, false) = if l.all (fun x => !q x) = true then (acc ++ l, false) else (acc ++ (l.takeWhile (fun x => !q x) ++ e :: l.dropWhile (fun x => !q x)), true))
  | [], acc => by simp
  | x :: r, acc => by
    have ih1 := fun acc => (foldl_ins q e r acc).1
    have ih2 := fun acc => (foldl_ins q e r acc).2
    constructor
    · simp only [List.foldl_cons, Bool.not_true, Bool.false_and, Bool.false_eq_true, if_false]
      rw [ih1]
      simp
    · cases hq : q x with
      | true =>
        simp only [List.foldl_cons, Bool.not_false, Bool.true_and, hq, if_true]
        rw [ih1]
        simp [hq]
      | false =>
        simp only [List.foldl_cons, Bool.not_false, Bool.true_and, hq, Bool.false_eq_true, if_false]
        rw [ih2]
        by_cases h : r.all (fun x => !q x) = true
        · rw [if_pos h]
          simp [hq, h]
        · rw [if_neg h]
          simp [hq, h]
theorem insF_eq {α : Type} (q : α → Bool) (e : α) (l : List α) : insF q e l = if l.all (fun x => !q x) = true then (l, false) else (l.takeWhile (fun x => !q x) ++ e :: l.dropWhile (fun x => !q x), true) := by
  have := (foldl_ins q e l []).2
  simpa [insF] using this
theorem insF_len {α : Type} (q : α → Bool) (e : α) (l : List α) : (insF q e l).1.length ≤ l.length + 1 := by
  rw [insF_eq]
  split
  · simp
  · have := congrArg List.length (List.takeWhile_append_dropWhile (p := fun x => !q x) (l := l))
    rw [List.length_append] at this
    simp only [List.length_append, List.length_cons]
    omega
theorem insD_eq {α : Type} (q : α → Bool) (e : α) (l : List α) : insD q e l = l.takeWhile (fun x => !q x) ++ e :: l.dropWhile (fun x => !q x) := by
  unfold insD
  rw [insF_eq]
  by_cases h : l.all (fun x => !q x) = true
  · have hl : ∀ y ∈ l, (fun x => !q x) y = true := List.all_eq_true.1 h
    have h1 : l.takeWhile (fun x => !q x) = l := by
      have := List.takeWhile_append_of_pos (l₂ := []) hl
      simpa using this
    have h2 : l.dropWhile (fun x => !q x) = [] := by
      have := List.dropWhile_append_of_pos (l₂ := []) hl
      simpa using this
    rw [if_pos h, h1, h2]
    simp
  · rw [if_neg h]
    simp
theorem insD_perm {α : Type} (q : α → Bool) (e : α) (l : List α) : (insD q e l).Perm (e :: l) := by
  rw [insD_eq]
  have h := List.takeWhile_append_dropWhile (p := fun x => !q x) (l := l)
  refine (List.perm_middle).trans ?_
  rw [h]
theorem insD_sorted {α : Type} {R : α → α → Prop} {q : α → Bool} {e : α} {l : List α} (ht : ∀ x y z, R x y → R y z → R x z) (hl : l.Pairwise R) (h1 : ∀ x ∈ l, q x = true → R e x) (h2 : ∀ x ∈ l, q x = false → R x e) : (insD q e l).Pairwise R := by
  rw [insD_eq]
  have hsp := List.takeWhile_append_dropWhile (p := fun x => !q x) (l := l)
  have hp := hl
  rw [← hsp, List.pairwise_append] at hp
  have a1 : ∀ x ∈ l.takeWhile (fun x => !q x), R x e := fun x hx => by
    have hq := List.all_eq_true.1 (List.all_takeWhile (p := fun x => !q x) (l := l)) x hx
    exact h2 x ((List.takeWhile_sublist _).subset hx) (by simpa using hq)
  have a2 : ∀ y ∈ l.dropWhile (fun x => !q x), R e y := by
    cases hd : l.dropWhile (fun x => !q x) with
    | nil => simp
    | cons z r =>
      have hz : q z = true := by
        have := List.head_dropWhile_not (p := fun x => !q x) (l := l) (by rw [hd]; simp)
        simp only [hd, List.head_cons] at this
        simpa using this
      have hzm : z ∈ l := (List.dropWhile_sublist (fun x => !q x)).subset (by rw [hd]; simp)
      have hez := h1 z hzm hz
      intro y hy
      rcases List.mem_cons.1 hy with rfl | hy
      · exact hez
      · have := hp.2.1
        rw [hd, List.pairwise_cons] at this
        exact ht e z y hez (this.1 y hy)
  rw [List.pairwise_append]
  refine ⟨hp.1, List.pairwise_cons.2 ⟨a2, hp.2.1⟩, fun x hx y hy => ?_⟩
  rcases List.mem_cons.1 hy with rfl | hy
  · exact a1 x hx
  · exact hp.2.2 x hx y hy


end Go.Proofs.Ytbkonlkffajhkaa
