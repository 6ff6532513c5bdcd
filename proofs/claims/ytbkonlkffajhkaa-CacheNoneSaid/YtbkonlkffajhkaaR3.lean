/-
  The reference model: recording a link. Condition: few blocks and links.
-/
import Derived.Test.YtbkonlkffajhkaaR2
namespace Go.Proofs.Ytbkonlkffajhkaa
set_option linter.unusedSimpArgs false
set_option linter.unusedVariables false
open Go.RowKit

def qL (l x : Lk) : Bool := decide (l.f < x.f) || (decide (l.f = x.f) && decide (l.s < x.s))
def neK (l a : Lk) : Bool := decide (kfS a ≠ kfS l)
def rlinkK (L : List En) (K : List Lk) (l : Lk) : List Lk := if okB L l = true then insD (qL l) l (K.filter (neK l)) else K
theorem Place.lt {L : List En} {p : En → Prop} {i : Int} (h : Place L p i) (h0 : 0 ≤ i) : i.toNat < L.length := by
  rcases h with ⟨rfl, _⟩ | ⟨j, hj, rfl, _⟩
  · omega
  · simpa using hj
theorem Place.find {L : List En} {pc : Int} {i : Int} (h : Place L (fun x => x.pc = pc) i) : L.find? (fun a => decide (a.pc = pc)) = if 0 ≤ i then some (L.getD i.toNat dE) else none := by
  rcases h with ⟨rfl, hno⟩ | ⟨j, hj, rfl, hp, hno⟩
  · rw [if_neg (by omega)]
    exact List.find?_eq_none.2 fun x hx => by simpa using hno x hx
  · rw [if_pos (by omega), List.find?_eq_some_iff_getElem]
    have e : L.getD j dE = L[j] := by rw [List.getD_eq_getElem?_getD, List.getElem?_eq_getElem hj]; rfl
    refine ⟨by simpa using hp, j, hj, by simp only [Int.toNat_natCast]; exact e.symm, fun q hq => ?_⟩
    have := hno q hq
    rw [List.getD_eq_getElem?_getD, List.getElem?_eq_getElem (by omega)] at this
    simpa using this
theorem getD_mem' {L : List En} {j : Nat} (hj : j < L.length) : L.getD j dE ∈ L := by
  rw [List.getD_eq_getElem?_getD, List.getElem?_eq_getElem hj]
  exact List.getElem_mem hj
theorem okB_iff {L : List En} {l : Lk} {i j : Int} (hi : Place L (fun x => x.pc = l.f) i) (hj : Place L (fun x => x.pc = l.t) j) (hst : ∀ x ∈ L, (x.sites.n : Int) = x.st) : okB L l = true ↔ 0 ≤ i ∧ 0 ≤ j ∧ 0 ≤ l.s ∧ l.s < (L.getD i.toNat dE).st := by
  unfold okB
  rw [hi.find, hj.find]
  by_cases h1 : 0 ≤ i
  · have := hst _ (getD_mem' (hi.lt h1))
    by_cases h2 : 0 ≤ j
    · simp only [List.getD_eq_getElem?_getD] at this ⊢
      simp [h1, h2]
      omega
    · simp [h1, h2]
  · simp [h1]
theorem ins_step {α : Type} {d : α} {K : List α} {k : Nat} (hk : k < K.length) (q p : α → Bool) (e : α) (hp : p (K.getD k d) = true) : insF q e ((K.take (k + 1)).filter p) = if (!(insF q e ((K.take k).filter p)).2 && q (K.getD k d)) = true then ((insF q e ((K.take k).filter p)).1 ++ [e] ++ [K.getD k d], true) else ((insF q e ((K.take k).filter p)).1 ++ [K.getD k d], (insF q e ((K.take k).filter p)).2) := by
  rw [take_filter (d := d) hk, hp, if_pos rfl, insF_snoc]

set_option maxHeartbeats 1000000 in
set_option maxRecDepth 100000 in
theorem rlink_spec (r : Nat) (base size cur : Int) (vL vC : SV) (L : List En) (K : List Lk) (l : Lk) (hlen : L.length < 40) (hlenK : K.length < 40) (hst : ∀ x ∈ L, (x.sites.n : Int) = x.st) :
    Spec Try.prog 59 [.pointer (some ⟨r, 0, none⟩), veL l] [row r 34 (cR base size cur vL vC), own 36 5 eR (sv vL) L, own 100 3 eL (sv vC) K] [] (X := SV) (fun _ => True) (fun _ => .tuple #[]) (fun x => [row r 34 (cR base size cur vL x), own 36 5 eR (sv vL) L, own 100 3 eL (sv x) (rlinkK L K l)]) (fun _ => []) := by
  refine r_enter Try.func59 rfl Try.ntmps59 rfl fun w0 M H => ?_
  refine r_nilown 300 (S := 100) (s := 3) (enc := eL) ?_
  refine r_seq ?_
  refine r_region ?_
  refine r_boxA rfl rfl fun b3 => ?_
  refine r_nil ?_
  refine r_seq ?_
  refine r_region ?_
  refine r_p (p_move rfl) rfl ?_
  refine r_p (p_field0 fo100_0 rfl) rfl ?_
  refine r_p (p_load1 t30 rfl rfl (g_row1 (k := 3) rfl rfl)) rfl ?_
  refine r_call (xs := [.tmp 11, .tmp 13]) (rfind_spec r base size cur vL vC L l.f hlen) cb28 [] [(true, 0), (true, 1)] [] [] rfl rfl rfl rfl rfl rfl rfl rfl (fun _ _ => rfl) (fun _ _ _ => rfl) rfl (fun i4 hi4 => ?_)
  refine r_p (p_assign rfl) rfl ?_
  refine r_nil ?_
  refine r_seq ?_
  refine r_region ?_
  refine r_p (p_move rfl) rfl ?_
  refine r_p (p_field0 fo100_2 rfl) rfl ?_
  refine r_p (p_load1 t30 rfl rfl (g_row1 (k := 3) rfl rfl)) rfl ?_
  refine r_call (xs := [.tmp 15, .tmp 17]) (rfind_spec r base size cur vL vC L l.t hlen) cb28 [] [(true, 0), (true, 1)] [] [] rfl rfl rfl rfl rfl rfl rfl rfl (fun _ _ => rfl) (fun _ _ _ => rfl) rfl (fun i5 hi5 => ?_)
  refine r_p (p_assign rfl) rfl ?_
  refine r_nil ?_
  refine r_seq ?_
  refine r_seq ?_
  refine r_draw [19, 20, 21, 22, 23, 24, 25, 26, 27, 28, 29, 30, 31, 32, 33, 34, 35, 36, 37, 38, 39, 40, 41, 42] _ rfl (stg_end (V := [(0, 19, _), (1, 20, _), (2, 21, _), (3, 22, _), (4, 23, _), (5, 24, _), (6, 25, _), (7, 26, _), (8, 27, _), (9, 28, _), (10, 29, _), (11, 30, _), (12, 31, _), (13, 32, _), (14, 33, _), (15, 34, _), (16, 35, _), (17, 36, _), (18, 37, _), (19, 38, _), (20, 39, _), (21, 40, _), (22, 41, _), (23, 42, _)]) [0, 1, 2, 3, 4, 5, 6, 7, 8, 9, 10, 11, 12, 13, 14, 15, 16, 17, 18, 19, 20, 21, 22, 23] rfl rfl (prs_cons (pri rfl (p_move rfl)) (prs_cons (pri rfl (p_bin rfl rfl b_lt)) (prs_cons (pri rfl (p_move rfl)) (prs_cons (prig_s [] rfl rfl rfl trivial (fun hg1 => p_move rfl)) (prs_cons (prig_s [(22, _)] rfl rfl rfl ⟨rfl, trivial⟩ (fun hg2 => p_bin rfl rfl b_lt)) (prs_cons (pri rfl (p_pick rfl rfl rfl (by first | exact pick_and | exact pick_or |  rfl))) (prs_cons (pri rfl (p_move rfl)) (prs_cons (prig_s [] rfl rfl rfl trivial (fun hg3 => p_field0 fo100_1 rfl)) (prs_cons (prig_s [(26, _)] rfl rfl rfl ⟨rfl, trivial⟩ (fun hg4 => p_load1 t3 rfl rfl (g_row1 (k := 3) rfl rfl))) (prs_cons (prig_s [(27, _)] rfl rfl rfl ⟨rfl, trivial⟩ (fun hg5 => p_bin rfl rfl b_lt)) (prs_cons (pri rfl (p_pick rfl rfl rfl (by first | exact pick_and | exact pick_or |  rfl))) (prs_cons (pri rfl (p_move rfl)) (prs_cons (prig_s [] rfl rfl rfl trivial (fun hg6 => p_field0 fo100_1 rfl)) (prs_cons (prig_s [(31, _)] rfl rfl rfl ⟨rfl, trivial⟩ (fun hg7 => p_load1 t3 rfl rfl (g_row1 (k := 3) rfl rfl))) (prs_cons (prig_s [] rfl rfl rfl trivial (fun hg8 => p_move rfl)) (prs_cons (prig_s [(33, _)] rfl rfl rfl ⟨rfl, trivial⟩ (fun hg9 => p_nilCheck rfl)) (prs_cons (prig_s [(34, _)] rfl rfl rfl ⟨rfl, trivial⟩ (fun hg10 => p_field0 fo34_3 rfl)) (prs_cons (prig_s [(35, _)] rfl rfl rfl ⟨rfl, trivial⟩ (fun hg11 => p_load1 t31 rfl rfl (g_row1 (k := 0) rfl rfl))) (prs_cons (prig_s [] rfl rfl rfl trivial (fun hg12 => p_move rfl)) (prs_cons (prig_s [(36, _), (37, _)] rfl rfl rfl ⟨rfl, rfl, trivial⟩ (fun hg13 => p_idx_sl (j := i4.toNat) Try.underlying31 t36 rfl rfl (hs_own (k := 1) rfl) (by have hg0 := hg13; simp [gb] at hg0; omega) (Place.lt hi4 (by have hg0 := hg13; simp [gb] at hg0; omega)))) (prs_cons (prig_s [(38, _)] rfl rfl rfl ⟨rfl, trivial⟩ (fun hg14 => p_field fo36_3 rfl)) (prs_cons (prig_s [(39, _)] rfl rfl rfl ⟨rfl, trivial⟩ (fun hg15 => p_load1 t3 rfl rfl (g_elp (hs_own (k := 1) rfl) (by intro _; rfl) (getD_get dE (Place.lt hi4 (by have hg0 := hg15; simp [gb] at hg0; omega))) rfl))) (prs_cons (prig_s [(32, _), (40, _)] rfl rfl rfl ⟨rfl, rfl, trivial⟩ (fun hg16 => p_bin rfl rfl b_ge)) (prs_cons (pri rfl (p_pick rfl rfl rfl (by first | exact pick_and | exact pick_or |  rfl))) prs_nil)))))))))))))))))))))))) rfl rfl rfl ?_)
  refine r_cond rfl (fun h17 => ?_) (fun h17 => ?_)
  · (try simp only [decide_eq_true_eq, decide_eq_false_iff_not, Bool.and_eq_true, Bool.or_eq_true, Bool.and_eq_false_iff, Bool.or_eq_false_iff, Bool.not_eq_true, Bool.not_eq_false, Bool.not_eq_true', Bool.not_eq_false', Bool.not_not, bne_iff_ne, beq_iff_eq] at h17)
    have hok : okB L l = false := by
      rw [Bool.eq_false_iff]
      intro hq
      have := (okB_iff hi4 hi5 hst).1 hq
      omega
    refine r_cret ?_
    refine r_ret vC trivial rfl rs0 rfl [0, 1, 2] [] rfl (by unfold rlinkK; rw [if_neg (by simp [hok])]; rfl) rfl
  · (try simp only [decide_eq_true_eq, decide_eq_false_iff_not, Bool.and_eq_true, Bool.or_eq_true, Bool.and_eq_false_iff, Bool.or_eq_false_iff, Bool.not_eq_true, Bool.not_eq_false, Bool.not_eq_true', Bool.not_eq_false', Bool.not_not, bne_iff_ne, beq_iff_eq] at h17)
    have hok : okB L l = true := (okB_iff hi4 hi5 hst).2 (by omega)
    refine r_skip ?_
    refine r_seq ?_
    refine r_region ?_
    refine r_p (p_assign rfl) rfl ?_
    refine r_nil ?_
    refine r_seq ?_
    refine r_region ?_
    refine r_p (p_assign rfl) rfl ?_
    refine r_nil ?_
    refine r_seq ?_
    refine r_seq ?_
    refine r_region ?_
    refine r_p (p_assign rfl) rfl ?_
    refine r_nil ?_
    refine r_block ?_
    refine r_loop (X := Nat × SV) (fun x => x.1 ≤ K.length) (fun x => [(0, .pointer (some ⟨r, 0, none⟩)), (3, .pointer (some ⟨b3, 0, none⟩)), (6, sv x.2), (7, .bool (insF (qL l) l ((K.take x.1).filter (neK l))).2), (8, .int .i64 (x.1 : Int))]) (fun x => [(0, row r 34 (cR base size cur vL vC)), (1, own 36 5 eR (sv vL) L), (2, own 100 3 eL (sv vC) K), (3, row b3 100 (eL l)), (300, own 100 3 eL (sv x.2) (insF (qL l) l ((K.take x.1).filter (neK l))).1)]) (fun x => []) (fun x => K.length - x.1) (0, nilS) (Nat.zero_le _) rfl rfl rfl (fun ⟨k, v6⟩ hk0 => ?_)
    dsimp only at hk0 ⊢
    refine r_seq ?_
    refine r_seq ?_
    refine r_region ?_
    refine r_p (p_move rfl) rfl ?_
    refine r_p (p_move rfl) rfl ?_
    refine r_p (p_nilCheck rfl) rfl ?_
    refine r_p (p_field0 fo34_4 rfl) rfl ?_
    refine r_p (p_load1 t32 rfl rfl (g_row1 (k := 0) rfl rfl)) rfl ?_
    refine r_p (p_len_sl Try.underlying32 rfl (hs_own (k := 2) rfl)) rfl ?_
    refine r_p (p_bin rfl rfl b_lt) rfl ?_
    refine r_nil ?_
    refine r_cond rfl (fun h18 => ?_) (fun h18 => ?_)
    · (try simp only [decide_eq_true_eq, decide_eq_false_iff_not, Bool.and_eq_true, Bool.or_eq_true, Bool.and_eq_false_iff, Bool.or_eq_false_iff, Bool.not_eq_true, Bool.not_eq_false, Bool.not_eq_true', Bool.not_eq_false', Bool.not_not, bne_iff_ne, beq_iff_eq] at h18)
      have hk : k < K.length := by omega
      have hil := insF_len (qL l) l ((K.take k).filter (neK l))
      have hfl := filter_take_len K (neK l) k
      refine r_skip ?_
      refine r_seq ?_
      refine r_block ?_
      refine r_seq ?_
      refine r_region ?_
      refine r_p (p_move rfl) rfl ?_
      refine r_p (p_nilCheck rfl) rfl ?_
      refine r_p (p_field0 fo34_4 rfl) rfl ?_
      refine r_p (p_load1 t32 rfl rfl (g_row1 (k := 0) rfl rfl)) rfl ?_
      refine r_p (p_move rfl) rfl ?_
      refine r_p (p_idx_sl (j := k) Try.underlying32 t100 rfl rfl (hs_own (k := 2) rfl) (by first | rfl | omega) (by first | omega | (simp; done) | (simp; omega))) rfl ?_
      refine r_p (p_loadA t100 rfl rfl rfl (g_el' (hs_own (k := 2) rfl) (by intro _; rfl) (getD_get dL (by omega)) (by rfl))) rfl ?_
      refine r_alloc t100 rfl rfl fun b9 => ?_
      refine r_store_all (k := 9) t100 rfl rfl rfl rfl rfl rfl ?_
      refine r_nil ?_
      refine r_seq ?_
      refine r_seq ?_
      refine r_region ?_
      refine r_p (p_field0 fo100_0 rfl) rfl ?_
      refine r_p (p_load1 t30 rfl rfl (g_row1 (k := 9) rfl rfl)) rfl ?_
      refine r_p (p_field0 fo100_0 rfl) rfl ?_
      refine r_p (p_load1 t30 rfl rfl (g_row1 (k := 3) rfl rfl)) rfl ?_
      refine r_p (p_bin rfl rfl b_eq) rfl ?_
      refine r_p (p_move rfl) rfl ?_
      refine r_gp [] rfl rfl trivial (fun hg19 => p_field0 fo100_1 rfl) rfl ?_
      refine r_gp [(65, _)] rfl rfl ⟨rfl, trivial⟩ (fun hg20 => p_load1 t3 rfl rfl (g_row1 (k := 9) rfl rfl)) rfl ?_
      refine r_gp [(65, _), (66, _)] rfl rfl ⟨rfl, rfl, trivial⟩ (fun hg21 => p_field0 fo100_1 rfl) rfl ?_
      refine r_gp [(65, _), (66, _), (67, _)] rfl rfl ⟨rfl, rfl, rfl, trivial⟩ (fun hg22 => p_load1 t3 rfl rfl (g_row1 (k := 3) rfl rfl)) rfl ?_
      refine r_gp [(65, _), (66, _), (67, _), (68, _)] rfl rfl ⟨rfl, rfl, rfl, rfl, trivial⟩ (fun hg23 => p_bin rfl rfl b_eq) rfl ?_
      refine r_p (p_pick rfl rfl rfl (by first | exact pick_and | exact pick_or |  rfl)) rfl ?_
      refine r_nil ?_
      refine r_cond rfl (fun h24 => ?_) (fun h24 => ?_)
      · (try simp only [decide_eq_true_eq, decide_eq_false_iff_not, Bool.and_eq_true, Bool.or_eq_true, Bool.and_eq_false_iff, Bool.or_eq_false_iff, Bool.not_eq_true, Bool.not_eq_false, Bool.not_eq_true', Bool.not_eq_false', Bool.not_not, bne_iff_ne, beq_iff_eq] at h24)
        have hkp : neK l (K.getD k dL) = false := by simp only [neK, kfS, h24.1, h24.2]; simp
        refine r_exit ?_
        refine r_region ?_
        refine r_p (p_move rfl) rfl ?_
        refine r_p (p_bin rfl rfl (b_add (by first | exact w_i64 (by omega) (by omega) | rfl))) rfl ?_
        refine r_p (p_assign rfl) rfl ?_
        refine r_nil ?_
        refine r_here (k + 1, _) ⟨by dsimp only; omega, by dsimp only; omega⟩ (by rw [take_filter (d := dL) hk, hkp]; simp; rfl) (by rw [take_filter (d := dL) hk, hkp]; simp; rfl) rfl
      · (try simp only [decide_eq_true_eq, decide_eq_false_iff_not, Bool.and_eq_true, Bool.or_eq_true, Bool.and_eq_false_iff, Bool.or_eq_false_iff, Bool.not_eq_true, Bool.not_eq_false, Bool.not_eq_true', Bool.not_eq_false', Bool.not_not, bne_iff_ne, beq_iff_eq] at h24)
        have hkp : neK l (K.getD k dL) = true := by simp only [neK, kfS, decide_eq_true_eq, ne_eq, Prod.mk.injEq]; omega
        refine r_skip ?_
        refine r_seq ?_
        refine r_region ?_
        refine r_p (p_loadA t100 rfl rfl rfl (g_all (k := 3) rfl)) rfl ?_
        refine r_p (p_loadA t100 rfl rfl rfl (g_all (k := 9) rfl)) rfl ?_
        refine r_call (xs := [.tmp 71, .tmp 72]) (before_spec l (K.getD k dL)) cb73 [] [] [] [] rfl rfl rfl rfl rfl rfl rfl rfl (fun _ _ => rfl) (fun _ _ _ => rfl) rfl (fun _ _ => ?_)
        refine r_p (p_assign rfl) rfl ?_
        refine r_nil ?_
        refine r_seq ?_
        refine r_seq ?_
        refine r_region ?_
        refine r_p (p_move rfl) rfl ?_
        refine r_p (p_not rfl) rfl ?_
        refine r_p (p_move rfl) rfl ?_
        refine r_gp [] rfl rfl trivial (fun hg25 => p_move rfl) rfl ?_
        refine r_p (p_pick rfl rfl rfl (by first | exact pick_and | exact pick_or |  rfl)) rfl ?_
        refine r_nil ?_
        refine r_cond rfl (fun h26 => ?_) (fun h26 => ?_)
        · have hq4 : (!(insF (qL l) l ((K.take k).filter (neK l))).2 && qL l (K.getD k dL)) = true := h26
          refine r_seq ?_
          refine r_region ?_
          refine r_p (p_move rfl) rfl ?_
          refine r_p (p_loadA t100 rfl rfl rfl (g_all (k := 3) rfl)) rfl ?_
          refine r_bslice1 eL l Try.underlying32 t100 rfl (by decide) (by decide) rfl rfl rfl rfl fun v81 => ?_
          refine r_append 300 Try.underlying32 t100 rfl (by decide) (fun _ => rfl) (fun _ => rfl) rfl rfl rfl (hs_own (k := 81) rfl) (by first | omega | (simp; done) | (simp; omega)) (by unfold maxLen; first | omega | (simp; done) | (simp; omega)) rfl fun v82 => ?_
          refine r_p (p_assign rfl) rfl ?_
          refine r_nil ?_
          refine r_region ?_
          refine r_p (p_assign rfl) rfl ?_
          refine r_nil ?_
          refine r_region ?_
          refine r_p (p_move rfl) rfl ?_
          refine r_p (p_loadA t100 rfl rfl rfl (g_all (k := 9) rfl)) rfl ?_
          refine r_bslice1 eL (K.getD k dL) Try.underlying32 t100 rfl (by decide) (by decide) rfl rfl rfl rfl fun v85 => ?_
          refine r_append 300 Try.underlying32 t100 rfl (by decide) (fun _ => rfl) (fun _ => rfl) rfl rfl rfl (hs_own (k := 85) rfl) (by first | omega | (simp; done) | (simp; omega)) (by unfold maxLen; first | omega | (simp; done) | (simp; omega)) rfl fun v86 => ?_
          refine r_p (p_assign rfl) rfl ?_
          refine r_nil ?_
          refine r_region ?_
          refine r_p (p_move rfl) rfl ?_
          refine r_p (p_bin rfl rfl (b_add (by first | exact w_i64 (by omega) (by omega) | rfl))) rfl ?_
          refine r_p (p_assign rfl) rfl ?_
          refine r_nil ?_
          have hins := ins_step hk (qL l) (neK l) l hkp
          rw [if_pos hq4] at hins
          refine r_here (k + 1, _) ⟨by dsimp only; omega, by dsimp only; omega⟩ (by rw [hins]; rfl) (by rw [hins]; rfl) rfl
        · have hq4 : ¬ (!(insF (qL l) l ((K.take k).filter (neK l))).2 && qL l (K.getD k dL)) = true := by
            rw [Bool.not_eq_true]
            exact h26
          refine r_skip ?_
          refine r_region ?_
          refine r_p (p_move rfl) rfl ?_
          refine r_p (p_loadA t100 rfl rfl rfl (g_all (k := 9) rfl)) rfl ?_
          refine r_bslice1 eL (K.getD k dL) Try.underlying32 t100 rfl (by decide) (by decide) rfl rfl rfl rfl fun v85 => ?_
          refine r_append 300 Try.underlying32 t100 rfl (by decide) (fun _ => rfl) (fun _ => rfl) rfl rfl rfl (hs_own (k := 85) rfl) (by first | omega | (simp; done) | (simp; omega)) (by unfold maxLen; first | omega | (simp; done) | (simp; omega)) rfl fun v86 => ?_
          refine r_p (p_assign rfl) rfl ?_
          refine r_nil ?_
          refine r_region ?_
          refine r_p (p_move rfl) rfl ?_
          refine r_p (p_bin rfl rfl (b_add (by first | exact w_i64 (by omega) (by omega) | rfl))) rfl ?_
          refine r_p (p_assign rfl) rfl ?_
          refine r_nil ?_
          have hins := ins_step hk (qL l) (neK l) l hkp
          rw [if_neg hq4] at hins
          refine r_here (k + 1, _) ⟨by dsimp only; omega, by dsimp only; omega⟩ (by rw [hins]; rfl) (by rw [hins]; rfl) rfl
    · (try simp only [decide_eq_true_eq, decide_eq_false_iff_not, Bool.and_eq_true, Bool.or_eq_true, Bool.and_eq_false_iff, Bool.or_eq_false_iff, Bool.not_eq_true, Bool.not_eq_false, Bool.not_eq_true', Bool.not_eq_false', Bool.not_not, bne_iff_ne, beq_iff_eq] at h18)
      have hk : k = K.length := by omega
      subst hk
      have hil := insF_len (qL l) l ((K.take K.length).filter (neK l))
      have hfl := filter_take_len K (neK l) K.length
      rw [List.take_length] at hil hfl ⊢
      refine r_exit ?_
      refine r_seq ?_
      refine r_seq ?_
      refine r_region ?_
      refine r_p (p_move rfl) rfl ?_
      refine r_p (p_not rfl) rfl ?_
      refine r_nil ?_
      refine r_cond rfl (fun h27 => ?_) (fun h27 => ?_)
      · have hq5 : (insF (qL l) l (K.filter (neK l))).2 = false := by simpa using h27
        refine r_region ?_
        refine r_p (p_move rfl) rfl ?_
        refine r_p (p_loadA t100 rfl rfl rfl (g_all (k := 3) rfl)) rfl ?_
        refine r_bslice1 eL l Try.underlying32 t100 rfl (by decide) (by decide) rfl rfl rfl rfl fun v91 => ?_
        refine r_append 300 Try.underlying32 t100 rfl (by decide) (fun _ => rfl) (fun _ => rfl) rfl rfl rfl (hs_own (k := 91) rfl) (by first | omega | (simp; done) | (simp; omega)) (by unfold maxLen; first | omega | (simp; done) | (simp; omega)) rfl fun v92 => ?_
        refine r_p (p_assign rfl) rfl ?_
        refine r_nil ?_
        refine r_region ?_
        refine r_p (p_move rfl) rfl ?_
        refine r_p (p_move rfl) rfl ?_
        refine r_p (p_nilCheck rfl) rfl ?_
        refine r_p (p_field0 fo34_4 rfl) rfl ?_
        refine r_store_row (k := 0) t32 rfl rfl rfl rfl rfl rfl rfl rfl ?_
        refine r_nil ?_
        refine r_end _ trivial rfl rs0 rfl [0, 1, 300] [] rfl (by unfold rlinkK insD; rw [if_pos hok, if_neg (by simp [hq5])]; rfl) rfl
      · have hq5 : (insF (qL l) l (K.filter (neK l))).2 = true := by simpa using h27
        refine r_skip ?_
        refine r_region ?_
        refine r_p (p_move rfl) rfl ?_
        refine r_p (p_move rfl) rfl ?_
        refine r_p (p_nilCheck rfl) rfl ?_
        refine r_p (p_field0 fo34_4 rfl) rfl ?_
        refine r_store_row (k := 0) t32 rfl rfl rfl rfl rfl rfl rfl rfl ?_
        refine r_nil ?_
        refine r_end _ trivial rfl rs0 rfl [0, 1, 300] [] rfl (by unfold rlinkK insD; rw [if_pos hok, if_pos hq5]; rfl) rfl

end Go.Proofs.Ytbkonlkffajhkaa
