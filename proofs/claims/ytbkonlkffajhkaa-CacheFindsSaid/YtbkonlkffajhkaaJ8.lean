/-
  CacheFinds walks. No condition.
-/
import Derived.Test.YtbkonlkffajhkaaI5
namespace Go.Proofs.Ytbkonlkffajhkaa
set_option linter.unusedSimpArgs false
set_option linter.unusedVariables false
open Go.RowKit

theorem Place.findq {L : List En} {p : En → Prop} {q : En → Bool} {i : Int} {r : Option En} (h : Place L p i) (hq : ∀ x ∈ L, q x = true ↔ p x) (hf : L.find? q = r) : (i = -1 ∧ r = none) ∨ ∃ j : Nat, j < L.length ∧ i = j ∧ r = some (L.getD j dE) := by
  subst hf
  rcases h with ⟨h1, h2⟩ | ⟨j, h1, h2, h3, h4⟩
  · exact .inl ⟨h1, List.find?_eq_none.2 fun x hx hc => h2 x hx ((hq x hx).1 hc)⟩
  · refine .inr ⟨j, h1, h2, ?_⟩
    rw [List.find?_eq_some_iff_getElem]
    refine ⟨(hq _ (getD_mem' h1)).2 h3, j, h1, by rw [List.getD_eq_getElem?_getD, List.getElem?_eq_getElem h1]; rfl, fun t ht => ?_⟩
    have h5 := h4 t ht
    rw [← hq _ (getD_mem' (show t < L.length by omega)), List.getD_eq_getElem?_getD, List.getElem?_eq_getElem (show t < L.length by omega)] at h5
    simpa using h5
theorem at_spec (C : Nat) (base size cur : Int) (ob ol : Option Nat) (L : List En) (hL : L.Pairwise fun x y => offW base x < offW base y) (hlen : L.length < 40) (a : Int) (r : Option En) (hf : L.find? (atW a) = r) :
    Spec Try.prog 29 [.pointer (some ⟨C, 0, none⟩), .int .u32 a] [] [row C 84 (cC base size cur ob ol), mpB ob L] (X := Unit) (fun _ => True) (fun _ => .tuple #[veEnt (r.getD dE), .bool r.isSome]) (fun _ => []) (fun _ => []) := by
  rw [← List.head?_filter] at hf
  cases hl : L.filter (atW a) with
  | nil => rw [hl] at hf; subst hf; exact at_none C base size cur ob ol L hL hlen a hl
  | cons x tl => rw [hl] at hf; subst hf; exact at_some C base size cur ob ol L hL hlen a x tl hl
theorem atW_iff {PS : List Int} {size cur : Int} {L : List En} {K : List Lk} (h : CInv PS 4096 size cur L K) (hs : size < 60) {a : Int} (ha : 0 ≤ a ∧ a < 10000) : ∀ x ∈ L, atW a x = true ↔ (x.base ≤ a ∧ a - x.base < x.bytes.size) := fun x hx => by
  have h1 := h.ent x hx
  unfold atW
  simp only [Bool.and_eq_true, decide_eq_true_eq]
  constructor
  · rintro ⟨h2, h3⟩
    rw [wrap_u32_id (by omega) (by omega)] at h3
    exact ⟨h2, h3⟩
  · rintro ⟨h2, h3⟩
    rw [wrap_u32_id (by omega) (by omega)]
    exact ⟨h2, h3⟩
theorem dE_b : (dE.bytes == ByteArray.mk #[]) = true := ba_beq _

set_option maxHeartbeats 1000000 in
set_option maxRecDepth 100000 in
theorem finds_law (sz : Int) (vs : SV) (l : List Q4) :
    Spec Try.prog 8 [.int .i64 sz, sv vs] [] [sl 4 eQ (sv vs) l] (X := Unit) (fun _ => True) (fun _ => .bool true) (fun _ => []) (fun _ => []) := by
  refine r_enter Try.func8 rfl Try.ntmps8 rfl fun w0 M H => ?_
  refine r_seq ?_
  refine r_region ?_
  refine r_p (p_assign rfl) rfl ?_
  refine r_nil ?_
  refine r_seq ?_
  refine r_region ?_
  refine r_call (xs := []) sanity_spec cb15 [] [] [] [] rfl rfl rfl rfl rfl rfl rfl rfl (fun _ _ => rfl) (fun _ _ _ => rfl) rfl (fun _ _ => ?_)
  refine r_p (p_assign rfl) rfl ?_
  refine r_nil ?_
  refine r_seq ?_
  refine r_region ?_
  refine r_p (p_move rfl) rfl ?_
  refine r_p (p_move rfl) rfl ?_
  refine r_call (xs := [.tmp 19, .tmp 20]) (played_spec sz vs l) cb16 [] [(false, 0)] [500, 501, 502, 503, 504, 505] [1] rfl rfl rfl rfl rfl rfl rfl rfl (fun _ _ => rfl) (fun _ _ _ => rfl) rfl (fun ⟨C, r, ⟨cur, L, K, ob, ol, vL, vC, S⟩⟩ hpl => ?_)
  obtain ⟨hi, hS⟩ := hpl
  dsimp only at hi hS ⊢
  have hlen := hi.hlen ps12_len
  have hlenK := hi.hlenK ps12_len
  have h60 := m60 sz
  have hsz := hi.sz
  have hcu := hi.cu
  have hse := size60 sz
  refine r_p (p_move rfl) rfl ?_
  refine r_p (p_extract rfl rfl) rfl ?_
  refine r_p (p_extract rfl rfl) rfl ?_
  refine r_p (p_assign rfl) rfl ?_
  refine r_p (p_assign rfl) rfl ?_
  refine r_nil ?_
  refine r_seq ?_
  refine r_seq ?_
  refine r_region ?_
  refine r_p (p_move rfl) rfl ?_
  refine r_p (p_bin rfl rfl (b_eqPn Try.underlying25)) rfl ?_
  refine r_nil ?_
  refine r_cond rfl (fun h1 => ?_) (fun h1 => ?_)
  · exact absurd h1 (by simp)
  · (try simp only [decide_eq_true_eq, decide_eq_false_iff_not, Bool.and_eq_true, Bool.or_eq_true, Bool.and_eq_false_iff, Bool.or_eq_false_iff, Bool.not_eq_true, Bool.not_eq_false, Bool.not_eq_true', Bool.not_eq_false', Bool.not_not, bne_iff_ne, beq_iff_eq] at h1)
    refine r_skip ?_
    refine r_seq ?_
    refine r_seq ?_
    refine r_region ?_
    refine r_p (p_assign rfl) rfl ?_
    refine r_nil ?_
    refine r_block ?_
    refine r_loop (X := Nat) (fun k => k ≤ 80) (fun k => [(5, .bool true), (6, .pointer (some ⟨C, 0, none⟩)), (7, .pointer (some ⟨r, 0, none⟩)), (8, .int .i64 (k : Int))]) (fun k => [(500, row C 84 (cC 4096 (sizeN 4096 (sz % 60)) cur ob ol)), (501, mpB ob L), (502, mpL ol K), (503, row r 34 (cR 4096 (sizeN 4096 (sz % 60)) cur vL vC)), (504, own 36 5 eR (sv vL) L), (505, own 100 3 eL (sv vC) K)]) (fun k => [(0, sl 4 eQ (sv vs) l), (1, pgP S)]) (fun k => 80 - k) 0 (Nat.zero_le _) rfl rfl rfl (fun k hk0 => ?_)
    refine r_seq ?_
    refine r_seq ?_
    refine r_region ?_
    refine r_p (p_move rfl) rfl ?_
    refine r_p (p_bin rfl rfl b_lt) rfl ?_
    refine r_nil ?_
    refine r_cond rfl (fun h2 => ?_) (fun h2 => ?_)
    · (try simp only [decide_eq_true_eq, decide_eq_false_iff_not, Bool.and_eq_true, Bool.or_eq_true, Bool.and_eq_false_iff, Bool.or_eq_false_iff, Bool.not_eq_true, Bool.not_eq_false, Bool.not_eq_true', Bool.not_eq_false', Bool.not_not, bne_iff_ne, beq_iff_eq] at h2)
      have hk : k < 80 := by omega
      obtain ⟨r1, hr1⟩ : ∃ r, L.find? (fun a => decide (a.pc = (k : Int))) = r := ⟨_, rfl⟩
      obtain ⟨r2, hr2⟩ : ∃ r, L.find? (atW (4091 + (k : Int))) = r := ⟨_, rfl⟩
      refine r_skip ?_
      refine r_seq ?_
      refine r_block ?_
      refine r_seq ?_
      refine r_region ?_
      refine r_p (p_move rfl) rfl ?_
      refine r_p (p_move rfl) rfl ?_
      refine r_p (p_conv Try.underlying3 Try.underlying30 rfl (by first | exact w_u32 (by omega) (by omega) | rfl)) rfl ?_
      refine r_call (xs := [.tmp 31, .tmp 33]) (find_spec C 4096 (sizeN 4096 (sz % 60)) cur ob ol L _ _ hr1) cb21 [] [(true, 500), (true, 501)] [] [] rfl rfl rfl rfl rfl rfl rfl rfl (fun _ _ => rfl) (fun _ _ _ => rfl) rfl (fun _ _ => ?_)
      refine r_p (p_move rfl) rfl ?_
      refine r_p (p_extract rfl rfl) rfl ?_
      refine r_p (p_extract rfl rfl) rfl ?_
      refine r_alloc t54 rfl rfl fun b9 => ?_
      refine r_store_all (k := 9) t54 rfl rfl rfl rfl rfl rfl ?_
      refine r_p (p_assign rfl) rfl ?_
      refine r_nil ?_
      refine r_seq ?_
      refine r_region ?_
      refine r_p (p_move rfl) rfl ?_
      refine r_p (p_move rfl) rfl ?_
      refine r_p (p_conv Try.underlying3 Try.underlying30 rfl (by first | exact w_u32 (by omega) (by omega) | rfl)) rfl ?_
      refine r_call (xs := [.tmp 37, .tmp 39]) (rfind_spec r 4096 (sizeN 4096 (sz % 60)) cur vL vC L _ (by omega)) cb28 [] [(true, 503), (true, 504)] [] [] rfl rfl rfl rfl rfl rfl rfl rfl (fun _ _ => rfl) (fun _ _ _ => rfl) rfl (fun i1 hi1 => ?_)
      have hp1 := hi1.findq (fun x _ => decide_eq_true_iff) hr1
      refine r_p (p_assign rfl) rfl ?_
      refine r_nil ?_
      refine r_seq ?_
      refine r_region ?_
      refine r_p (p_move rfl) rfl ?_
      refine r_p (p_move rfl) rfl ?_
      refine r_p (p_bin rfl rfl (b_add (by first | exact w_i64 (by omega) (by omega) | rfl))) rfl ?_
      refine r_p (p_conv Try.underlying3 Try.underlying30 rfl (by first | exact w_u32 (by omega) (by omega) | rfl)) rfl ?_
      refine r_call (xs := [.tmp 42, .tmp 45]) (at_spec C 4096 (sizeN 4096 (sz % 60)) cur ob ol L hi.hL (by omega) _ _ hr2) cb29 [] [(true, 500), (true, 501)] [] [] rfl rfl rfl rfl rfl rfl rfl rfl (fun _ _ => rfl) (fun _ _ _ => rfl) rfl (fun _ _ => ?_)
      refine r_p (p_move rfl) rfl ?_
      refine r_p (p_extract rfl rfl) rfl ?_
      refine r_p (p_extract rfl rfl) rfl ?_
      refine r_alloc t54 rfl rfl fun b12 => ?_
      refine r_store_all (k := 12) t54 rfl rfl rfl rfl rfl rfl ?_
      refine r_p (p_assign rfl) rfl ?_
      refine r_nil ?_
      refine r_seq ?_
      refine r_region ?_
      refine r_p (p_move rfl) rfl ?_
      refine r_p (p_move rfl) rfl ?_
      refine r_p (p_bin rfl rfl (b_add (by first | exact w_i64 (by omega) (by omega) | rfl))) rfl ?_
      refine r_p (p_conv Try.underlying3 Try.underlying30 rfl (by first | exact w_u32 (by omega) (by omega) | rfl)) rfl ?_
      refine r_call (xs := [.tmp 49, .tmp 52]) (rat_spec r 4096 (sizeN 4096 (sz % 60)) cur vL vC L _ (by omega) (by omega) (fun x hx => by have := hi.ent x hx; omega)) cb30 [] [(true, 503), (true, 504)] [] [] rfl rfl rfl rfl rfl rfl rfl rfl (fun _ _ => rfl) (fun _ _ _ => rfl) rfl (fun i2 hi2 => ?_)
      have hp2 := hi2.findq (atW_iff hi (by omega) (by omega)) hr2
      refine r_p (p_assign rfl) rfl ?_
      refine r_nil ?_
      refine r_seq ?_
      refine r_seq ?_
      refine r_region ?_
      refine r_p (p_move rfl) rfl ?_
      refine r_p (p_move rfl) rfl ?_
      refine r_p (p_bin rfl rfl b_ge) rfl ?_
      refine r_p (p_bin rfl rfl (b_bne Try.underlying4)) rfl ?_
      refine r_p (p_move rfl) rfl ?_
      refine r_split (t := 58) rfl (fun h3 => False.elim (by rcases hp1 with ⟨h_1, h_2⟩ | ⟨j, hj, h_1, h_2⟩ <;> subst h_1 h_2 <;> simp [dE_b] at h3)) (fun h3 => ?_)
      refine r_gyes rfl rfl ?_
      refine r_p (p_move rfl) rfl ?_
      refine r_gyes rfl rfl ?_
      refine r_p (p_move rfl) rfl ?_
      refine r_gyes rfl rfl ?_
      refine r_p (p_bin rfl rfl b_ge) rfl ?_
      refine r_gyes rfl rfl ?_
      refine r_p (p_bin rfl rfl (b_bne Try.underlying4)) rfl ?_
      refine r_p (p_pick rfl rfl rfl (by first | exact pick_and | exact pick_or |  rfl)) rfl ?_
      refine r_p (p_move rfl) rfl ?_
      refine r_split (t := 64) rfl (fun h4 => False.elim (by rcases hp2 with ⟨h_1, h_2⟩ | ⟨j, hj, h_1, h_2⟩ <;> subst h_1 h_2 <;> simp [dE_b] at h4)) (fun h4 => ?_)
      refine r_gyes rfl rfl ?_
      refine r_p (p_move rfl) rfl ?_
      refine r_gyes rfl rfl ?_
      refine r_p (p_not rfl) rfl ?_
      refine r_gyes rfl rfl ?_
      refine r_p (p_move rfl) rfl ?_
      refine r_gp [] rfl rfl trivial (fun hg5 => p_field0 fo54_4 rfl) rfl ?_
      refine r_gp [(68, _)] rfl rfl ⟨rfl, trivial⟩ (fun hg6 => p_field fo52_0 rfl) rfl ?_
      refine r_gp [(68, _), (69, _)] rfl rfl ⟨rfl, rfl, trivial⟩ (fun hg7 => p_load1 t9 rfl rfl (g_row1 (k := 9) rfl rfl)) rfl ?_
      refine r_gp [(68, _), (69, _), (70, _)] rfl rfl ⟨rfl, rfl, rfl, trivial⟩ (fun hg8 => p_bin rfl rfl b_sne) rfl ?_
      refine r_gyes rfl rfl ?_
      refine r_p (p_pick rfl rfl rfl (by first | exact pick_and | exact pick_or |  rfl)) rfl ?_
      refine r_p (p_pick rfl rfl rfl (by first | exact pick_and | exact pick_or |  rfl)) rfl ?_
      refine r_p (p_move rfl) rfl ?_
      refine r_split (t := 74) rfl (fun h9 => False.elim (by rcases hp1 with ⟨h_1, h_2⟩ | ⟨j, hj, h_1, h_2⟩ <;> subst h_1 h_2 <;> simp [dE_b] at h9)) (fun h9 => ?_)
      refine r_gyes rfl rfl ?_
      refine r_p (p_move rfl) rfl ?_
      refine r_gyes rfl rfl ?_
      refine r_p (p_not rfl) rfl ?_
      refine r_gyes rfl rfl ?_
      refine r_p (p_move rfl) rfl ?_
      refine r_gp [] rfl rfl trivial (fun hg10 => p_field0 fo54_4 rfl) rfl ?_
      refine r_gp [(78, _)] rfl rfl ⟨rfl, trivial⟩ (fun hg11 => p_field fo52_0 rfl) rfl ?_
      refine r_gp [(78, _), (79, _)] rfl rfl ⟨rfl, rfl, trivial⟩ (fun hg12 => p_load1 t9 rfl rfl (g_row1 (k := 12) rfl rfl)) rfl ?_
      refine r_gp [(78, _), (79, _), (80, _)] rfl rfl ⟨rfl, rfl, rfl, trivial⟩ (fun hg13 => p_bin rfl rfl b_sne) rfl ?_
      refine r_gyes rfl rfl ?_
      refine r_p (p_pick rfl rfl rfl (by first | exact pick_and | exact pick_or |  rfl)) rfl ?_
      refine r_p (p_pick rfl rfl rfl (by first | exact pick_and | exact pick_or |  rfl)) rfl ?_
      refine r_nil ?_
      refine r_cond rfl (fun h14 => ?_) (fun h14 => ?_)
      · exfalso; have hkk := h14; rcases hp2 with ⟨h_1, h_2⟩ | ⟨j, hj, h_1, h_2⟩ <;> subst h_1 h_2 <;> simp [dE_b] at hkk
      · (try simp only [decide_eq_true_eq, decide_eq_false_iff_not, Bool.and_eq_true, Bool.or_eq_true, Bool.and_eq_false_iff, Bool.or_eq_false_iff, Bool.not_eq_true, Bool.not_eq_false, Bool.not_eq_true', Bool.not_eq_false', Bool.not_not, bne_iff_ne, beq_iff_eq] at h14)
        refine r_skip ?_
        refine r_seq ?_
        refine r_seq ?_
        refine r_region ?_
        refine r_p (p_move rfl) rfl ?_
        refine r_p (p_bin rfl rfl b_ge) rfl ?_
        refine r_nil ?_
        refine r_cond rfl (fun h15 => ?_) (fun h15 => ?_)
        · (try simp only [decide_eq_true_eq, decide_eq_false_iff_not, Bool.and_eq_true, Bool.or_eq_true, Bool.and_eq_false_iff, Bool.or_eq_false_iff, Bool.not_eq_true, Bool.not_eq_false, Bool.not_eq_true', Bool.not_eq_false', Bool.not_not, bne_iff_ne, beq_iff_eq] at h15)
          obtain ⟨j1, hj1, e_1, e_2⟩ := hp1.resolve_left (fun hq => by have := hq.1; omega)
          subst e_1 e_2
          refine r_pgsl 1 9 (L.getD j1 dE) rfl (hS _ (getD_mem' hj1)) ?_
          refine r_seq ?_
          refine r_draw [86, 87, 88, 89, 90, 91, 92, 93, 94, 15] _ rfl (stg_mem (V := [(0, 86, _), (1, 87, _), (2, 88, _), (3, 89, _), (4, 90, _), (5, 91, _), (6, 92, _), (7, 93, _)]) [0, 1, 2, 3, 4, 5, 6, 7] 8 [8, 7, 6, 5, 4, 3, 2, 1, 0] [9] (fun _ => [(9, 15, _)]) rfl rfl (prs_cons (pri rfl (p_loadA t54 rfl rfl rfl (g_all (k := 9) rfl))) (prs_cons (pri rfl (p_move rfl)) (prs_cons (pri rfl (p_nilCheck rfl)) (prs_cons (pri rfl (p_field0 fo34_3 rfl)) (prs_cons (pri rfl (p_load1 t31 rfl rfl (g_row1 (k := 503) rfl rfl))) (prs_cons (pri rfl (p_move rfl)) (prs_cons (pri rfl (p_idx_sl (j := j1) Try.underlying31 t36 rfl rfl (hs_own (k := 504) rfl) (by first | rfl | omega) (by first | omega | (simp; done) | (simp; omega)))) (prs_cons (pri rfl (p_loadA t36 rfl rfl rfl (g_el' (hs_own (k := 504) rfl) (by intro _; rfl) (getD_get dE (by omega)) (by rfl)))) prs_nil)))))))) rfl rfl rfl rfl rfl rfl rfl rfl rfl rfl rfl (fun _ _ => rfl) rfl (ms_call (xs := [.tmp 86, .tmp 93]) (same_spec (L.getD j1 dE) (hi.ent _ (getD_mem' hj1)).2.2.2.1) cb23 [] [(false, 9)] [] [] rfl rfl rfl rfl rfl rfl rfl rfl (fun _ _ => rfl) (fun _ _ _ => rfl)) (fun _ _ => stg_end [9] rfl rfl (prs_cons (pri rfl (p_assign rfl)) prs_nil) rfl rfl rfl ?_))
          refine r_seq ?_
          refine r_region ?_
          refine r_p (p_move rfl) rfl ?_
          refine r_p (p_not rfl) rfl ?_
          refine r_nil ?_
          refine r_cond rfl (fun h16 => ?_) (fun h16 => ?_)
          · exact absurd h16 (by simp)
          · (try simp only [decide_eq_true_eq, decide_eq_false_iff_not, Bool.and_eq_true, Bool.or_eq_true, Bool.and_eq_false_iff, Bool.or_eq_false_iff, Bool.not_eq_true, Bool.not_eq_false, Bool.not_eq_true', Bool.not_eq_false', Bool.not_not, bne_iff_ne, beq_iff_eq] at h16)
            refine r_skip ?_
            refine r_seq ?_
            refine r_region ?_
            refine r_p (p_move rfl) rfl ?_
            refine r_p (p_bin rfl rfl b_ge) rfl ?_
            refine r_nil ?_
            refine r_cond rfl (fun h17 => ?_) (fun h17 => ?_)
            · (try simp only [decide_eq_true_eq, decide_eq_false_iff_not, Bool.and_eq_true, Bool.or_eq_true, Bool.and_eq_false_iff, Bool.or_eq_false_iff, Bool.not_eq_true, Bool.not_eq_false, Bool.not_eq_true', Bool.not_eq_false', Bool.not_not, bne_iff_ne, beq_iff_eq] at h17)
              obtain ⟨j2, hj2, e_1, e_2⟩ := hp2.resolve_left (fun hq => by have := hq.1; omega)
              subst e_1 e_2
              refine r_pgsl 1 10 (L.getD j2 dE) rfl (hS _ (getD_mem' hj2)) ?_
              refine r_seq ?_
              refine r_draw [99, 100, 101, 102, 103, 104, 105, 106, 107, 16] _ rfl (stg_mem (V := [(0, 99, _), (1, 100, _), (2, 101, _), (3, 102, _), (4, 103, _), (5, 104, _), (6, 105, _), (7, 106, _)]) [0, 1, 2, 3, 4, 5, 6, 7] 8 [8, 7, 6, 5, 4, 3, 2, 1, 0] [9] (fun _ => [(9, 16, _)]) rfl rfl (prs_cons (pri rfl (p_loadA t54 rfl rfl rfl (g_all (k := 12) rfl))) (prs_cons (pri rfl (p_move rfl)) (prs_cons (pri rfl (p_nilCheck rfl)) (prs_cons (pri rfl (p_field0 fo34_3 rfl)) (prs_cons (pri rfl (p_load1 t31 rfl rfl (g_row1 (k := 503) rfl rfl))) (prs_cons (pri rfl (p_move rfl)) (prs_cons (pri rfl (p_idx_sl (j := j2) Try.underlying31 t36 rfl rfl (hs_own (k := 504) rfl) (by first | rfl | omega) (by first | omega | (simp; done) | (simp; omega)))) (prs_cons (pri rfl (p_loadA t36 rfl rfl rfl (g_el' (hs_own (k := 504) rfl) (by intro _; rfl) (getD_get dE (by omega)) (by rfl)))) prs_nil)))))))) rfl rfl rfl rfl rfl rfl rfl rfl rfl rfl rfl (fun _ _ => rfl) rfl (ms_call (xs := [.tmp 99, .tmp 106]) (same_spec (L.getD j2 dE) (hi.ent _ (getD_mem' hj2)).2.2.2.1) cb23 [] [(false, 10)] [] [] rfl rfl rfl rfl rfl rfl rfl rfl (fun _ _ => rfl) (fun _ _ _ => rfl)) (fun _ _ => stg_end [9] rfl rfl (prs_cons (pri rfl (p_assign rfl)) prs_nil) rfl rfl rfl ?_))
              refine r_seq ?_
              refine r_region ?_
              refine r_p (p_move rfl) rfl ?_
              refine r_p (p_not rfl) rfl ?_
              refine r_nil ?_
              refine r_cond rfl (fun h18 => ?_) (fun h18 => ?_)
              · exact absurd h18 (by simp)
              · (try simp only [decide_eq_true_eq, decide_eq_false_iff_not, Bool.and_eq_true, Bool.or_eq_true, Bool.and_eq_false_iff, Bool.or_eq_false_iff, Bool.not_eq_true, Bool.not_eq_false, Bool.not_eq_true', Bool.not_eq_false', Bool.not_not, bne_iff_ne, beq_iff_eq] at h18)
                refine r_skip ?_
                refine r_region ?_
                refine r_p (p_move rfl) rfl ?_
                refine r_p (p_bin rfl rfl (b_add (by first | exact w_i64 (by omega) (by omega) | rfl))) rfl ?_
                refine r_p (p_assign rfl) rfl ?_
                refine r_nil ?_
                refine r_here (k + 1) ⟨by omega, by omega⟩ rfl rfl rfl
            · (try simp only [decide_eq_true_eq, decide_eq_false_iff_not, Bool.and_eq_true, Bool.or_eq_true, Bool.and_eq_false_iff, Bool.or_eq_false_iff, Bool.not_eq_true, Bool.not_eq_false, Bool.not_eq_true', Bool.not_eq_false', Bool.not_not, bne_iff_ne, beq_iff_eq] at h17)
              refine r_skip ?_
              refine r_region ?_
              refine r_p (p_move rfl) rfl ?_
              refine r_p (p_bin rfl rfl (b_add (by first | exact w_i64 (by omega) (by omega) | rfl))) rfl ?_
              refine r_p (p_assign rfl) rfl ?_
              refine r_nil ?_
              refine r_here (k + 1) ⟨by omega, by omega⟩ rfl rfl rfl
        · (try simp only [decide_eq_true_eq, decide_eq_false_iff_not, Bool.and_eq_true, Bool.or_eq_true, Bool.and_eq_false_iff, Bool.or_eq_false_iff, Bool.not_eq_true, Bool.not_eq_false, Bool.not_eq_true', Bool.not_eq_false', Bool.not_not, bne_iff_ne, beq_iff_eq] at h15)
          refine r_skip ?_
          refine r_seq ?_
          refine r_region ?_
          refine r_p (p_move rfl) rfl ?_
          refine r_p (p_bin rfl rfl b_ge) rfl ?_
          refine r_nil ?_
          refine r_cond rfl (fun h19 => ?_) (fun h19 => ?_)
          · (try simp only [decide_eq_true_eq, decide_eq_false_iff_not, Bool.and_eq_true, Bool.or_eq_true, Bool.and_eq_false_iff, Bool.or_eq_false_iff, Bool.not_eq_true, Bool.not_eq_false, Bool.not_eq_true', Bool.not_eq_false', Bool.not_not, bne_iff_ne, beq_iff_eq] at h19)
            obtain ⟨j2, hj2, e_1, e_2⟩ := hp2.resolve_left (fun hq => by have := hq.1; omega)
            subst e_1 e_2
            refine r_pgsl 1 10 (L.getD j2 dE) rfl (hS _ (getD_mem' hj2)) ?_
            refine r_seq ?_
            refine r_draw [99, 100, 101, 102, 103, 104, 105, 106, 107, 16] _ rfl (stg_mem (V := [(0, 99, _), (1, 100, _), (2, 101, _), (3, 102, _), (4, 103, _), (5, 104, _), (6, 105, _), (7, 106, _)]) [0, 1, 2, 3, 4, 5, 6, 7] 8 [8, 7, 6, 5, 4, 3, 2, 1, 0] [9] (fun _ => [(9, 16, _)]) rfl rfl (prs_cons (pri rfl (p_loadA t54 rfl rfl rfl (g_all (k := 12) rfl))) (prs_cons (pri rfl (p_move rfl)) (prs_cons (pri rfl (p_nilCheck rfl)) (prs_cons (pri rfl (p_field0 fo34_3 rfl)) (prs_cons (pri rfl (p_load1 t31 rfl rfl (g_row1 (k := 503) rfl rfl))) (prs_cons (pri rfl (p_move rfl)) (prs_cons (pri rfl (p_idx_sl (j := j2) Try.underlying31 t36 rfl rfl (hs_own (k := 504) rfl) (by first | rfl | omega) (by first | omega | (simp; done) | (simp; omega)))) (prs_cons (pri rfl (p_loadA t36 rfl rfl rfl (g_el' (hs_own (k := 504) rfl) (by intro _; rfl) (getD_get dE (by omega)) (by rfl)))) prs_nil)))))))) rfl rfl rfl rfl rfl rfl rfl rfl rfl rfl rfl (fun _ _ => rfl) rfl (ms_call (xs := [.tmp 99, .tmp 106]) (same_spec (L.getD j2 dE) (hi.ent _ (getD_mem' hj2)).2.2.2.1) cb23 [] [(false, 10)] [] [] rfl rfl rfl rfl rfl rfl rfl rfl (fun _ _ => rfl) (fun _ _ _ => rfl)) (fun _ _ => stg_end [9] rfl rfl (prs_cons (pri rfl (p_assign rfl)) prs_nil) rfl rfl rfl ?_))
            refine r_seq ?_
            refine r_region ?_
            refine r_p (p_move rfl) rfl ?_
            refine r_p (p_not rfl) rfl ?_
            refine r_nil ?_
            refine r_cond rfl (fun h20 => ?_) (fun h20 => ?_)
            · exact absurd h20 (by simp)
            · (try simp only [decide_eq_true_eq, decide_eq_false_iff_not, Bool.and_eq_true, Bool.or_eq_true, Bool.and_eq_false_iff, Bool.or_eq_false_iff, Bool.not_eq_true, Bool.not_eq_false, Bool.not_eq_true', Bool.not_eq_false', Bool.not_not, bne_iff_ne, beq_iff_eq] at h20)
              refine r_skip ?_
              refine r_region ?_
              refine r_p (p_move rfl) rfl ?_
              refine r_p (p_bin rfl rfl (b_add (by first | exact w_i64 (by omega) (by omega) | rfl))) rfl ?_
              refine r_p (p_assign rfl) rfl ?_
              refine r_nil ?_
              refine r_here (k + 1) ⟨by omega, by omega⟩ rfl rfl rfl
          · (try simp only [decide_eq_true_eq, decide_eq_false_iff_not, Bool.and_eq_true, Bool.or_eq_true, Bool.and_eq_false_iff, Bool.or_eq_false_iff, Bool.not_eq_true, Bool.not_eq_false, Bool.not_eq_true', Bool.not_eq_false', Bool.not_not, bne_iff_ne, beq_iff_eq] at h19)
            refine r_skip ?_
            refine r_region ?_
            refine r_p (p_move rfl) rfl ?_
            refine r_p (p_bin rfl rfl (b_add (by first | exact w_i64 (by omega) (by omega) | rfl))) rfl ?_
            refine r_p (p_assign rfl) rfl ?_
            refine r_nil ?_
            refine r_here (k + 1) ⟨by omega, by omega⟩ rfl rfl rfl
    · (try simp only [decide_eq_true_eq, decide_eq_false_iff_not, Bool.and_eq_true, Bool.or_eq_true, Bool.and_eq_false_iff, Bool.or_eq_false_iff, Bool.not_eq_true, Bool.not_eq_false, Bool.not_eq_true', Bool.not_eq_false', Bool.not_not, bne_iff_ne, beq_iff_eq] at h2)
      refine r_exit ?_
      refine r_seq ?_
      refine r_region ?_
      refine r_p (p_move rfl) rfl ?_
      refine r_p (p_assign rfl) rfl ?_
      refine r_nil ?_
      refine r_cret ?_
      refine r_ret () trivial rfl (rs1 (rv_tmp rfl)) (congrArg Value.bool (by simp)) [] [] rfl rfl rfl

end Go.Proofs.Ytbkonlkffajhkaa
