/-
  The walk of JournalCanonical. Condition: the numbers are of their types.
-/
import Derived.Test.YtohenjmkhncoiaaP3
namespace Go.Proofs.Ytohenjmkhncoiaa
set_option linter.unusedSimpArgs false
set_option linter.unusedVariables false
open Go.RowKit

/-- What Read answers: a snapshot with this encoding, or the empty one. -/
theorem rd_dec {t : ByteArray} {x : Sp} {e : Int} (h : RdSn t (x, e)) : (e = 0 ∧ x.sn.Ok ∧ ofI (eSn x.sn) = t) ∨ (x = zSp ∧ e = 11) := by
  unfold RdSn at h
  cases hr : readSn (bytesI t) with
  | none =>
    rw [hr] at h
    have h : (x, e) = (zSp, 11) := h
    exact .inr (Prod.mk.inj h)
  | some s =>
    rw [hr] at h
    obtain ⟨h1, h2⟩ := h
    dsimp only at h1 h2
    obtain ⟨h3, h4⟩ := enc_read (By_bytesI t) hr
    refine .inl ⟨h2, by rw [h1]; exact h3, ?_⟩
    rw [h1, ← h4, ofI_bytesI]
def canF (a b c d e : ByteArray) (i : Nat) : ByteArray := match i with
  | 0 => a
  | 1 => b
  | 2 => c
  | 3 => d
  | _ => e

set_option maxHeartbeats 4000000 in
set_option maxRecDepth 100000 in
theorem canonical_law (v : SV) (q : List Int) (hq : ∀ x ∈ q, okI x) (s : ByteArray) (at_ : Int) (hat : 0 ≤ at_ ∧ at_ < 65536) :
    Spec Try.prog 7 [sv v, .string s, .int .u16 at_] [] [sl 1 eI (sv v) q] (X := Unit) (fun _ => True) (fun _ => .bool true) (fun _ => []) (fun _ => []) := by
  refine r_enter Try.func7 rfl Try.ntmps7 rfl fun w0 M H => ?_
  refine r_seq ?_
  refine r_region ?_
  refine r_p (p_assign rfl) rfl ?_
  refine r_nil ?_
  refine r_seq ?_
  refine r_region ?_
  refine r_call (xs := []) sanity_spec cb15 [] [] [] [] rfl rfl rfl rfl rfl rfl rfl rfl (fun _ _ => rfl) (fun _ _ _ => rfl) rfl (fun _ _ => ?_)
  refine r_p (p_assign rfl) rfl ?_
  refine r_nil ?_
  refine r_seq ?_
  refine r_region ?_
  refine r_p (p_move rfl) rfl ?_
  refine r_p (p_move rfl) rfl ?_
  refine r_p (p_len_str Try.underlying9 rfl) rfl ?_
  refine r_p (p_min rfl rfl rfl) rfl ?_
  refine r_p (p_slice_strhi Try.underlying9 rfl rfl (by omega) (by omega)) rfl ?_
  refine r_p (p_assign rfl) rfl ?_
  obtain ⟨mo, hmo⟩ : ∃ z, s.extract 0 (min (s.size : Int) 1000).toNat = z := ⟨_, rfl⟩
  rw [hmo]
  have hml : mo.size ≤ 1000 := by rw [← hmo, ByteArray.size_extract]; omega
  refine r_nil ?_
  refine r_seq ?_
  refine r_region ?_
  refine r_p (p_move rfl) rfl ?_
  refine r_call (xs := [.tmp 21]) (made_spec v q) cb31 [] [(false, 0)] [] [50] rfl rfl rfl rfl rfl rfl rfl rfl (fun _ _ => rfl) (fun _ _ _ => rfl) rfl (fun xa hxa => ?_)
  obtain ⟨xaa0, xaa1, xaa2, xaa3, xaa4, hxa⟩ := hxa
  have exa : xa.sn = madeF q := by rw [hxa]; exact madeS_sn _ _ _ _ _ _
  have oxa : xa.sn.Ok := by rw [exa]; exact made_ok _ (okI_xq hq)
  have lxa : (eSn xa.sn).length ≤ 1000 := by rw [exa]; exact made_len _
  have mxa : xa.Sm := Sp.Sm.of (by omega)
  clear hxa exa
  refine r_call (xs := [.tmp 22]) (bytes_spec xa oxa (by omega)) cb32 [] [(false, 50)] [] [] rfl rfl rfl rfl rfl rfl rfl rfl (fun _ _ => rfl) (fun _ _ _ => rfl) rfl (fun _ _ => ?_)
  obtain ⟨t, ht⟩ : ∃ z, ofI (eSn xa.sn) = z := ⟨_, rfl⟩
  rw [ht]
  have htl : t.size ≤ 1000 := by rw [← ht, ofI_size]; omega
  refine r_p (p_assign rfl) rfl ?_
  refine r_nil ?_
  refine r_seq ?_
  refine r_region ?_
  refine r_p (p_move rfl) rfl ?_
  refine r_p (p_conv Try.underlying47 Try.underlying3 rfl (by first | exact w_i64 (by omega) (by omega) | rfl)) rfl ?_
  refine r_p (p_move rfl) rfl ?_
  refine r_p (p_len_str Try.underlying9 rfl) rfl ?_
  refine r_p (p_bin rfl rfl (b_add (by first | exact w_i64 (by omega) (by omega) | rfl))) rfl ?_
  refine r_p (p_bin rfl rfl (b_rem (by omega) (by first | exact tmod_pos (by omega) | rfl))) rfl ?_
  refine r_p (p_assign rfl) rfl ?_
  obtain ⟨p, hp⟩ : ∃ z, at_ % ((t.size : Int) + 1) = z := ⟨_, rfl⟩
  rw [hp]
  have hp0 : 0 ≤ p ∧ p ≤ t.size := by rw [← hp]; have h1 := Int.emod_nonneg at_ (b := (t.size : Int) + 1) (by omega); have h2 := Int.emod_lt_of_pos at_ (b := (t.size : Int) + 1) (by omega); omega
  refine r_nil ?_
  refine r_seq ?_
  refine r_region ?_
  refine r_p (p_move rfl) rfl ?_
  refine r_p (p_move rfl) rfl ?_
  refine r_p (p_len_str Try.underlying9 rfl) rfl ?_
  refine r_p (p_move rfl) rfl ?_
  refine r_p (p_move rfl) rfl ?_
  refine r_p (p_len_str Try.underlying9 rfl) rfl ?_
  refine r_p (p_bin rfl rfl (b_add (by first | exact w_i64 (by omega) (by omega) | rfl))) rfl ?_
  refine r_p (p_min rfl rfl rfl) rfl ?_
  refine r_p (p_slice_strlo Try.underlying9 rfl rfl (by omega) (by omega)) rfl ?_
  refine r_p (p_assign rfl) rfl ?_
  obtain ⟨rs, hrs⟩ : ∃ z, t.extract (min (t.size : Int) (p + (mo.size : Int))).toNat t.size = z := ⟨_, rfl⟩
  rw [hrs]
  have hrl : rs.size ≤ 1000 := by rw [← hrs, ByteArray.size_extract]; omega
  have hx1 : (t.extract 0 p.toNat).size ≤ 1000 := by rw [ByteArray.size_extract]; omega
  have hx2 : (t.extract p.toNat t.size).size ≤ 1000 := by rw [ByteArray.size_extract]; omega
  have hx3 : (t.extract 0 p.toNat ++ mo).size ≤ 2000 := by rw [ByteArray.size_append]; omega
  refine r_nil ?_
  refine r_seq ?_
  refine r_draw [39, 40, 41, 42, 43, 44, 45, 46, 47, 48, 49, 50, 51, 52, 53, 54, 55, 56, 57, 58, 59, 60, 61, 62, 11] _ rfl (stg_mem (V := [(0, 39, _), (1, 40, _), (2, 41, _), (3, 42, _), (4, 43, _), (5, 44, _), (6, 45, _), (7, 46, _), (8, 47, _), (9, 48, _), (10, 49, _), (11, 50, _), (12, 51, _), (13, 52, _), (14, 53, _), (15, 54, _), (16, 55, _), (17, 56, _), (18, 57, _), (19, 58, _), (20, 59, _), (21, 60, _), (22, 61, _), (23, 62, _)]) [0, 1, 2, 3, 4, 5, 6, 7, 8, 9, 10, 11, 12, 13, 14, 15, 16, 17, 18, 19, 20, 21, 22, 23] 24 [24] [] (fun b11 => []) rfl rfl (prs_cons (pri rfl (p_move rfl)) (prs_cons (pri rfl (p_move rfl)) (prs_cons (pri rfl (p_move rfl)) (prs_cons (pri rfl (p_bin rfl rfl (b_sadd (by omega)))) (prs_cons (pri rfl (p_move rfl)) (prs_cons (pri rfl (p_move rfl)) (prs_cons (pri rfl (p_slice_strhi Try.underlying9 rfl rfl (by omega) (by omega))) (prs_cons (pri rfl (p_move rfl)) (prs_cons (pri rfl (p_bin rfl rfl (b_sadd (by omega)))) (prs_cons (pri rfl (p_move rfl)) (prs_cons (pri rfl (p_move rfl)) (prs_cons (pri rfl (p_slice_strlo Try.underlying9 rfl rfl (by omega) (by omega))) (prs_cons (pri rfl (p_bin rfl rfl (b_sadd (by omega)))) (prs_cons (pri rfl (p_move rfl)) (prs_cons (pri rfl (p_move rfl)) (prs_cons (pri rfl (p_slice_strhi Try.underlying9 rfl rfl (by omega) (by omega))) (prs_cons (pri rfl (p_move rfl)) (prs_cons (pri rfl (p_move rfl)) (prs_cons (pri rfl (p_slice_strhi Try.underlying9 rfl rfl (by omega) (by omega))) (prs_cons (pri rfl (p_move rfl)) (prs_cons (pri rfl (p_bin rfl rfl (b_sadd (by omega)))) (prs_cons (pri rfl (p_move rfl)) (prs_cons (pri rfl (p_bin rfl rfl (b_sadd (by omega)))) (prs_cons (pri rfl (p_buildA (D := .bool) (parts := [(0, .tmp 39), (1, .tmp 42), (2, .tmp 51), (3, .tmp 54), (4, .tmp 61)]) t67 t9 rfl rfl)) prs_nil)))))))))))))))))))))))) rfl rfl rfl rfl rfl rfl rfl rfl rfl rfl rfl (fun _ _ => rfl) rfl (ms_alloc_arr (n := 5) (u := (.string ⟨#[]⟩)) t67 rfl) (fun b11 _ => stg_mem0 [0, 1, 2, 3, 4, 5, 6, 7, 8, 9, 10, 11, 12, 13, 14, 15, 16, 17, 18, 19, 20, 21, 22, 23] 25 [25, 24, 23, 22, 21, 20, 19, 18, 17, 16, 15, 14, 13, 12, 11, 10, 9, 8, 7, 6, 5, 4, 3, 2, 1, 0] [] (fun _ => []) rfl rfl (prs_cons (pri rfl (p_move rfl)) (prs_cons (pri rfl (p_move rfl)) (prs_cons (pri rfl (p_move rfl)) (prs_cons (pri rfl (p_bin rfl rfl (b_sadd (by omega)))) (prs_cons (pri rfl (p_move rfl)) (prs_cons (pri rfl (p_move rfl)) (prs_cons (pri rfl (p_slice_strhi Try.underlying9 rfl rfl (by omega) (by omega))) (prs_cons (pri rfl (p_move rfl)) (prs_cons (pri rfl (p_bin rfl rfl (b_sadd (by omega)))) (prs_cons (pri rfl (p_move rfl)) (prs_cons (pri rfl (p_move rfl)) (prs_cons (pri rfl (p_slice_strlo Try.underlying9 rfl rfl (by omega) (by omega))) (prs_cons (pri rfl (p_bin rfl rfl (b_sadd (by omega)))) (prs_cons (pri rfl (p_move rfl)) (prs_cons (pri rfl (p_move rfl)) (prs_cons (pri rfl (p_slice_strhi Try.underlying9 rfl rfl (by omega) (by omega))) (prs_cons (pri rfl (p_move rfl)) (prs_cons (pri rfl (p_move rfl)) (prs_cons (pri rfl (p_slice_strhi Try.underlying9 rfl rfl (by omega) (by omega))) (prs_cons (pri rfl (p_move rfl)) (prs_cons (pri rfl (p_bin rfl rfl (b_sadd (by omega)))) (prs_cons (pri rfl (p_move rfl)) (prs_cons (pri rfl (p_bin rfl rfl (b_sadd (by omega)))) (prs_cons (pri rfl (p_buildA (D := .bool) (parts := [(0, .tmp 39), (1, .tmp 42), (2, .tmp 51), (3, .tmp 54), (4, .tmp 61)]) t67 t9 rfl rfl)) prs_nil)))))))))))))))))))))))) rfl rfl rfl rfl rfl rfl rfl rfl rfl (fun _ _ => rfl) rfl (ms_store_arrAll (k := 11) (g := (fun i => .string ((canF mo (t ++ mo) (t.extract 0 p.toNat ++ mo ++ t.extract p.toNat t.size) (t.extract 0 p.toNat) (t.extract 0 p.toNat ++ mo ++ rs)) i))) t67 rfl rfl rfl rfl rfl) (fun _ _ => stg_end [] rfl rfl prs_nil rfl rfl rfl ?_)))
  obtain ⟨F, hF⟩ : ∃ F, (canF mo (t ++ mo) (t.extract 0 p.toNat ++ mo ++ t.extract p.toNat t.size) (t.extract 0 p.toNat) (t.extract 0 p.toNat ++ mo ++ rs)) = F := ⟨_, rfl⟩
  refine r_conva (k := 11) (A' := arr b11 67 5 (fun i => .string (F i))) rfl (fun _ _ h => by rw [← hF]; exact h) ?_
  have hFl : ∀ i, (F i).size ≤ 4000 := fun i => by
    rw [← hF]
    unfold canF
    split <;> (try simp only [ByteArray.size_append, ByteArray.size_extract]) <;> omega
  clear hF hrs hp hmo
  refine r_seq ?_
  refine r_seq ?_
  refine r_region ?_
  refine r_p (p_assign rfl) rfl ?_
  refine r_nil ?_
  refine r_block ?_
  refine r_loop (X := Nat) (fun k => k ≤ 5) (fun k => [(7, .bool true), (11, .pointer (some ⟨b11, 0, none⟩)), (12, .int .i64 (k : Int))]) (fun k => [(11, arr b11 67 5 (fun i => .string (F i)))]) (fun k => []) (fun k => 5 - k) 0 (by omega) rfl rfl rfl (fun k hk0 => ?_)
  refine r_seq ?_
  refine r_seq ?_
  refine r_region ?_
  refine r_p (p_move rfl) rfl ?_
  refine r_p (p_bin rfl rfl b_lt) rfl ?_
  refine r_nil ?_
  refine r_cond rfl (fun h1 => ?_) (fun h1 => ?_)
  · (try simp only [decide_eq_true_eq, decide_eq_false_iff_not, Bool.and_eq_true, Bool.or_eq_true, Bool.and_eq_false_iff, Bool.or_eq_false_iff, Bool.not_eq_true, Bool.not_eq_false, Bool.not_eq_true', Bool.not_eq_false', Bool.not_not, bne_iff_ne, beq_iff_eq] at h1)
    have hk5 : k < 5 := by omega
    refine r_skip ?_
    refine r_seq ?_
    refine r_block ?_
    refine r_seq ?_
    refine r_region ?_
    refine r_p (p_move rfl) rfl ?_
    refine r_p (p_idx_arr1 (j := k) Try.underlying67 t9 rfl rfl (by first | rfl | omega) (by first | omega | (simp; done) | (simp; omega))) rfl ?_
    refine r_p (p_load1 t9 rfl rfl (g_arr1 (f := (fun i => .string (F i))) (k := 11) rfl (by omega))) rfl ?_
    refine r_call (xs := [.tmp 70]) (read_spec33 (F k) (by have := hFl k; omega)) cb33 [] [] [] [51] rfl rfl rfl rfl rfl rfl rfl rfl (fun _ _ => rfl) (fun _ _ _ => rfl) rfl (fun z hz => ?_)
    obtain ⟨x, e⟩ := z
    have hd := rd_dec hz
    dsimp only at hd ⊢
    refine r_p (p_move rfl) rfl ?_
    refine r_p (p_extract rfl rfl) rfl ?_
    refine r_p (p_extract rfl rfl) rfl ?_
    refine r_alloc t59 rfl rfl fun b13 => ?_
    refine r_store_all (k := 13) t59 rfl rfl rfl rfl rfl rfl ?_
    refine r_p (p_assign rfl) rfl ?_
    refine r_nil ?_
    refine r_seq ?_
    rcases hd with ⟨rfl, ho, he⟩ | ⟨rfl, rfl⟩
    · refine r_draw [74, 75, 76, 77, 78, 79, 80, 81, 82, 83, 84, 85, 86, 87, 88, 89, 90, 91, 92, 93, 94, 95, 96, 97] _ rfl (stg_memg (V := [(0, 74, _), (1, 75, _), (2, 76, _), (3, 77, _), (4, 78, _), (5, 79, _), (6, 80, _), (7, 81, _), (8, 82, _), (9, 83, _), (10, 84, _), (11, 85, _), (12, 86, _), (13, 87, _), (14, 88, _), (15, 89, _), (16, 90, _), (18, 92, _), (19, 93, _), (20, 94, _)]) [0, 1, 2, 3, 4, 5, 6, 7, 8, 9, 10, 11, 12, 13, 14, 15, 16, 18, 19, 20] 17 [17, 16, 15, 14, 13, 12, 11, 10, 9, 8, 7, 6, 5, 4, 3, 2, 1, 0] [21, 22, 23] (fun _ => [(21, 95, _), (22, 96, _), (23, 97, _)]) rfl rfl (prs_cons (pri rfl (p_move rfl)) (prs_cons (pri rfl (p_bin rfl rfl b_ne)) (prs_cons (pri rfl (p_move rfl)) (prs_cons (prig_n rfl rfl rfl rfl) (prs_cons (prig_n rfl rfl rfl rfl) (prs_cons (prig_n rfl rfl rfl rfl) (prs_cons (prig_u rfl rfl rfl) (prs_cons (prig_u rfl rfl rfl) (prs_cons (prig_u rfl rfl rfl) (prs_cons (prig_u rfl rfl rfl) (prs_cons (prig_n rfl rfl rfl rfl) (prs_cons (pri rfl (p_pick rfl rfl rfl (pick_f rfl))) (prs_cons (pri rfl (p_move rfl)) (prs_cons (prig_y rfl rfl rfl rfl (p_move rfl)) (prs_cons (prig_y rfl rfl rfl rfl (p_bin rfl rfl b_eq)) (prs_cons (prig_y rfl rfl rfl rfl (p_move rfl)) (prs_cons (prig_y rfl rfl rfl rfl (p_loadA t59 rfl rfl rfl (g_all (k := 13) rfl))) (prs_cons (prig_y rfl rfl rfl rfl (p_move rfl)) (prs_cons (prig_y rfl rfl rfl rfl (p_idx_arr1 (j := k) Try.underlying67 t9 rfl rfl (by first | rfl | omega) (by first | omega | (simp; done) | (simp; omega)))) (prs_cons (prig_y rfl rfl rfl rfl (p_load1 t9 rfl rfl (g_arr1 (f := (fun i => .string (F i))) (k := 11) rfl (by omega)))) prs_nil)))))))))))))))))))) rfl rfl rfl rfl rfl rfl rfl rfl rfl rfl rfl rfl (fun _ _ => rfl) rfl (ms_call (xs := [.tmp 90]) (bytes_spec x ho (by have := hFl k; rw [← he, ofI_size] at this; omega)) cb32 [] [(false, 51)] [] [] rfl rfl rfl rfl rfl rfl rfl rfl (fun _ _ => rfl) (fun _ _ _ => rfl)) (fun _ _ => stg_end [21, 22, 23, 18, 19, 20] rfl rfl (prs_cons (prig_y rfl rfl rfl rfl (p_bin rfl rfl b_sne)) (prs_cons (prig_y rfl rfl rfl rfl (p_pick rfl rfl rfl (pick_t rfl))) (prs_cons (pri rfl (p_pick rfl rfl rfl (pick_f rfl))) (prs_cons (prig_y rfl rfl rfl rfl (p_move rfl)) (prs_cons (prig_y rfl rfl rfl rfl (p_idx_arr1 (j := k) Try.underlying67 t9 rfl rfl (by first | rfl | omega) (by first | omega | (simp; done) | (simp; omega)))) (prs_cons (prig_y rfl rfl rfl rfl (p_load1 t9 rfl rfl (g_arr1 (f := (fun i => .string (F i))) (k := 11) rfl (by omega)))) prs_nil)))))) rfl rfl rfl ?_))
      refine r_cond rfl (fun h2 => ?_) (fun h2 => ?_)
      · exact absurd h2 (by rw [he, ba_eq]; simp)
      · (try simp only [decide_eq_true_eq, decide_eq_false_iff_not, Bool.and_eq_true, Bool.or_eq_true, Bool.and_eq_false_iff, Bool.or_eq_false_iff, Bool.not_eq_true, Bool.not_eq_false, Bool.not_eq_true', Bool.not_eq_false', Bool.not_not, bne_iff_ne, beq_iff_eq] at h2)
        refine r_skip ?_
        refine r_region ?_
        refine r_p (p_move rfl) rfl ?_
        refine r_p (p_bin rfl rfl (b_add (by first | exact w_i64 (by omega) (by omega) | rfl))) rfl ?_
        refine r_p (p_assign rfl) rfl ?_
        refine r_nil ?_
        refine r_here (k + 1) ⟨by omega, by omega⟩ rfl rfl rfl
    · refine r_draw [74, 75, 76, 77, 78, 79, 80, 81, 82, 83, 84, 85, 86, 87, 88, 89, 90, 91, 92, 93, 94, 95, 96, 97] _ rfl (stg_memg (V := [(0, 74, _), (1, 75, _), (2, 76, _), (3, 77, _), (4, 78, _), (5, 79, _), (6, 80, _), (7, 81, _)]) [0, 1, 2, 3, 4, 5, 6, 7] 8 [8, 7, 6, 5, 4, 3, 2, 1, 0] [9, 10, 11, 12, 13, 14, 15, 16, 17, 18, 19, 20, 21, 22, 23] (fun _ => [(9, 83, _), (10, 84, _), (11, 85, _), (12, 86, _), (13, 87, _), (14, 88, _), (15, 89, _), (16, 90, _), (17, 91, _), (18, 92, _), (19, 93, _), (20, 94, _), (21, 95, _), (22, 96, _), (23, 97, _)]) rfl rfl (prs_cons (pri rfl (p_move rfl)) (prs_cons (pri rfl (p_bin rfl rfl b_ne)) (prs_cons (pri rfl (p_move rfl)) (prs_cons (prig_y rfl rfl rfl rfl (p_move rfl)) (prs_cons (prig_y rfl rfl rfl rfl (p_bin rfl rfl b_ne)) (prs_cons (prig_y rfl rfl rfl rfl (p_move rfl)) (prs_cons (prig_y rfl rfl rfl rfl (p_loadA t59 rfl rfl rfl (g_all (k := 13) rfl))) (prs_cons (prig_y rfl rfl rfl rfl (p_build (cs := (snC zSp).toArray) (parts := []) t59 pl59 rfl (by kernel_rfl))) prs_nil)))))))) rfl rfl rfl rfl rfl rfl rfl rfl rfl rfl rfl rfl (fun _ _ => rfl) rfl (ms_call (xs := [.tmp 80, .tmp 81]) (same_spec zSp zSp Sp.Sm.zero) cb34 [] [(false, 51), (false, 51)] [] [] rfl rfl rfl rfl rfl rfl rfl rfl (fun _ _ => rfl) (fun _ _ _ => rfl)) (fun _ _ => stg_end [9, 10, 11, 12, 13, 14, 15, 16, 17, 18, 19, 20, 21, 22, 23] rfl rfl (prs_cons (prig_y rfl rfl rfl rfl (p_not rfl)) (prs_cons (prig_y rfl rfl rfl rfl (p_pick rfl rfl rfl (pick_f rfl))) (prs_cons (pri rfl (p_pick rfl rfl rfl (pick_t rfl))) (prs_cons (pri rfl (p_move rfl)) (prs_cons (prig_y rfl rfl rfl (by simp) (p_move rfl)) (prs_cons (prig_y rfl rfl rfl (by simp) (p_bin rfl rfl b_eq)) (prs_cons (prig_y rfl rfl rfl (by simp) (p_move rfl)) (prs_cons (prig_n rfl rfl rfl rfl) (prs_cons (prig_n rfl rfl rfl rfl) (prs_cons (prig_n rfl rfl rfl rfl) (prs_cons (prig_n rfl rfl rfl rfl) (prs_cons (prig_n rfl rfl rfl rfl) (prs_cons (prig_n rfl rfl rfl rfl) (prs_cons (prig_y rfl rfl rfl (by simp) (p_pick rfl rfl rfl (pick_f rfl))) (prs_cons (pri rfl (p_pick rfl rfl rfl (pick_f (by simp)))) prs_nil))))))))))))))) rfl rfl rfl ?_))
      refine r_cond rfl (fun h3 => ?_) (fun h3 => ?_)
      · exact absurd h3 (by simp)
      · (try simp only [decide_eq_true_eq, decide_eq_false_iff_not, Bool.and_eq_true, Bool.or_eq_true, Bool.and_eq_false_iff, Bool.or_eq_false_iff, Bool.not_eq_true, Bool.not_eq_false, Bool.not_eq_true', Bool.not_eq_false', Bool.not_not, bne_iff_ne, beq_iff_eq] at h3)
        refine r_skip ?_
        refine r_region ?_
        refine r_p (p_move rfl) rfl ?_
        refine r_p (p_bin rfl rfl (b_add (by first | exact w_i64 (by omega) (by omega) | rfl))) rfl ?_
        refine r_p (p_assign rfl) rfl ?_
        refine r_nil ?_
        refine r_here (k + 1) ⟨by omega, by omega⟩ rfl rfl rfl
  · (try simp only [decide_eq_true_eq, decide_eq_false_iff_not, Bool.and_eq_true, Bool.or_eq_true, Bool.and_eq_false_iff, Bool.or_eq_false_iff, Bool.not_eq_true, Bool.not_eq_false, Bool.not_eq_true', Bool.not_eq_false', Bool.not_not, bne_iff_ne, beq_iff_eq] at h1)
    refine r_exit ?_
    refine r_seq ?_
    refine r_region ?_
    refine r_p (p_move rfl) rfl ?_
    refine r_p (p_assign rfl) rfl ?_
    refine r_nil ?_
    refine r_cret ?_
    refine r_ret () trivial rfl (rs1 (rv_tmp rfl)) rfl [] [] rfl rfl rfl

end Go.Proofs.Ytohenjmkhncoiaa
