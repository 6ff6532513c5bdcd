/-
  The check of a function. Condition: lists are not longer than a million.
-/
import Derived.Test.YtdcbbkpdlcojfaaAT
namespace Go.Proofs.Ytdcbbkpdlcojfaa
set_option linter.unusedSimpArgs false
set_option linter.unusedVariables false
open Go.RowKit

theorem dcl_app : ∀ (ns a b : List ByteArray), dcl ns (a ++ b) = fst (dcl ns a) (dcl (ns ++ a) b)
  | ns, [], b => by simp [dcl, fst]
  | ns, x :: r, b => by
    rw [List.cons_append, dcl, dcl_app (ns ++ [x]) r b, dcl, fst_assoc, List.append_assoc]
    rfl
theorem dcl_take {l : List ByteArray} {i : Nat} {x : ByteArray} (h : l[i]? = some x) : dcl [] (l.take (i + 1)) = fst (dcl [] (l.take i)) (if memB x (l.take i) = true then 22 else 0) := by
  rw [take_snoc h, dcl_app]
  show fst _ (fst (if memB x ([] ++ l.take i) = true then 22 else 0) 0) = _
  rw [fst_zero, List.nil_append]
/-- Whether a function is too large. -/
def big (f : Tf) : Prop := f.ps.length > 4 ∨ f.ps.length + vYs f.body > 12 ∨ nYs f.body > 400 ∨ dpYs 1 f.body = true
instance (f : Tf) : Decidable (big f) := by unfold big; exact inferInstance
theorem chkF_eq (fs : List Tf) (f : Tf) : chkF fs f = fst (if big f then 2 else 0) (fst (dcl [] f.ps) (bYs fs f.ps f.body).2) := rfl
theorem big_T {f : Tf} {er : Int} {dp : Bool} (hdp : dp = true → er ≠ 0) (h : (decide ((f.ps.length : Int) > 4) || decide ((f.ps.length : Int) + (vYs f.body : Int) > 12) || decide (0 + (nYs f.body : Int) > 400) || (dp || dpYs 1 f.body)) = true) : fst er 2 = fst er (if big f then 2 else 0) := by
  by_cases hb : big f
  · rw [if_pos hb]
  · rw [if_neg hb, fst_zero]
    unfold big at hb
    have hd : dp = true := by
      cases hd : dp with
      | true => rfl
      | false =>
        exfalso
        apply hb
        rw [hd, Bool.false_or] at h
        simp only [Bool.or_eq_true, decide_eq_true_eq] at h
        rcases h with ((h | h) | h) | h
        · exact .inl (by omega)
        · exact .inr (.inl (by omega))
        · exact .inr (.inr (.inl (by omega)))
        · exact .inr (.inr (.inr h))
    exact if_neg (hdp hd)
theorem big_F {f : Tf} {er : Int} {dp : Bool} (h : (decide ((f.ps.length : Int) > 4) || decide ((f.ps.length : Int) + (vYs f.body : Int) > 12) || decide (0 + (nYs f.body : Int) > 400) || (dp || dpYs 1 f.body)) = false) : er = fst er (if big f then 2 else 0) := by
  simp only [Bool.or_eq_false_iff, decide_eq_false_iff_not] at h
  have hb : ¬ big f := by
    unfold big
    rintro (h1 | h1 | h1 | h1)
    · omega
    · omega
    · omega
    · rw [h.2.2] at h1; cases h1
  rw [if_neg hb, fst_zero]
theorem deep_err {fs : List Tf} {f : Tf} {er : Int} {dp : Bool} (hdp : dp = true → er ≠ 0) (h : (dp || dpYs 1 f.body) = true) : fst er (chkF fs f) ≠ 0 := by
  intro h2
  obtain ⟨h3, h4⟩ := fst_eq_zero.1 h2
  rw [chkF_eq] at h4
  have h5 := (fst_eq_zero.1 h4).1
  have hb : ¬ big f := fun hb => by rw [if_pos hb] at h5; cases h5
  cases hd : dp with
  | true => exact hdp hd h3
  | false =>
    rw [hd, Bool.false_or] at h
    exact hb (.inr (.inr (.inr h)))
theorem chkFs_app (fs : List Tf) : ∀ a b : List Tf, chkFs fs (a ++ b) = fst (chkFs fs a) (chkFs fs b)
  | [], b => rfl
  | t :: r, b => by rw [List.cons_append, chkFs, chkFs_app fs r b, chkFs, fst_assoc]
theorem chkFs_take {fs l : List Tf} {i : Nat} {f : Tf} (h : l[i]? = some f) : chkFs fs (l.take (i + 1)) = fst (chkFs fs (l.take i)) (chkF fs f) := by
  rw [take_snoc h, chkFs_app]
  show fst _ (fst (chkF fs f) 0) = _
  rw [fst_zero]
theorem once_iff {fs : List Tf} : once fs = true ↔ ∀ (i : Nat) (f : Tf), fs[i]? = some f → fix fs f.name = (i : Int) := by
  unfold once
  rw [List.all_eq_true]
  constructor
  · intro h i f hf
    obtain ⟨hi, hf2⟩ := List.getElem?_eq_some_iff.1 hf
    have := h i (List.mem_range.2 hi)
    rw [List.getD_eq_getElem?_getD, hf] at this
    simpa using this
  · intro h i hi
    have hi := List.mem_range.1 hi
    have h2 := List.getElem?_eq_getElem hi
    have := h i _ h2
    rw [List.getD_eq_getElem?_getD, h2]
    simpa using this
theorem once_no {fs : List Tf} {i : Nat} {f : Tf} (hf : fs[i]? = some f) (h : ¬ fix fs f.name = (i : Int)) : once fs = false := by
  rw [Bool.eq_false_iff]
  exact fun h2 => h (once_iff.1 h2 i f hf)
theorem chk_1 {fs : List Tf} (h : rP fs = false) : chk fs = 1 := if_pos h
theorem chk_2 {fs : List Tf} (h : rP fs = true) (h2 : fs.length > 16) : chk fs = 2 := by
  unfold chk
  rw [if_neg (by rw [h]; simp), if_pos h2]
theorem chk_22 {fs : List Tf} (h : rP fs = true) (h2 : ¬ fs.length > 16) (h3 : once fs = false) : chk fs = 22 := by
  unfold chk
  rw [if_neg (by rw [h]; simp), if_neg h2, if_pos h3]
theorem chk_21 {fs : List Tf} (h : rP fs = true) (h2 : ¬ fs.length > 16) (h3 : once fs = true) (h4 : ffind fs nMain = none) : chk fs = 21 := by
  unfold chk
  rw [if_neg (by rw [h]; simp), if_neg h2, if_neg (by rw [h3]; simp), h4]
theorem chk_23 {fs : List Tf} {f : Tf} (h : rP fs = true) (h2 : ¬ fs.length > 16) (h3 : once fs = true) (h4 : ffind fs nMain = some f) (h5 : f.ps.length > 0) : chk fs = 23 := by
  unfold chk
  rw [if_neg (by rw [h]; simp), if_neg h2, if_neg (by rw [h3]; simp), h4]
  exact if_pos h5
theorem chk_0 {fs : List Tf} {f : Tf} (h : rP fs = true) (h2 : ¬ fs.length > 16) (h3 : once fs = true) (h4 : ffind fs nMain = some f) (h5 : ¬ f.ps.length > 0) : chk fs = chkFs fs fs := by
  unfold chk
  rw [if_neg (by rw [h]; simp), if_neg h2, if_neg (by rw [h3]; simp), h4]
  exact if_neg h5
set_option maxHeartbeats 4000000 in
set_option maxRecDepth 100000 in
theorem cfunc_spec (c : Nat) (vp vn : SV) (nd va : Int) (dp : Bool) (er : Int) (ns : List ByteArray) (fs : List Tf) (hfl : fs.length ≤ 1000000) (f : Tf) (hg : GF f) (hdp : dp = true → er ≠ 0) :
    Spec Try.prog 68 [.pointer (some ⟨c, 0, none⟩), tfV f] [row c 109 (cR vp (vn) (nd) (va) (dp) (er)), own 9 1 eS (sv vn) (ns)] [tfA f, tfsA vp fs] (X := SV) (fun _ => True) (fun _ => .tuple #[]) (fun x => [row c 109 (cR vp (x) (0 + (nYs f.body : Int)) ((f.ps.length : Int) + (vYs f.body : Int)) (dp || dpYs 1 f.body) (fst er (chkF fs f))), own 9 1 eS (sv x) ((bYs fs f.ps f.body).1)]) (fun _ => []) := by
  refine r_enter Try.func68 rfl Try.ntmps68 rfl fun w0 M H => ?_
  obtain ⟨g1, g2, g3, g4, g5, g6⟩ := hg
  have hvl := vYs_le f.body
  refine r_more 0 2 rfl tf_ps ?_
  refine r_more 0 3 rfl tf_body ?_
  refine r_seq ?_
  refine r_region ?_
  refine r_boxA rfl rfl fun b3 => ?_
  refine r_nil ?_
  refine r_seq ?_
  refine r_drawM [0, 1, 2, 3, 4, 5, 6, 7, 8, 9, 10, 11, 12, 13, 14] [0, 7, 11, 1, 2, 3, 4, 5, 6, 8, 9, 10, 12, 13, 14] [6, 7, 8, 9, 10, 11, 12, 13, 14, 15, 16, 17] _ rfl rfl rfl (stg_mem0 (V := [(0, 6, _), (1, 7, _), (2, 8, _), (3, 9, _), (4, 10, _), (5, 11, _), (6, 12, _), (7, 13, _)]) [0, 1, 2, 3, 4, 5, 6, 7] 8 [8, 7, 6, 0] [9, 10] (fun _ => [(9, 14, _), (10, 15, _)]) rfl rfl (prs_cons (pri rfl (p_move rfl)) (prs_cons (pri rfl (p_move rfl)) (prs_cons (pri rfl (p_move rfl)) (prs_cons (pri rfl (p_field0 fo64_1 rfl)) (prs_cons (pri rfl (p_load1 t62 rfl rfl (g_row1 (k := 3) rfl rfl))) (prs_cons (pri rfl (p_len_sl Try.underlying62 rfl (hs_sl (k := 2) rfl))) (prs_cons (pri rfl (p_nilCheck rfl)) (prs_cons (pri rfl (p_field0 fo109_1 rfl)) prs_nil)))))))) rfl rfl rfl rfl rfl rfl rfl rfl rfl (fun _ _ => rfl) rfl (ms_store_row (k := 0) t62 rfl rfl rfl rfl rfl rfl rfl rfl) (fun _ _ => stg_mem0 [9, 10, 1, 2, 3, 4, 5] 11 [11, 10, 9, 8, 7, 6, 1, 0] [12, 13] (fun _ => [(12, 16, _), (13, 17, _)]) rfl rfl (prs_cons (pri rfl (p_nilCheck rfl)) (prs_cons (pri rfl (p_field0 fo109_2 rfl)) (prs_cons (pri rfl (p_move rfl)) (prs_cons (pri rfl (p_move rfl)) (prs_cons (pri rfl (p_field0 fo64_1 rfl)) (prs_cons (pri rfl (p_load1 t62 rfl rfl (g_row1 (k := 3) rfl rfl))) (prs_cons (pri rfl (p_len_sl Try.underlying62 rfl (hs_sl (k := 2) rfl))) prs_nil))))))) rfl rfl rfl rfl rfl rfl rfl rfl rfl (fun _ _ => rfl) rfl (ms_store_row (k := 0) t3 rfl rfl rfl rfl rfl rfl rfl rfl) (fun _ _ => stg_mem0 [12, 13, 2, 3, 4, 5] 14 [14, 13, 12, 11, 10, 9, 8, 7, 6, 5, 4, 3, 2, 1, 0] [] (fun _ => []) rfl rfl (prs_cons (pri rfl (p_nilCheck rfl)) (prs_cons (pri rfl (p_field0 fo109_3 rfl)) (prs_cons (pri rfl (p_move rfl)) (prs_cons (pri rfl (p_field0 fo64_1 rfl)) (prs_cons (pri rfl (p_load1 t62 rfl rfl (g_row1 (k := 3) rfl rfl))) (prs_cons (pri rfl (p_len_sl Try.underlying62 rfl (hs_sl (k := 2) rfl))) prs_nil)))))) rfl rfl rfl rfl rfl rfl rfl rfl rfl (fun _ _ => rfl) rfl (ms_store_row (k := 0) t3 rfl rfl rfl rfl rfl rfl rfl rfl) (fun _ _ => stg_end [] rfl rfl prs_nil rfl rfl rfl ?_))))
  refine r_nilown 1 (α := ByteArray) (S := 9) (s := 1) (enc := eS) ?_
  refine r_seq ?_
  refine r_region ?_
  refine r_p (p_move rfl) rfl ?_
  refine r_p (p_field0 fo64_2 rfl) rfl ?_
  refine r_p (p_load1 t52 rfl rfl (g_row1 (k := 3) rfl rfl)) rfl ?_
  refine r_call (xs := [.tmp 18, .tmp 20, .const (.int .i64 1)]) (count_spec c vp nilS er f.vb f.body g4 g5 1 0 (f.ps.length : Int) dp (by omega) (by omega) (by omega) (by omega) (by omega)) cb81 [0] [(false, 3)] [0] [] rfl rfl rfl rfl rfl rfl rfl rfl (fun _ _ => rfl) (fun _ _ _ => rfl) rfl (fun _ _ => ?_)
  refine r_nil ?_
  refine r_seq_cut (X := Unit) (fun _ => True) (fun _ => [(0, .pointer (some ⟨c, 0, none⟩)), (3, .pointer (some ⟨b3, 0, none⟩))]) (fun _ => [(0, row c 109 (cR vp (nilS) (0 + (nYs f.body : Int)) ((f.ps.length : Int) + (vYs f.body : Int)) (dp || dpYs 1 f.body) (fst er (if big f then 2 else 0)))), (1, own 9 1 eS (sv nilS) ([])), (3, row b3 64 (eTf f))]) (fun _ => [(0, tfA f), (1, tfsA vp fs), (2, sl 1 eS (sv f.vp) f.ps), (3, tysA f.vb f.body)]) ?_ (fun _ _ => ?_)
  · refine r_seq ?_
    refine r_region ?_
    refine r_p (p_field0 fo64_1 rfl) rfl ?_
    refine r_p (p_load1 t62 rfl rfl (g_row1 (k := 3) rfl rfl)) rfl ?_
    refine r_p (p_len_sl Try.underlying62 rfl (hs_sl (k := 2) rfl)) rfl ?_
    refine r_p (p_bin rfl rfl b_gt) rfl ?_
    refine r_p (p_move rfl) rfl ?_
    refine r_gp [] rfl rfl trivial (fun hg1 => p_move rfl) rfl ?_
    refine r_gp [(27, _)] rfl rfl ⟨rfl, trivial⟩ (fun hg2 => p_nilCheck rfl) rfl ?_
    refine r_gp [(27, _), (28, _)] rfl rfl ⟨rfl, rfl, trivial⟩ (fun hg3 => p_field0 fo109_3 rfl) rfl ?_
    refine r_gp [(27, _), (28, _), (29, _)] rfl rfl ⟨rfl, rfl, rfl, trivial⟩ (fun hg4 => p_load1 t3 rfl rfl (g_row1 (k := 0) rfl rfl)) rfl ?_
    refine r_gp [(27, _), (28, _), (29, _), (30, _)] rfl rfl ⟨rfl, rfl, rfl, rfl, trivial⟩ (fun hg5 => p_bin rfl rfl b_gt) rfl ?_
    refine r_p (p_pick rfl rfl rfl (by first | exact pick_and | exact pick_or |  rfl)) rfl ?_
    refine r_p (p_move rfl) rfl ?_
    refine r_gp [] rfl rfl trivial (fun hg6 => p_move rfl) rfl ?_
    refine r_gp [(34, _)] rfl rfl ⟨rfl, trivial⟩ (fun hg7 => p_nilCheck rfl) rfl ?_
    refine r_gp [(34, _), (35, _)] rfl rfl ⟨rfl, rfl, trivial⟩ (fun hg8 => p_field0 fo109_2 rfl) rfl ?_
    refine r_gp [(34, _), (35, _), (36, _)] rfl rfl ⟨rfl, rfl, rfl, trivial⟩ (fun hg9 => p_load1 t3 rfl rfl (g_row1 (k := 0) rfl rfl)) rfl ?_
    refine r_gp [(34, _), (35, _), (36, _), (37, _)] rfl rfl ⟨rfl, rfl, rfl, rfl, trivial⟩ (fun hg10 => p_bin rfl rfl b_gt) rfl ?_
    refine r_p (p_pick rfl rfl rfl (by first | exact pick_and | exact pick_or |  rfl)) rfl ?_
    refine r_p (p_move rfl) rfl ?_
    refine r_gp [] rfl rfl trivial (fun hg11 => p_move rfl) rfl ?_
    refine r_gp [(41, _)] rfl rfl ⟨rfl, trivial⟩ (fun hg12 => p_nilCheck rfl) rfl ?_
    refine r_gp [(41, _), (42, _)] rfl rfl ⟨rfl, rfl, trivial⟩ (fun hg13 => p_field0 fo109_4 rfl) rfl ?_
    refine r_gp [(41, _), (42, _), (43, _)] rfl rfl ⟨rfl, rfl, rfl, trivial⟩ (fun hg14 => p_load1 t4 rfl rfl (g_row1 (k := 0) rfl rfl)) rfl ?_
    refine r_p (p_pick rfl rfl rfl (by first | exact pick_and | exact pick_or |  rfl)) rfl ?_
    refine r_nil ?_
    refine r_cond rfl (fun h15 => ?_) (fun h15 => ?_)
    · have hq := h15
      refine r_region ?_
      refine r_p (p_move rfl) rfl ?_
      refine r_call (xs := [.tmp 46, .const (.int .i64 2)]) (cfail_spec c vp nilS (0 + (nYs f.body : Int)) ((f.ps.length : Int) + (vYs f.body : Int)) (dp || dpYs 1 f.body) er 2) cb82 [0] [] [0] [] rfl rfl rfl rfl rfl rfl rfl rfl (fun _ _ => rfl) (fun _ _ _ => rfl) rfl (fun _ _ => ?_)
      refine r_nil ?_
      refine r_here () trivial rfl (by rw [← big_T hdp hq]; rfl) rfl
    · have hq := h15
      refine r_skip ?_
      refine r_here () trivial rfl (by rw [← big_F hq]; rfl) rfl
  · refine r_seq ?_
    refine r_seq ?_
    refine r_region ?_
    refine r_p (p_field0 fo64_1 rfl) rfl ?_
    refine r_p (p_load1 t62 rfl rfl (g_row1 (k := 3) rfl rfl)) rfl ?_
    refine r_p (p_len_sl Try.underlying62 rfl (hs_sl (k := 2) rfl)) rfl ?_
    refine r_p (p_move rfl) rfl ?_
    refine r_nil ?_
    refine r_block ?_
    refine r_loop (X := Nat × SV) (fun x => x.1 ≤ f.ps.length) (fun x => [(0, .pointer (some ⟨c, 0, none⟩)), (3, .pointer (some ⟨b3, 0, none⟩)), (49, sv f.vp), (50, .int .i64 (f.ps.length : Int)), (51, .int .i64 (x.1 : Int))]) (fun x => [(0, row c 109 (cR vp (x.2) (0 + (nYs f.body : Int)) ((f.ps.length : Int) + (vYs f.body : Int)) (dp || dpYs 1 f.body) (fst (fst er (if big f then 2 else 0)) (dcl [] (f.ps.take x.1))))), (1, own 9 1 eS (sv x.2) (f.ps.take x.1)), (3, row b3 64 (eTf f))]) (fun x => [(0, tfA f), (1, tfsA vp fs), (2, sl 1 eS (sv f.vp) f.ps), (3, tysA f.vb f.body)]) (fun x => f.ps.length - x.1) (0, nilS) (Nat.zero_le _) rfl (by rw [show fst (fst er (if big f then 2 else 0)) (dcl [] (f.ps.take (0, nilS).1)) = fst er (if big f then 2 else 0) from fst_zero _]; rfl) rfl (fun x n1 => ?_)
    obtain ⟨i, v⟩ := x
    dsimp only at n1 ⊢
    refine r_seq ?_
    refine r_region ?_
    refine r_p (p_bin rfl rfl b_lt) rfl ?_
    refine r_nil ?_
    refine r_seq ?_
    refine r_cond rfl (fun h16 => ?_) (fun h16 => ?_)
    · (try simp only [decide_eq_true_eq, decide_eq_false_iff_not, Bool.and_eq_true, Bool.or_eq_true, Bool.and_eq_false_iff, Bool.or_eq_false_iff, Bool.not_eq_true, Bool.not_eq_false, Bool.not_eq_true', Bool.not_eq_false', Bool.not_not, bne_iff_ne, beq_iff_eq] at h16)
      have hi : i < f.ps.length := by omega
      obtain ⟨x, hx⟩ : ∃ k, f.ps[i]? = some k := ⟨_, List.getElem?_eq_getElem hi⟩
      refine r_skip ?_
      refine r_seq ?_
      refine r_block ?_
      refine r_seq ?_
      refine r_region ?_
      refine r_p (p_idx_sl (j := i) Try.underlying62 t9 rfl rfl (hs_sl (k := 2) rfl) (by first | rfl | omega) (by first | omega | (simp; done) | (simp; omega))) rfl ?_
      refine r_p (p_load1 t9 rfl rfl (g_el' (hs_sl (k := 2) rfl) (by intro _; rfl) hx (by rfl))) rfl ?_
      refine r_p (p_assign rfl) rfl ?_
      refine r_nil ?_
      refine r_region ?_
      refine r_p (p_move rfl) rfl ?_
      refine r_p (p_move rfl) rfl ?_
      refine r_call (xs := [.tmp 55, .tmp 56]) (cdecl_spec c vp v (0 + (nYs f.body : Int)) ((f.ps.length : Int) + (vYs f.body : Int)) (dp || dpYs 1 f.body) (fst (fst er (if big f then 2 else 0)) (dcl [] (f.ps.take i))) (f.ps.take i) (by rw [List.length_take]; omega) x) cb83 [0, 1] [] [0, 1] [] rfl rfl rfl rfl rfl rfl rfl rfl (fun _ _ => rfl) (fun _ _ _ => rfl) rfl (fun v2 _ => ?_)
      refine r_nil ?_
      refine r_region ?_
      refine r_p (p_bin rfl rfl (b_add (by first | exact w_i64 (by omega) (by omega) | rfl))) rfl ?_
      refine r_p (p_move rfl) rfl ?_
      refine r_nil ?_
      refine r_here (i + 1, v2) ⟨by dsimp only; omega, by dsimp only; omega⟩ rfl (by dsimp only; rw [dcl_take hx, take_snoc hx]; simp only [fst_assoc]; rfl) rfl
    · (try simp only [decide_eq_true_eq, decide_eq_false_iff_not, Bool.and_eq_true, Bool.or_eq_true, Bool.and_eq_false_iff, Bool.or_eq_false_iff, Bool.not_eq_true, Bool.not_eq_false, Bool.not_eq_true', Bool.not_eq_false', Bool.not_not, bne_iff_ne, beq_iff_eq] at h16)
      have hi : i = f.ps.length := by omega
      subst hi
      rw [List.take_length]
      refine r_exit ?_
      refine r_region ?_
      refine r_p (p_move rfl) rfl ?_
      refine r_p (p_field0 fo64_2 rfl) rfl ?_
      refine r_p (p_load1 t52 rfl rfl (g_row1 (k := 3) rfl rfl)) rfl ?_
      refine r_call (xs := [.tmp 59, .tmp 61]) (cblock_spec c vp (0 + (nYs f.body : Int)) ((f.ps.length : Int) + (vYs f.body : Int)) (dp || dpYs 1 f.body) fs hfl f.vb f.body g4 g5 v f.ps (fst (fst er (if big f then 2 else 0)) (dcl [] f.ps)) (by omega)) cb84 [0, 1] [(false, 3), (false, 1)] [0, 1] [] rfl rfl rfl rfl rfl rfl rfl rfl (fun _ _ => rfl) (fun _ _ _ => rfl) rfl (fun v3 _ => ?_)
      refine r_nil ?_
      rw [show fst er (chkF fs f) = fst (fst (fst er (if big f then 2 else 0)) (dcl [] f.ps)) (bYs fs f.ps f.body).2 by rw [chkF_eq]; simp only [fst_assoc]]
      refine r_end v3 trivial rfl rs0 rfl [0, 1] [] rfl rfl rfl
set_option maxHeartbeats 8000000 in
set_option maxRecDepth 100000 in
theorem check_spec (vp : SV) (fs : List Tf) (hg : GP fs) :
    Spec Try.prog 36 [.agg #[sv vp]] [] [tfsA vp fs] (X := Unit) (fun _ => True) (fun _ => .int .i64 (chk fs)) (fun _ => []) (fun _ => []) := by
  refine r_enter Try.func36 rfl Try.ntmps36 rfl fun w0 M H => ?_
  refine r_more 0 1 rfl tfs_sl ?_
  have hfl := hg.1
  refine r_seq ?_
  refine r_region ?_
  refine r_boxA rfl rfl fun b1 => ?_
  refine r_p (p_assign rfl) rfl ?_
  refine r_nil ?_
  refine r_seq ?_
  refine r_seq ?_
  refine r_region ?_
  refine r_p (p_loadA t40 rfl rfl rfl (g_all (k := 1) rfl)) rfl ?_
  refine r_call (xs := [.tmp 9]) (right_spec vp fs hg) cb66 [] [(false, 0)] [] [] rfl rfl rfl rfl rfl rfl rfl rfl (fun _ _ => rfl) (fun _ _ _ => rfl) rfl (fun _ _ => ?_)
  refine r_p (p_not rfl) rfl ?_
  refine r_nil ?_
  refine r_cond rfl (fun h1 => ?_) (fun h1 => ?_)
  · have hr : rP fs = false := by simpa using h1
    refine r_seq ?_
    refine r_region ?_
    refine r_p (p_assign rfl) rfl ?_
    refine r_nil ?_
    refine r_cret ?_
    refine r_ret () trivial rfl (rs1 (rv_tmp rfl)) (by rw [chk_1 hr]) [] [] rfl rfl rfl
  · have hr : rP fs = true := by simpa using h1
    refine r_skip ?_
    refine r_seq ?_
    refine r_seq ?_
    refine r_region ?_
    refine r_p (p_field0 fo40_0 rfl) rfl ?_
    refine r_p (p_load1 t38 rfl rfl (g_row1 (k := 1) rfl rfl)) rfl ?_
    refine r_p (p_len_sl Try.underlying38 rfl (hs_sl (k := 1) rfl)) rfl ?_
    refine r_p (p_bin rfl rfl b_gt) rfl ?_
    refine r_nil ?_
    refine r_cond rfl (fun h2 => ?_) (fun h2 => ?_)
    · (try simp only [decide_eq_true_eq, decide_eq_false_iff_not, Bool.and_eq_true, Bool.or_eq_true, Bool.and_eq_false_iff, Bool.or_eq_false_iff, Bool.not_eq_true, Bool.not_eq_false, Bool.not_eq_true', Bool.not_eq_false', Bool.not_not, bne_iff_ne, beq_iff_eq] at h2)
      refine r_seq ?_
      refine r_region ?_
      refine r_p (p_assign rfl) rfl ?_
      refine r_nil ?_
      refine r_cret ?_
      refine r_ret () trivial rfl (rs1 (rv_tmp rfl)) (by rw [chk_2 hr (by omega)]) [] [] rfl rfl rfl
    · (try simp only [decide_eq_true_eq, decide_eq_false_iff_not, Bool.and_eq_true, Bool.or_eq_true, Bool.and_eq_false_iff, Bool.or_eq_false_iff, Bool.not_eq_true, Bool.not_eq_false, Bool.not_eq_true', Bool.not_eq_false', Bool.not_not, bne_iff_ne, beq_iff_eq] at h2)
      refine r_skip ?_
      refine r_seq ?_
      refine r_region ?_
      refine r_p (p_loadA t40 rfl rfl rfl (g_all (k := 1) rfl)) rfl ?_
      refine r_p (p_build (parts := [(0, .tmp 16)]) t109 pl109 rfl rfl) rfl ?_
      refine r_boxA rfl rfl fun b18 => ?_
      refine r_p (p_assign rfl) rfl ?_
      refine r_nil ?_
      refine r_seq ?_
      refine r_seq ?_
      refine r_region ?_
      refine r_p (p_field0 fo40_0 rfl) rfl ?_
      refine r_p (p_load1 t38 rfl rfl (g_row1 (k := 1) rfl rfl)) rfl ?_
      refine r_p (p_len_sl Try.underlying38 rfl (hs_sl (k := 1) rfl)) rfl ?_
      refine r_p (p_move rfl) rfl ?_
      refine r_nil ?_
      refine r_block ?_
      refine r_loop (X := Nat) (fun i => i ≤ fs.length ∧ ∀ j f, j < i → fs[j]? = some f → fix fs f.name = (j : Int)) (fun i => [(1, .pointer (some ⟨b1, 0, none⟩)), (2, .int .i64 0), (3, .pointer (some ⟨b18, 0, none⟩)), (20, sv vp), (21, .int .i64 (fs.length : Int)), (22, .int .i64 (i : Int))]) (fun i => [(1, row b1 40 [sv vp]), (18, row b18 109 (cR vp nilS 0 0 false 0))]) (fun i => [(0, tfsA vp fs), (1, sl 3 eTf (sv vp) fs)]) (fun i => fs.length - i) 0 ⟨Nat.zero_le _, fun j f hj => by omega⟩ rfl rfl rfl (fun i hx0 => ?_)
      obtain ⟨n1, n2⟩ := hx0
      refine r_seq ?_
      refine r_region ?_
      refine r_p (p_bin rfl rfl b_lt) rfl ?_
      refine r_nil ?_
      refine r_seq ?_
      refine r_cond rfl (fun h3 => ?_) (fun h3 => ?_)
      · (try simp only [decide_eq_true_eq, decide_eq_false_iff_not, Bool.and_eq_true, Bool.or_eq_true, Bool.and_eq_false_iff, Bool.or_eq_false_iff, Bool.not_eq_true, Bool.not_eq_false, Bool.not_eq_true', Bool.not_eq_false', Bool.not_not, bne_iff_ne, beq_iff_eq] at h3)
        have hi : i < fs.length := by omega
        obtain ⟨f, hst⟩ : ∃ k, fs[i]? = some k := ⟨_, List.getElem?_eq_getElem hi⟩
        refine r_skip ?_
        refine r_seq ?_
        refine r_block ?_
        refine r_seq ?_
        refine r_region ?_
        refine r_p (p_move rfl) rfl ?_
        refine r_p (p_idx_sl (j := i) Try.underlying38 t64 rfl rfl (hs_sl (k := 1) rfl) (by first | rfl | omega) (by first | omega | (simp; done) | (simp; omega))) rfl ?_
        refine r_p (p_loadA t64 rfl rfl rfl (g_el' (hs_sl (k := 1) rfl) (by intro _; rfl) hst (by rfl))) rfl ?_
        refine r_alloc t64 rfl rfl fun b5 => ?_
        refine r_p (p_assign rfl) rfl ?_
        refine r_store_all (k := 5) t64 rfl rfl rfl rfl rfl rfl ?_
        refine r_nil ?_
        refine r_seq ?_
        refine r_region ?_
        refine r_p (p_move rfl) rfl ?_
        refine r_p (p_field0 fo64_0 rfl) rfl ?_
        refine r_p (p_load1 t9 rfl rfl (g_row1 (k := 5) rfl rfl)) rfl ?_
        refine r_call (xs := [.tmp 27, .tmp 29]) (cfind_spec b18 vp nilS 0 0 false 0 f.name fs hfl) cb67 [18] [(false, 1)] [18] [] rfl rfl rfl rfl rfl rfl rfl rfl (fun _ _ => rfl) (fun _ _ _ => rfl) rfl (fun _ _ => ?_)
        refine r_p (p_move rfl) rfl ?_
        refine r_p (p_bin rfl rfl b_ne) rfl ?_
        refine r_nil ?_
        refine r_cond rfl (fun h4 => ?_) (fun h4 => ?_)
        · have hne : ¬ fix fs f.name = (i : Int) := by simpa using h4
          refine r_seq ?_
          refine r_region ?_
          refine r_p (p_assign rfl) rfl ?_
          refine r_nil ?_
          refine r_cret ?_
          refine r_ret () trivial rfl (rs1 (rv_tmp rfl)) (by rw [chk_22 hr (by omega) (once_no hst hne)]) [] [] rfl rfl rfl
        · have hne : fix fs f.name = (i : Int) := by simpa using h4
          refine r_skip ?_
          refine r_region ?_
          refine r_p (p_bin rfl rfl (b_add (by first | exact w_i64 (by omega) (by omega) | rfl))) rfl ?_
          refine r_p (p_move rfl) rfl ?_
          refine r_nil ?_
          refine r_here (i + 1) ⟨⟨by omega, fun j f2 hj hf2 => by rcases Nat.lt_succ_iff_lt_or_eq.1 hj with h | h; exact n2 j f2 h hf2; subst h; rw [hst] at hf2; cases hf2; exact hne⟩, by omega⟩ rfl rfl rfl
      · (try simp only [decide_eq_true_eq, decide_eq_false_iff_not, Bool.and_eq_true, Bool.or_eq_true, Bool.and_eq_false_iff, Bool.or_eq_false_iff, Bool.not_eq_true, Bool.not_eq_false, Bool.not_eq_true', Bool.not_eq_false', Bool.not_not, bne_iff_ne, beq_iff_eq] at h3)
        have hi : i = fs.length := by omega
        subst hi
        have ho : once fs = true := once_iff.2 fun j f hf => n2 j f (List.getElem?_eq_some_iff.1 hf).1 hf
        refine r_exit ?_
        refine r_seq ?_
        refine r_region ?_
        refine r_p (p_move rfl) rfl ?_
        refine r_call (xs := [.tmp 34, .const (.string (ByteArray.mk #[109, 97, 105, 110]))]) (cfind_spec b18 vp nilS 0 0 false 0 nMain fs hfl) cb67 [18] [(false, 1)] [18] [] rfl rfl rfl rfl rfl rfl rfl rfl (fun _ _ => rfl) (fun _ _ _ => rfl) rfl (fun _ _ => ?_)
        refine r_p (p_assign rfl) rfl ?_
        refine r_nil ?_
        refine r_seq ?_
        refine r_seq ?_
        refine r_region ?_
        refine r_p (p_move rfl) rfl ?_
        refine r_p (p_bin rfl rfl b_lt) rfl ?_
        refine r_nil ?_
        refine r_cond rfl (fun h5 => ?_) (fun h5 => ?_)
        · (try simp only [decide_eq_true_eq, decide_eq_false_iff_not, Bool.and_eq_true, Bool.or_eq_true, Bool.and_eq_false_iff, Bool.or_eq_false_iff, Bool.not_eq_true, Bool.not_eq_false, Bool.not_eq_true', Bool.not_eq_false', Bool.not_not, bne_iff_ne, beq_iff_eq] at h5)
          have hm : ffind fs nMain = none := ffind_fix.1.1 h5
          refine r_seq ?_
          refine r_region ?_
          refine r_p (p_assign rfl) rfl ?_
          refine r_nil ?_
          refine r_cret ?_
          refine r_ret () trivial rfl (rs1 (rv_tmp rfl)) (by rw [chk_21 hr (by omega) ho hm]) [] [] rfl rfl rfl
        · (try simp only [decide_eq_true_eq, decide_eq_false_iff_not, Bool.and_eq_true, Bool.or_eq_true, Bool.and_eq_false_iff, Bool.or_eq_false_iff, Bool.not_eq_true, Bool.not_eq_false, Bool.not_eq_true', Bool.not_eq_false', Bool.not_not, bne_iff_ne, beq_iff_eq] at h5)
          obtain ⟨f, hm⟩ : ∃ f, ffind fs nMain = some f := by
            cases hf : ffind fs nMain with
            | none => exact absurd (ffind_fix.1.2 hf) (by omega)
            | some f => exact ⟨f, rfl⟩
          obtain ⟨j, hj1, hj2⟩ := ffind_fix.2 f hm
          have hjl := (List.getElem?_eq_some_iff.1 hj2).1
          rw [hj1]
          refine r_more 0 7 rfl (tfs_f (ffind_mem hm)) ?_
          refine r_more 7 9 rfl tf_ps ?_
          refine r_skip ?_
          refine r_seq ?_
          refine r_seq ?_
          refine r_region ?_
          refine r_p (p_field0 fo40_0 rfl) rfl ?_
          refine r_p (p_load1 t38 rfl rfl (g_row1 (k := 1) rfl rfl)) rfl ?_
          refine r_p (p_move rfl) rfl ?_
          refine r_p (p_idx_sl (j := j) Try.underlying38 t64 rfl rfl (hs_sl (k := 1) rfl) rfl hjl) rfl ?_
          refine r_p (p_field fo64_1 rfl) rfl ?_
          refine r_p (p_load1 t62 rfl rfl (g_elp (hs_sl (k := 1) rfl) (by intro _; rfl) hj2 rfl)) rfl ?_
          refine r_p (p_len_sl Try.underlying62 rfl (hs_sl (k := 9) rfl)) rfl ?_
          refine r_p (p_bin rfl rfl b_gt) rfl ?_
          refine r_nil ?_
          refine r_cond rfl (fun h6 => ?_) (fun h6 => ?_)
          · (try simp only [decide_eq_true_eq, decide_eq_false_iff_not, Bool.and_eq_true, Bool.or_eq_true, Bool.and_eq_false_iff, Bool.or_eq_false_iff, Bool.not_eq_true, Bool.not_eq_false, Bool.not_eq_true', Bool.not_eq_false', Bool.not_not, bne_iff_ne, beq_iff_eq] at h6)
            refine r_seq ?_
            refine r_region ?_
            refine r_p (p_assign rfl) rfl ?_
            refine r_nil ?_
            refine r_cret ?_
            refine r_ret () trivial rfl (rs1 (rv_tmp rfl)) (by rw [chk_23 hr (by omega) ho hm (by omega)]) [] [] rfl rfl rfl
          · (try simp only [decide_eq_true_eq, decide_eq_false_iff_not, Bool.and_eq_true, Bool.or_eq_true, Bool.and_eq_false_iff, Bool.or_eq_false_iff, Bool.not_eq_true, Bool.not_eq_false, Bool.not_eq_true', Bool.not_eq_false', Bool.not_not, bne_iff_ne, beq_iff_eq] at h6)
            refine r_skip ?_
            refine r_seq ?_
            refine r_seq ?_
            refine r_region ?_
            refine r_p (p_field0 fo40_0 rfl) rfl ?_
            refine r_p (p_load1 t38 rfl rfl (g_row1 (k := 1) rfl rfl)) rfl ?_
            refine r_p (p_len_sl Try.underlying38 rfl (hs_sl (k := 1) rfl)) rfl ?_
            refine r_p (p_move rfl) rfl ?_
            refine r_nil ?_
            refine r_block ?_
            refine r_nilown 19 (α := ByteArray) (S := 9) (s := 1) (enc := eS) ?_
            refine r_loop (X := Nat × SV × List ByteArray × Int × Int × Bool) (fun x => x.1 ≤ fs.length ∧ (x.2.2.2.2.2 = true → chkFs fs (fs.take x.1) ≠ 0)) (fun x => [(1, .pointer (some ⟨b1, 0, none⟩)), (2, .int .i64 0), (3, .pointer (some ⟨b18, 0, none⟩)), (47, sv vp), (48, .int .i64 (fs.length : Int)), (49, .int .i64 (x.1 : Int))]) (fun x => [(18, row b18 109 (cR vp x.2.1 x.2.2.2.1 x.2.2.2.2.1 x.2.2.2.2.2 (chkFs fs (fs.take x.1)))), (19, own 9 1 eS (sv x.2.1) x.2.2.1)]) (fun x => [(0, tfsA vp fs), (1, sl 3 eTf (sv vp) fs)]) (fun x => fs.length - x.1) (0, nilS, [], 0, 0, false) ⟨Nat.zero_le _, fun h => by cases h⟩ rfl rfl rfl (fun x hx0 => ?_)
            obtain ⟨i, v, ns, nd, va, dp⟩ := x
            obtain ⟨n1, n2⟩ := hx0
            dsimp only at n1 n2 ⊢
            refine r_seq ?_
            refine r_region ?_
            refine r_p (p_bin rfl rfl b_lt) rfl ?_
            refine r_nil ?_
            refine r_seq ?_
            refine r_cond rfl (fun h7 => ?_) (fun h7 => ?_)
            · (try simp only [decide_eq_true_eq, decide_eq_false_iff_not, Bool.and_eq_true, Bool.or_eq_true, Bool.and_eq_false_iff, Bool.or_eq_false_iff, Bool.not_eq_true, Bool.not_eq_false, Bool.not_eq_true', Bool.not_eq_false', Bool.not_not, bne_iff_ne, beq_iff_eq] at h7)
              have hi : i < fs.length := by omega
              obtain ⟨f, hst⟩ : ∃ k, fs[i]? = some k := ⟨_, List.getElem?_eq_getElem hi⟩
              refine r_skip ?_
              refine r_seq ?_
              refine r_block ?_
              refine r_seq ?_
              refine r_region ?_
              refine r_p (p_idx_sl (j := i) Try.underlying38 t64 rfl rfl (hs_sl (k := 1) rfl) (by first | rfl | omega) (by first | omega | (simp; done) | (simp; omega))) rfl ?_
              refine r_p (p_loadA t64 rfl rfl rfl (g_el' (hs_sl (k := 1) rfl) (by intro _; rfl) hst (by rfl))) rfl ?_
              refine r_alloc t64 rfl rfl fun b8 => ?_
              refine r_store_all (k := 8) t64 rfl rfl rfl rfl rfl rfl ?_
              refine r_nil ?_
              refine r_region ?_
              refine r_p (p_move rfl) rfl ?_
              refine r_p (p_loadA t64 rfl rfl rfl (g_all (k := 8) rfl)) rfl ?_
              refine r_more 0 11 rfl (tfs_f (List.mem_of_getElem? hst)) ?_
              refine r_call (xs := [.tmp 53, .tmp 54]) (cfunc_spec b18 vp v nd va dp (chkFs fs (fs.take i)) ns fs hfl f (hg.2 f (List.mem_of_getElem? hst)) n2) cb68 [18, 19] [(false, 11), (false, 0)] [18, 19] [] rfl rfl rfl rfl rfl rfl rfl rfl (fun _ _ => rfl) (fun _ _ _ => rfl) rfl (fun v2 _ => ?_)
              refine r_nil ?_
              refine r_region ?_
              refine r_p (p_bin rfl rfl (b_add (by first | exact w_i64 (by omega) (by omega) | rfl))) rfl ?_
              refine r_p (p_move rfl) rfl ?_
              refine r_nil ?_
              refine r_here (i + 1, v2, (bYs fs f.ps f.body).1, 0 + (nYs f.body : Int), (f.ps.length : Int) + (vYs f.body : Int), dp || dpYs 1 f.body) ⟨⟨by dsimp only; omega, fun h => by dsimp only; rw [chkFs_take hst]; exact deep_err n2 h⟩, by dsimp only; omega⟩ rfl (by dsimp only; rw [chkFs_take hst]; rfl) rfl
            · (try simp only [decide_eq_true_eq, decide_eq_false_iff_not, Bool.and_eq_true, Bool.or_eq_true, Bool.and_eq_false_iff, Bool.or_eq_false_iff, Bool.not_eq_true, Bool.not_eq_false, Bool.not_eq_true', Bool.not_eq_false', Bool.not_not, bne_iff_ne, beq_iff_eq] at h7)
              have hi : i = fs.length := by omega
              subst hi
              rw [List.take_length]
              refine r_exit ?_
              refine r_seq ?_
              refine r_region ?_
              refine r_p (p_move rfl) rfl ?_
              refine r_p (p_nilCheck rfl) rfl ?_
              refine r_p (p_field0 fo109_5 rfl) rfl ?_
              refine r_p (p_load1 t43 rfl rfl (g_row1 (k := 18) rfl rfl)) rfl ?_
              refine r_p (p_assign rfl) rfl ?_
              refine r_nil ?_
              refine r_cret ?_
              refine r_ret () trivial rfl (rs1 (rv_tmp rfl)) (by rw [chk_0 hr (by omega) ho hm (by omega)]) [] [] rfl rfl rfl

end Go.Proofs.Ytdcbbkpdlcojfaa
