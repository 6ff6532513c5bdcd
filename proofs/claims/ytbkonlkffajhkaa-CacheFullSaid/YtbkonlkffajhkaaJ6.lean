/-
  CacheFull walks. No condition.
-/
import Derived.Test.YtbkonlkffajhkaaI5
namespace Go.Proofs.Ytbkonlkffajhkaa
set_option linter.unusedSimpArgs false
set_option linter.unusedVariables false
open Go.RowKit

theorem addF_fit {base size cur : Int} {L : List En} {K : List Lk} {e : En} (h0 : 0 < e.bytes.size) (h1 : (e.bytes.size : Int) ≤ size) : (addF base size cur L K e).err = 0 ∧ (addF base size cur L K e).b = base + curN size cur e.bytes.size ∧ putE base (curN size cur e.bytes.size) e ∈ (addF base size cur L K e).L := by
  unfold addF
  rw [if_neg (by omega), if_neg (by omega)]
  exact ⟨rfl, rfl, (insD_perm _ _ _).mem_iff.2 (List.mem_cons_self ..)⟩
theorem addF_empty {base size cur : Int} {L : List En} {K : List Lk} {e : En} (h0 : e.bytes.size = 0) : addF base size cur L K e = ⟨cur, L, K, 0, [], [], 1⟩ := by
  unfold addF; rw [if_pos h0]
theorem addF_full {base size cur : Int} {L : List En} {K : List Lk} {e : En} (h0 : 0 < e.bytes.size) (h1 : size < (e.bytes.size : Int)) : addF base size cur L K e = ⟨cur, L, K, 0, [], [], 30⟩ := by
  unfold addF; rw [if_neg (by omega), if_pos h1]
theorem b_empty (s : ByteArray) : (s == ByteArray.mk #[]) = decide (s.size = 0) := by
  obtain ⟨⟨x⟩⟩ := s
  show ((⟨x⟩ : Array UInt8) == ⟨[]⟩) = decide (x.length = 0)
  cases x with
  | nil => rfl
  | cons a r => simp

set_option maxHeartbeats 1000000 in
set_option maxRecDepth 100000 in
theorem full_law (sz : Int) (vs : SV) (l : List Q4) (q : Nat → Int) :
    Spec Try.prog 6 [.int .i64 sz, sv vs, vq q] [] [sl 4 eQ (sv vs) l] (X := Unit) (fun _ => True) (fun _ => .bool true) (fun _ => []) (fun _ => []) := by
  refine r_enter Try.func6 rfl Try.ntmps6 rfl fun w0 M H => ?_
  refine r_seq ?_
  refine r_region ?_
  refine r_box_arr rfl rfl fun b5 => ?_
  refine r_p (p_assign rfl) rfl ?_
  refine r_nil ?_
  refine r_seq ?_
  refine r_region ?_
  refine r_call (xs := []) sanity_spec cb15 [] [] [] [] rfl rfl rfl rfl rfl rfl rfl rfl (fun _ _ => rfl) (fun _ _ _ => rfl) rfl (fun _ _ => ?_)
  refine r_p (p_assign rfl) rfl ?_
  refine r_nil ?_
  refine r_seq ?_
  refine r_region ?_
  refine r_p (p_move rfl) rfl ?_
  refine r_p (p_move rfl) rfl ?_
  refine r_call (xs := [.tmp 22, .tmp 23]) (played_spec sz vs l) cb16 [] [(false, 0)] [500, 501, 502, 503, 504, 505] [1] rfl rfl rfl rfl rfl rfl rfl rfl (fun _ _ => rfl) (fun _ _ _ => rfl) rfl (fun ⟨C, r, ⟨cur, L, K, ob, ol, vL, vC, S⟩⟩ hpl => ?_)
  obtain ⟨hi, hS⟩ := hpl
  dsimp only at hi hS ⊢
  have hlen := hi.hlen ps12_len
  have hlenK := hi.hlenK ps12_len
  have h60 := m60 sz
  have hsz := hi.sz
  have hcu := hi.cu
  have hse := size60 sz
  refine r_p (p_move rfl) rfl ?_
  refine r_p (p_extract rfl rfl) rfl ?_
  refine r_p (p_extract rfl rfl) rfl ?_
  refine r_p (p_assign rfl) rfl ?_
  refine r_p (p_assign rfl) rfl ?_
  refine r_nil ?_
  refine r_seq ?_
  refine r_seq ?_
  refine r_region ?_
  refine r_p (p_move rfl) rfl ?_
  refine r_p (p_bin rfl rfl (b_eqPn Try.underlying25)) rfl ?_
  refine r_nil ?_
  refine r_cond rfl (fun h1 => ?_) (fun h1 => ?_)
  · exact absurd h1 (by simp)
  · (try simp only [decide_eq_true_eq, decide_eq_false_iff_not, Bool.and_eq_true, Bool.or_eq_true, Bool.and_eq_false_iff, Bool.or_eq_false_iff, Bool.not_eq_true, Bool.not_eq_false, Bool.not_eq_true', Bool.not_eq_false', Bool.not_not, bne_iff_ne, beq_iff_eq] at h1)
    refine r_skip ?_
    refine r_seq ?_
    refine r_region ?_
    refine r_p (p_loadA t38 rfl rfl (by simp) (g_arr (k := 5) rfl)) rfl ?_
    refine r_call (xs := [.tmp 29, .const (.int .i64 70)]) (made_spec q 70 (by omega)) cb18 [] [] [300] [] rfl rfl rfl rfl rfl rfl rfl rfl (fun _ _ => rfl) (fun _ _ _ => rfl) rfl (fun e he => ?_)
    obtain ⟨hepc, heb, hen, hest, hepg⟩ := he
    have h4e := m4 (q 2)
    have hnb : 0 ≤ q 1 % (70 + 1) ∧ q 1 % (70 + 1) ≤ 70 := by omega
    refine r_alloc t36 rfl rfl fun b10 => ?_
    refine r_store_all (k := 10) t36 rfl rfl rfl rfl rfl rfl ?_
    refine r_nil ?_
    refine r_seq ?_
    refine r_region ?_
    refine r_p (p_move rfl) rfl ?_
    refine r_p (p_loadA t36 rfl rfl rfl (g_all (k := 10) rfl)) rfl ?_
    refine r_call (xs := [.tmp 33]) (entry_spec e (by omega)) cb20 [] [] [] [] rfl rfl rfl rfl rfl rfl rfl rfl (fun _ _ => rfl) (fun _ _ _ => rfl) rfl (fun ⟨ea, es⟩ hes => ?_)
    dsimp only at hes ⊢
    refine r_call (xs := [.tmp 32, .tmp 34]) (add_spec C 4096 (sizeN 4096 (sz % 60)) cur ob ol hi ps12_len (entE e ea es) (by simp only [entE]; omega)) cb19 [500, 501, 502] [] [500, 501, 502, 400, 401] [] rfl rfl rfl rfl rfl rfl rfl rfl (fun _ _ => rfl) (fun _ _ _ => rfl) rfl (fun ⟨va, vb, o⟩ _ => ?_)
    dsimp only
    have hnew := hi.add (e := (entE e ea es)) (by simp only [entE, hepc]; exact ps12_mem _) (by simp only [entE]; omega) (by simp only [entE]; exact hes) rfl (by simp only [entE]; exact hepg) (by simp only [entE]; omega)
    refine r_p (p_move rfl) rfl ?_
    refine r_p (p_extract rfl rfl) rfl ?_
    refine r_p (p_extract rfl rfl) rfl ?_
    refine r_p (p_extract rfl rfl) rfl ?_
    refine r_p (p_extract rfl rfl) rfl ?_
    refine r_p (p_assign rfl) rfl ?_
    refine r_p (p_assign rfl) rfl ?_
    refine r_p (p_assign rfl) rfl ?_
    refine r_p (p_assign rfl) rfl ?_
    refine r_nil ?_
    refine r_seq ?_
    refine r_seq ?_
    refine r_draw [40, 41, 42, 43, 44, 45, 46, 47, 48, 49, 50, 51, 52, 53] _ rfl (stg_end (V := [(0, 40, _), (1, 41, _), (2, 42, _), (3, 43, _), (4, 44, _), (5, 45, _), (6, 46, _), (7, 47, _), (8, 48, _), (9, 49, _), (10, 50, _), (11, 51, _), (12, 52, _), (13, 53, _)]) [0, 1, 2, 3, 4, 5, 6, 7, 8, 9, 10, 11, 12, 13] rfl rfl (prs_cons (pri rfl (p_field0 fo36_2 rfl)) (prs_cons (pri rfl (p_load1 t9 rfl rfl (g_row1 (k := 10) rfl rfl))) (prs_cons (pri rfl (p_len_str Try.underlying9 rfl)) (prs_cons (pri rfl (p_bin rfl rfl b_gt)) (prs_cons (pri rfl (p_move rfl)) (prs_cons (prig_s [] rfl rfl rfl trivial (fun hg2 => p_field0 fo36_2 rfl)) (prs_cons (prig_s [(45, _)] rfl rfl rfl ⟨rfl, trivial⟩ (fun hg3 => p_load1 t9 rfl rfl (g_row1 (k := 10) rfl rfl))) (prs_cons (prig_s [(46, _)] rfl rfl rfl ⟨rfl, trivial⟩ (fun hg4 => p_len_str Try.underlying9 rfl)) (prs_cons (prig_s [] rfl rfl rfl trivial (fun hg5 => p_move rfl)) (prs_cons (prig_s [(48, _)] rfl rfl rfl ⟨rfl, trivial⟩ (fun hg6 => p_nilCheck rfl)) (prs_cons (prig_s [(49, _)] rfl rfl rfl ⟨rfl, trivial⟩ (fun hg7 => p_field0 fo34_1 rfl)) (prs_cons (prig_s [(50, _)] rfl rfl rfl ⟨rfl, trivial⟩ (fun hg8 => p_load1 t3 rfl rfl (g_row1 (k := 503) rfl rfl))) (prs_cons (prig_s [(47, _), (51, _)] rfl rfl rfl ⟨rfl, rfl, trivial⟩ (fun hg9 => p_bin rfl rfl b_le)) (prs_cons (pri rfl (p_pick rfl rfl rfl (by first | exact pick_and | exact pick_or |  rfl))) prs_nil)))))))))))))) rfl rfl rfl ?_)
    refine r_cond rfl (fun h10 => ?_) (fun h10 => ?_)
    · (try simp only [decide_eq_true_eq, decide_eq_false_iff_not, Bool.and_eq_true, Bool.or_eq_true, Bool.and_eq_false_iff, Bool.or_eq_false_iff, Bool.not_eq_true, Bool.not_eq_false, Bool.not_eq_true', Bool.not_eq_false', Bool.not_not, bne_iff_ne, beq_iff_eq] at h10)
      obtain ⟨hb1, hb2⟩ := h10
      obtain ⟨he1, he2, he3⟩ := addF_fit (base := 4096) (size := (sizeN 4096 (sz % 60))) (cur := cur) (L := L) (K := K) (e := (entE e ea es)) (by simp only [entE]; omega) (by simp only [entE]; omega)
      have hfx : (addF 4096 (sizeN 4096 (sz % 60)) cur L K (entE e ea es)).L.find? (fun a => decide (a.pc = e.pc)) = some (putE 4096 (curN (sizeN 4096 (sz % 60)) cur e.bytes.size) (entE e ea es)) := hnew.findpc he3
      refine r_seq ?_
      refine r_region ?_
      refine r_p (p_move rfl) rfl ?_
      refine r_p (p_field0 fo36_0 rfl) rfl ?_
      refine r_p (p_load1 t30 rfl rfl (g_row1 (k := 10) rfl rfl)) rfl ?_
      refine r_call (xs := [.tmp 55, .tmp 57]) (find_spec C 4096 (sizeN 4096 (sz % 60)) (addF 4096 (sizeN 4096 (sz % 60)) cur L K (entE e ea es)).cur o ol (addF 4096 (sizeN 4096 (sz % 60)) cur L K (entE e ea es)).L _ _ hfx) cb21 [] [(true, 500), (true, 501)] [] [] rfl rfl rfl rfl rfl rfl rfl rfl (fun _ _ => rfl) (fun _ _ _ => rfl) rfl (fun _ _ => ?_)
      refine r_p (p_move rfl) rfl ?_
      refine r_p (p_extract rfl rfl) rfl ?_
      refine r_p (p_extract rfl rfl) rfl ?_
      refine r_alloc t54 rfl rfl fun b15 => ?_
      refine r_store_all (k := 15) t54 rfl rfl rfl rfl rfl rfl ?_
      refine r_p (p_assign rfl) rfl ?_
      refine r_nil ?_
      refine r_seq ?_
      refine r_region ?_
      refine r_p (p_move rfl) rfl ?_
      refine r_p (p_move rfl) rfl ?_
      refine r_split (t := 62) rfl (fun h11 => ?_) (fun h11 => False.elim (by simp at h11))
      refine r_gyes rfl rfl ?_
      refine r_p (p_move rfl) rfl ?_
      refine r_gyes rfl rfl ?_
      refine r_p (p_bin rfl rfl b_eq) rfl ?_
      refine r_p (p_pick rfl rfl rfl (by first | exact pick_and | exact pick_or |  rfl)) rfl ?_
      refine r_p (p_move rfl) rfl ?_
      refine r_split (t := 66) rfl (fun h12 => ?_) (fun h12 => False.elim (by simp [he1] at h12))
      refine r_gyes rfl rfl ?_
      refine r_p (p_move rfl) rfl ?_
      refine r_p (p_pick rfl rfl rfl (by first | exact pick_and | exact pick_or |  rfl)) rfl ?_
      refine r_p (p_move rfl) rfl ?_
      refine r_split (t := 69) rfl (fun h13 => ?_) (fun h13 => False.elim (by simp at h13))
      refine r_gyes rfl rfl ?_
      refine r_p (p_field0 fo54_1 rfl) rfl ?_
      refine r_gyes rfl rfl ?_
      refine r_p (p_load1 t30 rfl rfl (g_row1 (k := 15) rfl rfl)) rfl ?_
      refine r_gyes rfl rfl ?_
      refine r_p (p_move rfl) rfl ?_
      refine r_gyes rfl rfl ?_
      refine r_p (p_bin rfl rfl b_eq) rfl ?_
      refine r_p (p_pick rfl rfl rfl (by first | exact pick_and | exact pick_or |  rfl)) rfl ?_
      refine r_p (p_assign rfl) rfl ?_
      refine r_nil ?_
      refine r_cret ?_
      refine r_ret () trivial rfl (rs1 (rv_tmp rfl)) (congrArg Value.bool (by first | (simp; done) | (simp only [he1, he2, Option.getD_some, Option.isSome_some, putE, decide_true, Bool.and_true, Bool.true_and]; done) | (simp only [he1, he2, Option.getD_some, Option.isSome_some, putE, decide_true, Bool.and_true, Bool.true_and]; simp [entE]))) [] [] rfl rfl rfl
    · (try simp only [decide_eq_true_eq, decide_eq_false_iff_not, Bool.and_eq_true, Bool.or_eq_true, Bool.and_eq_false_iff, Bool.or_eq_false_iff, Bool.not_eq_true, Bool.not_eq_false, Bool.not_eq_true', Bool.not_eq_false', Bool.not_not, bne_iff_ne, beq_iff_eq] at h10)
      refine r_skip ?_
      refine r_seq ?_
      refine r_region ?_
      refine r_p (p_assign rfl) rfl ?_
      refine r_nil ?_
      refine r_seq ?_
      refine r_seq ?_
      refine r_region ?_
      refine r_p (p_field0 fo36_2 rfl) rfl ?_
      refine r_p (p_load1 t9 rfl rfl (g_row1 (k := 10) rfl rfl)) rfl ?_
      refine r_p (p_bin rfl rfl b_seq) rfl ?_
      refine r_nil ?_
      refine r_cond rfl (fun h14 => ?_) (fun h14 => ?_)
      · rw [b_empty] at h14
        have h0 := of_decide_eq_true h14
        have hE : (addF 4096 (sizeN 4096 (sz % 60)) cur L K (entE e ea es)) = ⟨cur, L, K, 0, [], [], 1⟩ := addF_empty h0
        rw [hE]
        dsimp only
        refine r_region ?_
        refine r_p (p_assign rfl) rfl ?_
        refine r_nil ?_
        refine r_seq ?_
        refine r_draw [78, 79, 80, 81, 82, 83, 84, 18] _ rfl (stg_mem (V := [(0, 78, _), (2, 80, _), (3, 81, _), (4, 82, _), (5, 83, _)]) [0, 2, 3, 4, 5] 1 [1, 0] [] (fun v79 => []) rfl rfl (prs_cons (pri rfl (p_move rfl)) (prs_cons (pri rfl (p_move rfl)) (prs_cons (pri rfl (p_nilCheck rfl)) (prs_cons (pri rfl (p_field0 fo34_3 rfl)) (prs_cons (pri rfl (p_load1 t31 rfl rfl (g_row1 (k := 503) rfl rfl))) prs_nil))))) rfl rfl rfl rfl rfl rfl rfl rfl rfl rfl rfl (fun _ _ => rfl) rfl (ms_call (xs := [.tmp 78]) (all_spec C 4096 (sizeN 4096 (sz % 60)) cur o ol L hi.hL (by omega)) cb26 [] [(true, 500), (true, 501)] [79] [] rfl rfl rfl rfl rfl rfl rfl rfl (fun _ _ => rfl) (fun _ _ _ => rfl)) (fun v79 _ => stg_mem [2, 3, 4, 5] 6 [6, 5, 4, 3, 2, 1, 0] [7] (fun _ => [(7, 18, _)]) rfl rfl (prs_cons (pri rfl (p_move rfl)) (prs_cons (pri rfl (p_nilCheck rfl)) (prs_cons (pri rfl (p_field0 fo34_3 rfl)) (prs_cons (pri rfl (p_load1 t31 rfl rfl (g_row1 (k := 503) rfl rfl))) prs_nil)))) rfl rfl rfl rfl rfl rfl rfl rfl rfl rfl rfl (fun _ _ => rfl) rfl (ms_call (xs := [.tmp 79, .tmp 83]) (samesO_spec _ vL L S (hi.same hS) (by omega)) cb25 [] [(true, 79), (true, 504), (false, 1)] [] [] rfl rfl rfl rfl rfl rfl rfl rfl (fun _ _ => rfl) (fun _ _ _ => rfl)) (fun _ _ => stg_end [7] rfl rfl (prs_cons (pri rfl (p_assign rfl)) prs_nil) rfl rfl rfl ?_)))
        refine r_seq ?_
        refine r_draw [85, 86, 87, 88, 89, 90, 91, 19] _ rfl (stg_mem (V := [(0, 85, _), (2, 87, _), (3, 88, _), (4, 89, _), (5, 90, _)]) [0, 2, 3, 4, 5] 1 [1, 0] [] (fun v86 => []) rfl rfl (prs_cons (pri rfl (p_move rfl)) (prs_cons (pri rfl (p_move rfl)) (prs_cons (pri rfl (p_nilCheck rfl)) (prs_cons (pri rfl (p_field0 fo34_4 rfl)) (prs_cons (pri rfl (p_load1 t32 rfl rfl (g_row1 (k := 503) rfl rfl))) prs_nil))))) rfl rfl rfl rfl rfl rfl rfl rfl rfl rfl rfl (fun _ _ => rfl) rfl (ms_call (xs := [.tmp 85]) (links_spec C 4096 (sizeN 4096 (sz % 60)) cur o ol K hi.ordK hlenK) cb24 [] [(true, 500), (true, 502)] [86] [] rfl rfl rfl rfl rfl rfl rfl rfl (fun _ _ => rfl) (fun _ _ _ => rfl)) (fun v86 _ => stg_mem [2, 3, 4, 5] 6 [6, 5, 4, 3, 2, 1, 0] [7] (fun _ => [(7, 19, _)]) rfl rfl (prs_cons (pri rfl (p_move rfl)) (prs_cons (pri rfl (p_nilCheck rfl)) (prs_cons (pri rfl (p_field0 fo34_4 rfl)) (prs_cons (pri rfl (p_load1 t32 rfl rfl (g_row1 (k := 503) rfl rfl))) prs_nil)))) rfl rfl rfl rfl rfl rfl rfl rfl rfl rfl rfl (fun _ _ => rfl) rfl (ms_call (xs := [.tmp 86, .tmp 90]) (chainsO_spec _ vC K (by omega)) cb27 [] [(true, 86), (true, 505)] [] [] rfl rfl rfl rfl rfl rfl rfl rfl (fun _ _ => rfl) (fun _ _ _ => rfl)) (fun _ _ => stg_end [7] rfl rfl (prs_cons (pri rfl (p_assign rfl)) prs_nil) rfl rfl rfl ?_)))
        refine r_seq ?_
        refine r_region ?_
        refine r_p (p_move rfl) rfl ?_
        refine r_p (p_move rfl) rfl ?_
        refine r_split (t := 93) rfl (fun h15 => ?_) (fun h15 => False.elim (by simp at h15))
        refine r_gyes rfl rfl ?_
        refine r_p (p_move rfl) rfl ?_
        refine r_gyes rfl rfl ?_
        refine r_p (p_move rfl) rfl ?_
        refine r_gyes rfl rfl ?_
        refine r_p (p_bin rfl rfl b_eq) rfl ?_
        refine r_p (p_pick rfl rfl rfl (by first | exact pick_and | exact pick_or |  rfl)) rfl ?_
        refine r_p (p_move rfl) rfl ?_
        refine r_split (t := 98) rfl (fun h16 => ?_) (fun h16 => False.elim (by simp at h16))
        refine r_gyes rfl rfl ?_
        refine r_p (p_move rfl) rfl ?_
        refine r_gyes rfl rfl ?_
        refine r_p (p_bin rfl rfl b_eq) rfl ?_
        refine r_p (p_pick rfl rfl rfl (by first | exact pick_and | exact pick_or |  rfl)) rfl ?_
        refine r_p (p_move rfl) rfl ?_
        refine r_split (t := 102) rfl (fun h17 => ?_) (fun h17 => False.elim (by simp at h17))
        refine r_gyes rfl rfl ?_
        refine r_p (p_move rfl) rfl ?_
        refine r_gyes rfl rfl ?_
        refine r_p (p_len_sl Try.underlying39 rfl (hs_own (k := 400) rfl)) rfl ?_
        refine r_gyes rfl rfl ?_
        refine r_p (p_bin rfl rfl b_eq) rfl ?_
        refine r_p (p_pick rfl rfl rfl (by first | exact pick_and | exact pick_or |  rfl)) rfl ?_
        refine r_p (p_move rfl) rfl ?_
        refine r_split (t := 107) rfl (fun h18 => ?_) (fun h18 => False.elim (by simp at h18))
        refine r_gyes rfl rfl ?_
        refine r_p (p_move rfl) rfl ?_
        refine r_gyes rfl rfl ?_
        refine r_p (p_len_sl Try.underlying40 rfl (hs_own (k := 401) rfl)) rfl ?_
        refine r_gyes rfl rfl ?_
        refine r_p (p_bin rfl rfl b_eq) rfl ?_
        refine r_p (p_pick rfl rfl rfl (by first | exact pick_and | exact pick_or |  rfl)) rfl ?_
        refine r_p (p_move rfl) rfl ?_
        refine r_split (t := 112) rfl (fun h19 => ?_) (fun h19 => False.elim (by simp at h19))
        refine r_gyes rfl rfl ?_
        refine r_p (p_move rfl) rfl ?_
        refine r_p (p_pick rfl rfl rfl (by first | exact pick_and | exact pick_or |  rfl)) rfl ?_
        refine r_p (p_move rfl) rfl ?_
        refine r_split (t := 115) rfl (fun h20 => ?_) (fun h20 => False.elim (by simp at h20))
        refine r_gyes rfl rfl ?_
        refine r_p (p_move rfl) rfl ?_
        refine r_p (p_pick rfl rfl rfl (by first | exact pick_and | exact pick_or |  rfl)) rfl ?_
        refine r_p (p_assign rfl) rfl ?_
        refine r_nil ?_
        refine r_cret ?_
        refine r_ret () trivial rfl (rs1 (rv_tmp rfl)) (congrArg Value.bool (by first | (simp; done) | (simp only [he1, he2, Option.getD_some, Option.isSome_some, putE, decide_true, Bool.and_true, Bool.true_and]; done) | (simp only [he1, he2, Option.getD_some, Option.isSome_some, putE, decide_true, Bool.and_true, Bool.true_and]; simp [entE]))) [] [] rfl rfl rfl
      · rw [b_empty] at h14
        have h0 := of_decide_eq_false h14
        have hE : (addF 4096 (sizeN 4096 (sz % 60)) cur L K (entE e ea es)) = ⟨cur, L, K, 0, [], [], 30⟩ := addF_full (by simp only [entE]; omega) (by simp only [entE]; omega)
        rw [hE]
        dsimp only
        refine r_skip ?_
        refine r_seq ?_
        refine r_draw [78, 79, 80, 81, 82, 83, 84, 18] _ rfl (stg_mem (V := [(0, 78, _), (2, 80, _), (3, 81, _), (4, 82, _), (5, 83, _)]) [0, 2, 3, 4, 5] 1 [1, 0] [] (fun v79 => []) rfl rfl (prs_cons (pri rfl (p_move rfl)) (prs_cons (pri rfl (p_move rfl)) (prs_cons (pri rfl (p_nilCheck rfl)) (prs_cons (pri rfl (p_field0 fo34_3 rfl)) (prs_cons (pri rfl (p_load1 t31 rfl rfl (g_row1 (k := 503) rfl rfl))) prs_nil))))) rfl rfl rfl rfl rfl rfl rfl rfl rfl rfl rfl (fun _ _ => rfl) rfl (ms_call (xs := [.tmp 78]) (all_spec C 4096 (sizeN 4096 (sz % 60)) cur o ol L hi.hL (by omega)) cb26 [] [(true, 500), (true, 501)] [79] [] rfl rfl rfl rfl rfl rfl rfl rfl (fun _ _ => rfl) (fun _ _ _ => rfl)) (fun v79 _ => stg_mem [2, 3, 4, 5] 6 [6, 5, 4, 3, 2, 1, 0] [7] (fun _ => [(7, 18, _)]) rfl rfl (prs_cons (pri rfl (p_move rfl)) (prs_cons (pri rfl (p_nilCheck rfl)) (prs_cons (pri rfl (p_field0 fo34_3 rfl)) (prs_cons (pri rfl (p_load1 t31 rfl rfl (g_row1 (k := 503) rfl rfl))) prs_nil)))) rfl rfl rfl rfl rfl rfl rfl rfl rfl rfl rfl (fun _ _ => rfl) rfl (ms_call (xs := [.tmp 79, .tmp 83]) (samesO_spec _ vL L S (hi.same hS) (by omega)) cb25 [] [(true, 79), (true, 504), (false, 1)] [] [] rfl rfl rfl rfl rfl rfl rfl rfl (fun _ _ => rfl) (fun _ _ _ => rfl)) (fun _ _ => stg_end [7] rfl rfl (prs_cons (pri rfl (p_assign rfl)) prs_nil) rfl rfl rfl ?_)))
        refine r_seq ?_
        refine r_draw [85, 86, 87, 88, 89, 90, 91, 19] _ rfl (stg_mem (V := [(0, 85, _), (2, 87, _), (3, 88, _), (4, 89, _), (5, 90, _)]) [0, 2, 3, 4, 5] 1 [1, 0] [] (fun v86 => []) rfl rfl (prs_cons (pri rfl (p_move rfl)) (prs_cons (pri rfl (p_move rfl)) (prs_cons (pri rfl (p_nilCheck rfl)) (prs_cons (pri rfl (p_field0 fo34_4 rfl)) (prs_cons (pri rfl (p_load1 t32 rfl rfl (g_row1 (k := 503) rfl rfl))) prs_nil))))) rfl rfl rfl rfl rfl rfl rfl rfl rfl rfl rfl (fun _ _ => rfl) rfl (ms_call (xs := [.tmp 85]) (links_spec C 4096 (sizeN 4096 (sz % 60)) cur o ol K hi.ordK hlenK) cb24 [] [(true, 500), (true, 502)] [86] [] rfl rfl rfl rfl rfl rfl rfl rfl (fun _ _ => rfl) (fun _ _ _ => rfl)) (fun v86 _ => stg_mem [2, 3, 4, 5] 6 [6, 5, 4, 3, 2, 1, 0] [7] (fun _ => [(7, 19, _)]) rfl rfl (prs_cons (pri rfl (p_move rfl)) (prs_cons (pri rfl (p_nilCheck rfl)) (prs_cons (pri rfl (p_field0 fo34_4 rfl)) (prs_cons (pri rfl (p_load1 t32 rfl rfl (g_row1 (k := 503) rfl rfl))) prs_nil)))) rfl rfl rfl rfl rfl rfl rfl rfl rfl rfl rfl (fun _ _ => rfl) rfl (ms_call (xs := [.tmp 86, .tmp 90]) (chainsO_spec _ vC K (by omega)) cb27 [] [(true, 86), (true, 505)] [] [] rfl rfl rfl rfl rfl rfl rfl rfl (fun _ _ => rfl) (fun _ _ _ => rfl)) (fun _ _ => stg_end [7] rfl rfl (prs_cons (pri rfl (p_assign rfl)) prs_nil) rfl rfl rfl ?_)))
        refine r_seq ?_
        refine r_region ?_
        refine r_p (p_move rfl) rfl ?_
        refine r_p (p_move rfl) rfl ?_
        refine r_split (t := 93) rfl (fun h21 => ?_) (fun h21 => False.elim (by simp at h21))
        refine r_gyes rfl rfl ?_
        refine r_p (p_move rfl) rfl ?_
        refine r_gyes rfl rfl ?_
        refine r_p (p_move rfl) rfl ?_
        refine r_gyes rfl rfl ?_
        refine r_p (p_bin rfl rfl b_eq) rfl ?_
        refine r_p (p_pick rfl rfl rfl (by first | exact pick_and | exact pick_or |  rfl)) rfl ?_
        refine r_p (p_move rfl) rfl ?_
        refine r_split (t := 98) rfl (fun h22 => ?_) (fun h22 => False.elim (by simp at h22))
        refine r_gyes rfl rfl ?_
        refine r_p (p_move rfl) rfl ?_
        refine r_gyes rfl rfl ?_
        refine r_p (p_bin rfl rfl b_eq) rfl ?_
        refine r_p (p_pick rfl rfl rfl (by first | exact pick_and | exact pick_or |  rfl)) rfl ?_
        refine r_p (p_move rfl) rfl ?_
        refine r_split (t := 102) rfl (fun h23 => ?_) (fun h23 => False.elim (by simp at h23))
        refine r_gyes rfl rfl ?_
        refine r_p (p_move rfl) rfl ?_
        refine r_gyes rfl rfl ?_
        refine r_p (p_len_sl Try.underlying39 rfl (hs_own (k := 400) rfl)) rfl ?_
        refine r_gyes rfl rfl ?_
        refine r_p (p_bin rfl rfl b_eq) rfl ?_
        refine r_p (p_pick rfl rfl rfl (by first | exact pick_and | exact pick_or |  rfl)) rfl ?_
        refine r_p (p_move rfl) rfl ?_
        refine r_split (t := 107) rfl (fun h24 => ?_) (fun h24 => False.elim (by simp at h24))
        refine r_gyes rfl rfl ?_
        refine r_p (p_move rfl) rfl ?_
        refine r_gyes rfl rfl ?_
        refine r_p (p_len_sl Try.underlying40 rfl (hs_own (k := 401) rfl)) rfl ?_
        refine r_gyes rfl rfl ?_
        refine r_p (p_bin rfl rfl b_eq) rfl ?_
        refine r_p (p_pick rfl rfl rfl (by first | exact pick_and | exact pick_or |  rfl)) rfl ?_
        refine r_p (p_move rfl) rfl ?_
        refine r_split (t := 112) rfl (fun h25 => ?_) (fun h25 => False.elim (by simp at h25))
        refine r_gyes rfl rfl ?_
        refine r_p (p_move rfl) rfl ?_
        refine r_p (p_pick rfl rfl rfl (by first | exact pick_and | exact pick_or |  rfl)) rfl ?_
        refine r_p (p_move rfl) rfl ?_
        refine r_split (t := 115) rfl (fun h26 => ?_) (fun h26 => False.elim (by simp at h26))
        refine r_gyes rfl rfl ?_
        refine r_p (p_move rfl) rfl ?_
        refine r_p (p_pick rfl rfl rfl (by first | exact pick_and | exact pick_or |  rfl)) rfl ?_
        refine r_p (p_assign rfl) rfl ?_
        refine r_nil ?_
        refine r_cret ?_
        refine r_ret () trivial rfl (rs1 (rv_tmp rfl)) (congrArg Value.bool (by first | (simp; done) | (simp only [he1, he2, Option.getD_some, Option.isSome_some, putE, decide_true, Bool.and_true, Bool.true_and]; done) | (simp only [he1, he2, Option.getD_some, Option.isSome_some, putE, decide_true, Bool.and_true, Bool.true_and]; simp [entE]))) [] [] rfl rfl rfl

end Go.Proofs.Ytbkonlkffajhkaa
