/-
  CacheAgain walks. No condition.
-/
import Derived.Test.YtbkonlkffajhkaaI5
namespace Go.Proofs.Ytbkonlkffajhkaa
set_option linter.unusedSimpArgs false
set_option linter.unusedVariables false
open Go.RowKit

theorem addF_fit {base size cur : Int} {L : List En} {K : List Lk} {e : En} (h0 : 0 < e.bytes.size) (h1 : (e.bytes.size : Int) ≤ size) : (addF base size cur L K e).err = 0 ∧ (addF base size cur L K e).b = base + curN size cur e.bytes.size ∧ putE base (curN size cur e.bytes.size) e ∈ (addF base size cur L K e).L := by
  unfold addF
  rw [if_neg (by omega), if_neg (by omega)]
  exact ⟨rfl, rfl, (insD_perm _ _ _).mem_iff.2 (List.mem_cons_self ..)⟩
theorem addF_empty {base size cur : Int} {L : List En} {K : List Lk} {e : En} (h0 : e.bytes.size = 0) : addF base size cur L K e = ⟨cur, L, K, 0, [], [], 1⟩ := by
  unfold addF; rw [if_pos h0]
theorem addF_full {base size cur : Int} {L : List En} {K : List Lk} {e : En} (h0 : 0 < e.bytes.size) (h1 : size < (e.bytes.size : Int)) : addF base size cur L K e = ⟨cur, L, K, 0, [], [], 30⟩ := by
  unfold addF; rw [if_neg (by omega), if_pos h1]
theorem b_empty (s : ByteArray) : (s == ByteArray.mk #[]) = decide (s.size = 0) := by
  obtain ⟨⟨x⟩⟩ := s
  show ((⟨x⟩ : Array UInt8) == ⟨[]⟩) = decide (x.length = 0)
  cases x with
  | nil => rfl
  | cons a r => simp

theorem getD_memL {K : List Lk} {j : Nat} (hj : j < K.length) : K.getD j dL ∈ K := by
  rw [List.getD_eq_getElem?_getD, List.getElem?_eq_getElem hj]
  exact List.getElem_mem hj
def q3 (q : Nat → Int) (i : Nat) : Int := if i = 3 then 3 else q i
theorem q3_0 (q : Nat → Int) : q3 q 0 = q 0 := rfl
theorem q3_1 (q : Nat → Int) : q3 q 1 = q 1 := rfl
theorem q3_2 (q : Nat → Int) : q3 q 2 = q 2 := rfl
def cnt (p : Int) (l : List En) : Int := ((l.filter fun a => decide (a.pc = p)).length : Int)
theorem cnt_take {p : Int} {l : List En} {k : Nat} (hk : k < l.length) : cnt p (l.take (k + 1)) = cnt p (l.take k) + (if (l.getD k dE).pc = p then 1 else 0) := by
  unfold cnt
  rw [List.take_succ_eq_append_getElem hk, List.filter_append, List.length_append, List.getD_eq_getElem?_getD, List.getElem?_eq_getElem hk]
  simp only [Option.getD_some]
  by_cases h : l[k].pc = p
  · simp [h]
  · simp [h]
theorem cnt_bd (p : Int) (l : List En) (k : Nat) : 0 ≤ cnt p (l.take k) ∧ cnt p (l.take k) ≤ k := by
  have := List.length_filter_le (fun a : En => decide (a.pc = p)) (l.take k)
  have := List.length_take_le k l
  unfold cnt
  omega
theorem cnt_one {PS : List Int} {base size cur : Int} {L : List En} {K : List Lk} (h : CInv PS base size cur L K) (c1 n : Int) (e : En) {r : Option En} (hr : L.find? (fun a => decide (a.pc = e.pc)) = r) : (decide (cnt e.pc (remL L base c1 n e) = 1) == r.isSome) = true := by
  have h1 : (remL L base c1 n e).filter (fun a => decide (a.pc = e.pc)) = L.filter (fun a => decide (a.pc = e.pc)) := by
    unfold remL
    rw [List.filter_filter]
    refine List.filter_congr fun x _ => ?_
    by_cases hx : x.pc = e.pc
    · simp [inWay, hx]
    · simp [hx]
  unfold cnt
  rw [h1]
  cases r with
  | none =>
    have : L.filter (fun a => decide (a.pc = e.pc)) = [] := List.filter_eq_nil_iff.2 (List.find?_eq_none.1 hr)
    rw [this]
    rfl
  | some x =>
    have hx := List.mem_of_find?_eq_some hr
    have hp := List.find?_some hr
    have hm : x ∈ L.filter (fun a => decide (a.pc = e.pc)) := List.mem_filter.2 ⟨hx, hp⟩
    have hn : ((L.filter (fun a => decide (a.pc = e.pc))).map En.pc).Nodup := (List.filter_sublist.map _).nodup h.pcs
    have hle : (L.filter (fun a => decide (a.pc = e.pc))).length ≤ 1 := by
      have hs : ((L.filter (fun a => decide (a.pc = e.pc))).map En.pc) ⊆ [e.pc] := fun p hp => by
        obtain ⟨y, hy, rfl⟩ := List.mem_map.1 hp
        simpa using (List.mem_filter.1 hy).2
      have := List.Nodup.length_le_of_subset hn hs
      simpa using this
    have hge := List.length_pos_of_mem hm
    have : (L.filter (fun a => decide (a.pc = e.pc))).length = 1 := by omega
    rw [this]
    rfl
theorem add_cut {PS : List Int} {base size cur : Int} {L : List En} {K : List Lk} (h : CInv PS base size cur L K) {c1 n : Int} {e : En} {l : Lk} (hl : l ∈ K.filter (keepK ((remL L base c1 n e).map En.pc))) : l.f ≠ e.pc ∧ l.t ≠ e.pc := by
  obtain ⟨h1, h2⟩ := List.mem_filter.1 hl
  simp only [keepK, Bool.not_eq_true', Bool.or_eq_false_iff, decide_eq_false_iff_not] at h2
  obtain ⟨x, hx, e1, _⟩ := h.lkf l h1
  obtain ⟨y, hy, e2⟩ := h.lkt l h1
  refine ⟨fun hc => h2.1 (List.mem_map.2 ⟨x, List.mem_filter.2 ⟨hx, ?_⟩, e1⟩), fun hc => h2.2 (List.mem_map.2 ⟨y, List.mem_filter.2 ⟨hy, ?_⟩, e2⟩)⟩
  · simp [inWay, e1, hc]
  · simp [inWay, e2, hc]

set_option maxHeartbeats 1000000 in
set_option maxRecDepth 100000 in
theorem again_law (sz : Int) (vs : SV) (l : List Q4) (q : Nat → Int) :
    Spec Try.prog 7 [.int .i64 sz, sv vs, vq q] [] [sl 4 eQ (sv vs) l] (X := Unit) (fun _ => True) (fun _ => .bool true) (fun _ => []) (fun _ => []) := by
  refine r_enter Try.func7 rfl Try.ntmps7 rfl fun w0 M H => ?_
  refine r_seq ?_
  refine r_region ?_
  refine r_box_arr rfl rfl fun b5 => ?_
  refine r_p (p_assign rfl) rfl ?_
  refine r_nil ?_
  refine r_seq ?_
  refine r_region ?_
  refine r_call (xs := []) sanity_spec cb15 [] [] [] [] rfl rfl rfl rfl rfl rfl rfl rfl (fun _ _ => rfl) (fun _ _ _ => rfl) rfl (fun _ _ => ?_)
  refine r_p (p_assign rfl) rfl ?_
  refine r_nil ?_
  refine r_seq ?_
  refine r_region ?_
  refine r_p (p_move rfl) rfl ?_
  refine r_p (p_move rfl) rfl ?_
  refine r_call (xs := [.tmp 25, .tmp 26]) (played_spec sz vs l) cb16 [] [(false, 0)] [500, 501, 502, 503, 504, 505] [1] rfl rfl rfl rfl rfl rfl rfl rfl (fun _ _ => rfl) (fun _ _ _ => rfl) rfl (fun ⟨C, r, ⟨cur, L, K, ob, ol, vL, vC, S⟩⟩ hpl => ?_)
  obtain ⟨hi, hS⟩ := hpl
  dsimp only at hi hS ⊢
  have hlen := hi.hlen ps12_len
  have hlenK := hi.hlenK ps12_len
  have h60 := m60 sz
  have hsz := hi.sz
  have hcu := hi.cu
  have hse := size60 sz
  refine r_p (p_move rfl) rfl ?_
  refine r_p (p_extract rfl rfl) rfl ?_
  refine r_p (p_extract rfl rfl) rfl ?_
  refine r_p (p_assign rfl) rfl ?_
  refine r_p (p_assign rfl) rfl ?_
  refine r_nil ?_
  refine r_seq ?_
  refine r_seq ?_
  refine r_region ?_
  refine r_p (p_move rfl) rfl ?_
  refine r_p (p_bin rfl rfl (b_eqPn Try.underlying25)) rfl ?_
  refine r_nil ?_
  refine r_cond rfl (fun h1 => ?_) (fun h1 => ?_)
  · exact absurd h1 (by simp)
  · (try simp only [decide_eq_true_eq, decide_eq_false_iff_not, Bool.and_eq_true, Bool.or_eq_true, Bool.and_eq_false_iff, Bool.or_eq_false_iff, Bool.not_eq_true, Bool.not_eq_false, Bool.not_eq_true', Bool.not_eq_false', Bool.not_not, bne_iff_ne, beq_iff_eq] at h1)
    refine r_skip ?_
    refine r_seq ?_
    refine r_region ?_
    refine r_p (p_idx_arr1 (j := 3) Try.underlying38 t3 rfl rfl (by first | rfl | omega) (by first | omega | (simp; done) | (simp; omega))) rfl ?_
    refine r_store_arr (k := 5) t3 rfl rfl rfl rfl rfl (by omega) ?_
    refine r_nil ?_
    refine r_seq ?_
    refine r_region ?_
    refine r_p (p_move rfl) rfl ?_
    refine r_p (p_idx_arr1 (j := 0) Try.underlying38 t3 rfl rfl (by first | rfl | omega) (by first | omega | (simp; done) | (simp; omega))) rfl ?_
    refine r_p (p_load1 t3 rfl rfl (g_arr1 (k := 5) rfl (by omega))) rfl ?_
    refine r_call (xs := [.tmp 36, .const (.int .i64 12)]) (mod_spec (q 0) 12 (by omega) (by omega)) cb17 [] [] [] [] rfl rfl rfl rfl rfl rfl rfl rfl (fun _ _ => rfl) (fun _ _ _ => rfl) rfl (fun _ _ => ?_)
    have h12 := m12 (q 0)
    obtain ⟨r0, hr0⟩ : ∃ r, L.find? (fun a => decide (a.pc = 4 * (q 0 % 12))) = r := ⟨_, rfl⟩
    refine r_p (p_bin rfl rfl (b_mul (by first | exact w_i64 (by omega) (by omega) | rfl))) rfl ?_
    refine r_p (p_conv Try.underlying3 Try.underlying30 rfl (by first | exact w_u32 (by omega) (by omega) | rfl)) rfl ?_
    refine r_call (xs := [.tmp 34, .tmp 39]) (find_spec C 4096 (sizeN 4096 (sz % 60)) cur ob ol L _ _ hr0) cb21 [] [(true, 500), (true, 501)] [] [] rfl rfl rfl rfl rfl rfl rfl rfl (fun _ _ => rfl) (fun _ _ _ => rfl) rfl (fun _ _ => ?_)
    refine r_p (p_move rfl) rfl ?_
    refine r_p (p_extract rfl rfl) rfl ?_
    refine r_p (p_extract rfl rfl) rfl ?_
    refine r_alloc t54 rfl rfl fun b10 => ?_
    refine r_store_all (k := 10) t54 rfl rfl rfl rfl rfl rfl ?_
    refine r_p (p_assign rfl) rfl ?_
    refine r_nil ?_
    refine r_seq ?_
    refine r_region ?_
    refine r_p (p_loadA t38 rfl rfl (by simp) (g_arr (k := 5) rfl)) rfl ?_
    refine r_call (xs := [.tmp 43, .const (.int .i64 12)]) (made_spec (q3 q) 12 (by omega)) cb18 [] [] [300] [] rfl rfl rfl rfl rfl rfl rfl rfl (fun _ _ => rfl) (fun _ _ _ => rfl) rfl (fun e he => ?_)
    rw [q3_0, q3_1, q3_2] at he
    obtain ⟨hepc, heb, hen, hest, hepg⟩ := he
    have h4e := m4 (q 2)
    have hnb : 0 ≤ q 1 % (12 + 1) ∧ q 1 % (12 + 1) ≤ 12 := by omega
    refine r_alloc t36 rfl rfl fun b12 => ?_
    refine r_store_all (k := 12) t36 rfl rfl rfl rfl rfl rfl ?_
    refine r_nil ?_
    refine r_seq ?_
    refine r_seq ?_
    refine r_draw [45, 46, 47, 48, 49, 50, 51, 52, 53, 54, 55, 56, 57] _ rfl (stg_end (V := [(0, 45, _), (1, 46, _), (2, 47, _), (3, 48, _), (4, 49, _), (5, 50, _), (6, 51, _), (7, 52, _), (8, 53, _), (9, 54, _), (10, 55, _), (11, 56, _), (12, 57, _)]) [0, 1, 2, 3, 4, 5, 6, 7, 8, 9, 10, 11, 12] rfl rfl (prs_cons (pri rfl (p_field0 fo36_2 rfl)) (prs_cons (pri rfl (p_load1 t9 rfl rfl (g_row1 (k := 12) rfl rfl))) (prs_cons (pri rfl (p_bin rfl rfl b_seq)) (prs_cons (pri rfl (p_move rfl)) (prs_cons (prig_s [] rfl rfl rfl trivial (fun hg2 => p_field0 fo36_2 rfl)) (prs_cons (prig_s [(49, _)] rfl rfl rfl ⟨rfl, trivial⟩ (fun hg3 => p_load1 t9 rfl rfl (g_row1 (k := 12) rfl rfl))) (prs_cons (prig_s [(50, _)] rfl rfl rfl ⟨rfl, trivial⟩ (fun hg4 => p_len_str Try.underlying9 rfl)) (prs_cons (prig_s [] rfl rfl rfl trivial (fun hg5 => p_move rfl)) (prs_cons (prig_s [(52, _)] rfl rfl rfl ⟨rfl, trivial⟩ (fun hg6 => p_nilCheck rfl)) (prs_cons (prig_s [(53, _)] rfl rfl rfl ⟨rfl, trivial⟩ (fun hg7 => p_field0 fo34_1 rfl)) (prs_cons (prig_s [(54, _)] rfl rfl rfl ⟨rfl, trivial⟩ (fun hg8 => p_load1 t3 rfl rfl (g_row1 (k := 503) rfl rfl))) (prs_cons (prig_s [(51, _), (55, _)] rfl rfl rfl ⟨rfl, rfl, trivial⟩ (fun hg9 => p_bin rfl rfl b_gt)) (prs_cons (pri rfl (p_pick rfl rfl rfl (by first | exact pick_and | exact pick_or |  rfl))) prs_nil))))))))))))) rfl rfl rfl ?_)
    refine r_cond rfl (fun h10 => ?_) (fun h10 => ?_)
    · refine r_seq ?_
      refine r_region ?_
      refine r_p (p_move rfl) rfl ?_
      refine r_p (p_assign rfl) rfl ?_
      refine r_nil ?_
      refine r_cret ?_
      refine r_ret () trivial rfl (rs1 (rv_tmp rfl)) (congrArg Value.bool (by first | rfl | exact hcnt | simp [hcnt])) [] [] rfl rfl rfl
    · rw [b_empty, Bool.or_eq_false_iff] at h10
      have hb1 := of_decide_eq_false h10.1
      have hb2 := of_decide_eq_false h10.2
      refine r_skip ?_
      refine r_seq ?_
      refine r_region ?_
      refine r_p (p_move rfl) rfl ?_
      refine r_p (p_loadA t36 rfl rfl rfl (g_all (k := 12) rfl)) rfl ?_
      refine r_call (xs := [.tmp 61]) (entry_spec e (by omega)) cb20 [] [] [] [] rfl rfl rfl rfl rfl rfl rfl rfl (fun _ _ => rfl) (fun _ _ _ => rfl) rfl (fun ⟨ea, es⟩ hes => ?_)
      dsimp only at hes ⊢
      refine r_call (xs := [.tmp 60, .tmp 62]) (add_spec C 4096 (sizeN 4096 (sz % 60)) cur ob ol hi ps12_len (entE e ea es) (by simp only [entE]; omega)) cb19 [500, 501, 502] [] [500, 501, 502, 400, 401] [] rfl rfl rfl rfl rfl rfl rfl rfl (fun _ _ => rfl) (fun _ _ _ => rfl) rfl (fun ⟨va, vb, o⟩ _ => ?_)
      dsimp only
      have hnew := hi.add (e := (entE e ea es)) (by simp only [entE, hepc]; exact ps12_mem _) (by simp only [entE]; omega) (by simp only [entE]; exact hes) rfl (by simp only [entE]; exact hepg) (by simp only [entE]; omega)
      obtain ⟨he1, he2, he3⟩ := addF_fit (base := 4096) (size := (sizeN 4096 (sz % 60))) (cur := cur) (L := L) (K := K) (e := (entE e ea es)) (by simp only [entE]; omega) (by simp only [entE]; omega)
      have hfx : (addF 4096 (sizeN 4096 (sz % 60)) cur L K (entE e ea es)).L.find? (fun a => decide (a.pc = e.pc)) = some (putE 4096 (curN (sizeN 4096 (sz % 60)) cur e.bytes.size) (entE e ea es)) := hnew.findpc he3
      have hR : (addF 4096 (sizeN 4096 (sz % 60)) cur L K (entE e ea es)).rem = remL L 4096 (curN (sizeN 4096 (sz % 60)) cur e.bytes.size) e.bytes.size (entE e ea es) := by unfold addF; rw [if_neg (by simp only [entE]; omega), if_neg (by simp only [entE]; omega)]; rfl
      have hKK : (addF 4096 (sizeN 4096 (sz % 60)) cur L K (entE e ea es)).K = K.filter (keepK ((remL L 4096 (curN (sizeN 4096 (sz % 60)) cur e.bytes.size) e.bytes.size (entE e ea es)).map En.pc)) := by unfold addF; rw [if_neg (by simp only [entE]; omega), if_neg (by simp only [entE]; omega)]; rfl
      have hcnt : (decide (cnt e.pc (addF 4096 (sizeN 4096 (sz % 60)) cur L K (entE e ea es)).rem = 1) == r0.isSome) = true := by rw [hR]; exact cnt_one hi _ _ (entE e ea es) (by rw [show ((entE e ea es)).pc = 4 * (q 0 % 12) from hepc]; exact hr0)
      have hrl := rem_len 4096 (sizeN 4096 (sz % 60)) cur L K (entE e ea es)
      have hcb := cnt_bd e.pc (addF 4096 (sizeN 4096 (sz % 60)) cur L K (entE e ea es)).rem
      have hlK1 := hnew.hlenK ps12_len
      refine r_p (p_move rfl) rfl ?_
      refine r_p (p_extract rfl rfl) rfl ?_
      refine r_p (p_extract rfl rfl) rfl ?_
      refine r_p (p_extract rfl rfl) rfl ?_
      refine r_p (p_extract rfl rfl) rfl ?_
      refine r_p (p_assign rfl) rfl ?_
      refine r_p (p_assign rfl) rfl ?_
      refine r_p (p_assign rfl) rfl ?_
      refine r_p (p_assign rfl) rfl ?_
      refine r_nil ?_
      refine r_seq ?_
      refine r_region ?_
      refine r_p (p_assign rfl) rfl ?_
      refine r_nil ?_
      refine r_seq ?_
      refine r_seq ?_
      refine r_region ?_
      refine r_p (p_assign rfl) rfl ?_
      refine r_nil ?_
      refine r_block ?_
      refine r_loop (X := Nat) (fun k => k ≤ (addF 4096 (sizeN 4096 (sz % 60)) cur L K (entE e ea es)).rem.length) (fun k => [(7, .bool true), (8, .pointer (some ⟨C, 0, none⟩)), (9, .pointer (some ⟨r, 0, none⟩)), (11, .bool r0.isSome), (12, .pointer (some ⟨b12, 0, none⟩)), (14, sv va), (17, .int .i64 (cnt e.pc (List.take k (addF 4096 (sizeN 4096 (sz % 60)) cur L K (entE e ea es)).rem))), (18, .int .i64 (k : Int))]) (fun k => [(500, row C 84 (cC 4096 (sizeN 4096 (sz % 60)) (addF 4096 (sizeN 4096 (sz % 60)) cur L K (entE e ea es)).cur o ol)), (501, mpB o (addF 4096 (sizeN 4096 (sz % 60)) cur L K (entE e ea es)).L), (502, mpL ol (addF 4096 (sizeN 4096 (sz % 60)) cur L K (entE e ea es)).K), (503, row r 34 (cR 4096 (sizeN 4096 (sz % 60)) cur vL vC)), (504, own 36 5 eR (sv vL) L), (505, own 100 3 eL (sv vC) K), (400, own 54 36 eEnt (sv va) (addF 4096 (sizeN 4096 (sz % 60)) cur L K (entE e ea es)).rem), (12, row b12 36 (eR e))]) (fun k => [(0, sl 4 eQ (sv vs) l), (1, pgP S)]) (fun k => (addF 4096 (sizeN 4096 (sz % 60)) cur L K (entE e ea es)).rem.length - k) 0 (Nat.zero_le _) rfl rfl rfl (fun k hk0 => ?_)
      refine r_seq ?_
      refine r_seq ?_
      refine r_region ?_
      refine r_p (p_move rfl) rfl ?_
      refine r_p (p_move rfl) rfl ?_
      refine r_p (p_len_sl Try.underlying39 rfl (hs_own (k := 400) rfl)) rfl ?_
      refine r_p (p_bin rfl rfl b_lt) rfl ?_
      refine r_nil ?_
      refine r_cond rfl (fun h11 => ?_) (fun h11 => ?_)
      · (try simp only [decide_eq_true_eq, decide_eq_false_iff_not, Bool.and_eq_true, Bool.or_eq_true, Bool.and_eq_false_iff, Bool.or_eq_false_iff, Bool.not_eq_true, Bool.not_eq_false, Bool.not_eq_true', Bool.not_eq_false', Bool.not_not, bne_iff_ne, beq_iff_eq] at h11)
        have hk : k < (addF 4096 (sizeN 4096 (sz % 60)) cur L K (entE e ea es)).rem.length := by omega
        have hcbk := hcb k
        refine r_skip ?_
        refine r_seq ?_
        refine r_block ?_
        refine r_seq ?_
        refine r_draw [74, 75, 76, 77, 78, 79, 80, 81] _ rfl (stg_end (V := [(0, 74, _), (1, 75, _), (2, 76, _), (3, 77, _), (4, 78, _), (5, 79, _), (6, 80, _), (7, 81, _)]) [0, 1, 2, 3, 4, 5, 6, 7] rfl rfl (prs_cons (pri rfl (p_move rfl)) (prs_cons (pri rfl (p_move rfl)) (prs_cons (pri rfl (p_idx_sl (j := k) Try.underlying39 t54 rfl rfl (hs_own (k := 400) rfl) (by first | rfl | omega) (by first | omega | (simp; done) | (simp; omega)))) (prs_cons (pri rfl (p_field fo54_0 rfl)) (prs_cons (pri rfl (p_load1 t30 rfl rfl (g_elp (hs_own (k := 400) rfl) (by intro _; rfl) (getD_get dE (by omega)) rfl))) (prs_cons (pri rfl (p_field0 fo36_0 rfl)) (prs_cons (pri rfl (p_load1 t30 rfl rfl (g_row1 (k := 12) rfl rfl))) (prs_cons (pri rfl (p_bin rfl rfl b_eq)) prs_nil)))))))) rfl rfl rfl ?_)
        refine r_cond rfl (fun h12 => ?_) (fun h12 => ?_)
        · (try simp only [decide_eq_true_eq, decide_eq_false_iff_not, Bool.and_eq_true, Bool.or_eq_true, Bool.and_eq_false_iff, Bool.or_eq_false_iff, Bool.not_eq_true, Bool.not_eq_false, Bool.not_eq_true', Bool.not_eq_false', Bool.not_not, bne_iff_ne, beq_iff_eq] at h12)
          have hpc := h12
          refine r_region ?_
          refine r_p (p_move rfl) rfl ?_
          refine r_p (p_bin rfl rfl (b_add (by first | exact w_i64 (by omega) (by omega) | rfl))) rfl ?_
          refine r_p (p_assign rfl) rfl ?_
          refine r_nil ?_
          refine r_region ?_
          refine r_p (p_move rfl) rfl ?_
          refine r_p (p_bin rfl rfl (b_add (by first | exact w_i64 (by omega) (by omega) | rfl))) rfl ?_
          refine r_p (p_assign rfl) rfl ?_
          refine r_nil ?_
          refine r_here (k + 1) ⟨by omega, by omega⟩ (by first | (rw [cnt_take hk, if_pos hpc]; rfl) | (rw [cnt_take hk, if_neg hpc, Int.add_zero]; rfl)) rfl rfl
        · (try simp only [decide_eq_true_eq, decide_eq_false_iff_not, Bool.and_eq_true, Bool.or_eq_true, Bool.and_eq_false_iff, Bool.or_eq_false_iff, Bool.not_eq_true, Bool.not_eq_false, Bool.not_eq_true', Bool.not_eq_false', Bool.not_not, bne_iff_ne, beq_iff_eq] at h12)
          have hpc := h12
          refine r_skip ?_
          refine r_region ?_
          refine r_p (p_move rfl) rfl ?_
          refine r_p (p_bin rfl rfl (b_add (by first | exact w_i64 (by omega) (by omega) | rfl))) rfl ?_
          refine r_p (p_assign rfl) rfl ?_
          refine r_nil ?_
          refine r_here (k + 1) ⟨by omega, by omega⟩ (by first | (rw [cnt_take hk, if_pos hpc]; rfl) | (rw [cnt_take hk, if_neg hpc, Int.add_zero]; rfl)) rfl rfl
      · (try simp only [decide_eq_true_eq, decide_eq_false_iff_not, Bool.and_eq_true, Bool.or_eq_true, Bool.and_eq_false_iff, Bool.or_eq_false_iff, Bool.not_eq_true, Bool.not_eq_false, Bool.not_eq_true', Bool.not_eq_false', Bool.not_not, bne_iff_ne, beq_iff_eq] at h11)
        have hk : k = (addF 4096 (sizeN 4096 (sz % 60)) cur L K (entE e ea es)).rem.length := by omega
        subst hk
        rw [List.take_length]
        refine r_exit ?_
        refine r_seq ?_
        refine r_region ?_
        refine r_p (p_move rfl) rfl ?_
        refine r_call (xs := [.tmp 84]) (links_spec C 4096 (sizeN 4096 (sz % 60)) (addF 4096 (sizeN 4096 (sz % 60)) cur L K (entE e ea es)).cur o ol (addF 4096 (sizeN 4096 (sz % 60)) cur L K (entE e ea es)).K hnew.ordK hlK1) cb24 [] [(true, 500), (true, 502)] [85] [] rfl rfl rfl rfl rfl rfl rfl rfl (fun _ _ => rfl) (fun _ _ _ => rfl) rfl (fun v85 _ => ?_)
        refine r_p (p_assign rfl) rfl ?_
        refine r_nil ?_
        refine r_seq ?_
        refine r_seq ?_
        refine r_region ?_
        refine r_p (p_assign rfl) rfl ?_
        refine r_nil ?_
        refine r_block ?_
        refine r_loop (X := Nat) (fun j => j ≤ (addF 4096 (sizeN 4096 (sz % 60)) cur L K (entE e ea es)).K.length) (fun j => [(7, .bool true), (8, .pointer (some ⟨C, 0, none⟩)), (9, .pointer (some ⟨r, 0, none⟩)), (11, .bool r0.isSome), (12, .pointer (some ⟨b12, 0, none⟩)), (17, .int .i64 (cnt e.pc (addF 4096 (sizeN 4096 (sz % 60)) cur L K (entE e ea es)).rem)), (19, sv v85), (20, .int .i64 (j : Int))]) (fun j => [(500, row C 84 (cC 4096 (sizeN 4096 (sz % 60)) (addF 4096 (sizeN 4096 (sz % 60)) cur L K (entE e ea es)).cur o ol)), (501, mpB o (addF 4096 (sizeN 4096 (sz % 60)) cur L K (entE e ea es)).L), (502, mpL ol (addF 4096 (sizeN 4096 (sz % 60)) cur L K (entE e ea es)).K), (85, own 64 3 eL (sv v85) (addF 4096 (sizeN 4096 (sz % 60)) cur L K (entE e ea es)).K), (12, row b12 36 (eR e))]) (fun j => [(0, sl 4 eQ (sv vs) l), (1, pgP S)]) (fun j => (addF 4096 (sizeN 4096 (sz % 60)) cur L K (entE e ea es)).K.length - j) 0 (Nat.zero_le _) rfl rfl rfl (fun j hj0 => ?_)
        refine r_seq ?_
        refine r_seq ?_
        refine r_region ?_
        refine r_p (p_move rfl) rfl ?_
        refine r_p (p_move rfl) rfl ?_
        refine r_p (p_len_sl Try.underlying40 rfl (hs_own (k := 85) rfl)) rfl ?_
        refine r_p (p_bin rfl rfl b_lt) rfl ?_
        refine r_nil ?_
        refine r_cond rfl (fun h13 => ?_) (fun h13 => ?_)
        · (try simp only [decide_eq_true_eq, decide_eq_false_iff_not, Bool.and_eq_true, Bool.or_eq_true, Bool.and_eq_false_iff, Bool.or_eq_false_iff, Bool.not_eq_true, Bool.not_eq_false, Bool.not_eq_true', Bool.not_eq_false', Bool.not_not, bne_iff_ne, beq_iff_eq] at h13)
          have hj : j < (addF 4096 (sizeN 4096 (sz % 60)) cur L K (entE e ea es)).K.length := by omega
          have hjm := getD_memL hj
          have hnj : ((addF 4096 (sizeN 4096 (sz % 60)) cur L K (entE e ea es)).K.getD j dL).f ≠ e.pc ∧ ((addF 4096 (sizeN 4096 (sz % 60)) cur L K (entE e ea es)).K.getD j dL).t ≠ e.pc := add_cut (c1 := curN (sizeN 4096 (sz % 60)) cur e.bytes.size) (n := e.bytes.size) (e := (entE e ea es)) hi (by rw [← hKK]; exact hjm)
          refine r_skip ?_
          refine r_seq ?_
          refine r_block ?_
          refine r_seq ?_
          refine r_draw [92, 93, 94, 95, 96, 97, 98, 99, 100, 101, 102, 103, 104, 105, 106, 107, 108, 109] _ rfl (stg_end (V := [(0, 92, _), (1, 93, _), (2, 94, _), (3, 95, _), (4, 96, _), (5, 97, _), (6, 98, _), (7, 99, _), (8, 100, _), (9, 101, _), (10, 102, _), (11, 103, _), (12, 104, _), (13, 105, _), (14, 106, _), (15, 107, _), (16, 108, _), (17, 109, _)]) [0, 1, 2, 3, 4, 5, 6, 7, 8, 9, 10, 11, 12, 13, 14, 15, 16, 17] rfl rfl (prs_cons (pri rfl (p_move rfl)) (prs_cons (pri rfl (p_move rfl)) (prs_cons (pri rfl (p_idx_sl (j := j) Try.underlying40 t64 rfl rfl (hs_own (k := 85) rfl) (by first | rfl | omega) (by first | omega | (simp; done) | (simp; omega)))) (prs_cons (pri rfl (p_field fo64_0 rfl)) (prs_cons (pri rfl (p_load1 t30 rfl rfl (g_elp (hs_own (k := 85) rfl) (by intro _; rfl) (getD_get dL (by omega)) rfl))) (prs_cons (pri rfl (p_field0 fo36_0 rfl)) (prs_cons (pri rfl (p_load1 t30 rfl rfl (g_row1 (k := 12) rfl rfl))) (prs_cons (pri rfl (p_bin rfl rfl b_eq)) (prs_cons (pri rfl (p_move rfl)) (prs_cons (prig_y rfl rfl rfl (decide_eq_false hnj.1) (p_move rfl)) (prs_cons (prig_y rfl rfl rfl (decide_eq_false hnj.1) (p_move rfl)) (prs_cons (prig_y rfl rfl rfl (decide_eq_false hnj.1) (p_idx_sl (j := j) Try.underlying40 t64 rfl rfl (hs_own (k := 85) rfl) (by first | rfl | omega) (by first | omega | (simp; done) | (simp; omega)))) (prs_cons (prig_y rfl rfl rfl (decide_eq_false hnj.1) (p_field fo64_2 rfl)) (prs_cons (prig_y rfl rfl rfl (decide_eq_false hnj.1) (p_load1 t30 rfl rfl (g_elp (hs_own (k := 85) rfl) (by intro _; rfl) (getD_get dL (by omega)) rfl))) (prs_cons (prig_y rfl rfl rfl (decide_eq_false hnj.1) (p_field0 fo36_0 rfl)) (prs_cons (prig_y rfl rfl rfl (decide_eq_false hnj.1) (p_load1 t30 rfl rfl (g_row1 (k := 12) rfl rfl))) (prs_cons (prig_y rfl rfl rfl (decide_eq_false hnj.1) (p_bin rfl rfl b_eq)) (prs_cons (pri rfl (p_pick rfl rfl rfl (pick_f (decide_eq_false hnj.1)))) prs_nil)))))))))))))))))) rfl rfl rfl ?_)
          refine r_cond rfl (fun h14 => ?_) (fun h14 => ?_)
          · exact absurd (of_decide_eq_true h14) hnj.2
          · (try simp only [decide_eq_true_eq, decide_eq_false_iff_not, Bool.and_eq_true, Bool.or_eq_true, Bool.and_eq_false_iff, Bool.or_eq_false_iff, Bool.not_eq_true, Bool.not_eq_false, Bool.not_eq_true', Bool.not_eq_false', Bool.not_not, bne_iff_ne, beq_iff_eq] at h14)
            refine r_skip ?_
            refine r_region ?_
            refine r_p (p_move rfl) rfl ?_
            refine r_p (p_bin rfl rfl (b_add (by first | exact w_i64 (by omega) (by omega) | rfl))) rfl ?_
            refine r_p (p_assign rfl) rfl ?_
            refine r_nil ?_
            refine r_here (j + 1) ⟨by omega, by omega⟩ rfl rfl rfl
        · (try simp only [decide_eq_true_eq, decide_eq_false_iff_not, Bool.and_eq_true, Bool.or_eq_true, Bool.and_eq_false_iff, Bool.or_eq_false_iff, Bool.not_eq_true, Bool.not_eq_false, Bool.not_eq_true', Bool.not_eq_false', Bool.not_not, bne_iff_ne, beq_iff_eq] at h13)
          refine r_exit ?_
          refine r_seq ?_
          refine r_region ?_
          refine r_p (p_move rfl) rfl ?_
          refine r_p (p_field0 fo36_0 rfl) rfl ?_
          refine r_p (p_load1 t30 rfl rfl (g_row1 (k := 12) rfl rfl)) rfl ?_
          refine r_call (xs := [.tmp 111, .tmp 113]) (find_spec C 4096 (sizeN 4096 (sz % 60)) (addF 4096 (sizeN 4096 (sz % 60)) cur L K (entE e ea es)).cur o ol (addF 4096 (sizeN 4096 (sz % 60)) cur L K (entE e ea es)).L _ _ hfx) cb21 [] [(true, 500), (true, 501)] [] [] rfl rfl rfl rfl rfl rfl rfl rfl (fun _ _ => rfl) (fun _ _ _ => rfl) rfl (fun _ _ => ?_)
          refine r_p (p_move rfl) rfl ?_
          refine r_p (p_extract rfl rfl) rfl ?_
          refine r_p (p_extract rfl rfl) rfl ?_
          refine r_alloc t54 rfl rfl fun b21 => ?_
          refine r_store_all (k := 21) t54 rfl rfl rfl rfl rfl rfl ?_
          refine r_p (p_assign rfl) rfl ?_
          refine r_nil ?_
          refine r_seq ?_
          refine r_region ?_
          refine r_p (p_move rfl) rfl ?_
          refine r_p (p_move rfl) rfl ?_
          refine r_split (t := 118) rfl (fun h15 => ?_) (fun h15 => False.elim (by simp at h15))
          refine r_gyes rfl rfl ?_
          refine r_p (p_move rfl) rfl ?_
          refine r_p (p_pick rfl rfl rfl (by first | exact pick_and | exact pick_or |  rfl)) rfl ?_
          refine r_p (p_move rfl) rfl ?_
          refine r_split (t := 121) rfl (fun h16 => ?_) (fun h16 => False.elim (by simp at h16))
          refine r_gyes rfl rfl ?_
          refine r_p (p_field0 fo54_4 rfl) rfl ?_
          refine r_gyes rfl rfl ?_
          refine r_p (p_field fo52_0 rfl) rfl ?_
          refine r_gyes rfl rfl ?_
          refine r_p (p_load1 t9 rfl rfl (g_row1 (k := 21) rfl rfl)) rfl ?_
          refine r_gyes rfl rfl ?_
          refine r_p (p_field0 fo36_2 rfl) rfl ?_
          refine r_gyes rfl rfl ?_
          refine r_p (p_load1 t9 rfl rfl (g_row1 (k := 12) rfl rfl)) rfl ?_
          refine r_gyes rfl rfl ?_
          refine r_p (p_bin rfl rfl b_seq) rfl ?_
          refine r_p (p_pick rfl rfl rfl (by first | exact pick_and | exact pick_or |  rfl)) rfl ?_
          refine r_p (p_move rfl) rfl ?_
          refine r_split (t := 129) rfl (fun h17 => ?_) (fun h17 => False.elim (by simp [putE, entE, ba_beq] at h17))
          refine r_gyes rfl rfl ?_
          refine r_p (p_move rfl) rfl ?_
          refine r_gyes rfl rfl ?_
          refine r_p (p_bin rfl rfl b_eq) rfl ?_
          refine r_gyes rfl rfl ?_
          refine r_p (p_move rfl) rfl ?_
          refine r_gyes rfl rfl ?_
          refine r_p (p_bin rfl rfl (b_beq Try.underlying4)) rfl ?_
          refine r_p (p_pick rfl rfl rfl (by first | exact pick_and | exact pick_or |  rfl)) rfl ?_
          refine r_p (p_assign rfl) rfl ?_
          refine r_nil ?_
          refine r_cret ?_
          refine r_ret () trivial rfl (rs1 (rv_tmp rfl)) (congrArg Value.bool (by first | rfl | exact hcnt | simp [hcnt])) [] [] rfl rfl rfl

end Go.Proofs.Ytbkonlkffajhkaa
