/-
  Making a snapshot from numbers. No condition.
-/
import Derived.Test.YtohenjmkhncoiaaYQ
namespace Go.Proofs.Ytohenjmkhncoiaa
set_option linter.unusedSimpArgs false
set_option linter.unusedVariables false
open Go.RowKit

/-- The numbers of a snapshot. -/
def xq (q : List Int) (i : Nat) : Int := (q.take 12).getD i 0
def xv (q : List Int) : Nat → Value := fun i => .int .i64 (xq q i)
def xk (q : List Int) (k : Nat) : Nat → Value := fun i => .int .i64 (if i < k then xq q i else 0)
theorem xq_get {q : List Int} {k : Nat} (h1 : k < 12) (h2 : k < q.length) : q.getD k 0 = xq q k := by
  unfold xq
  rw [List.getD_eq_getElem?_getD, List.getD_eq_getElem?_getD, List.getElem?_take, if_pos h1]
theorem xk_zero (q : List Int) : (fun _ => Value.int .i64 0) = xk q 0 := by funext i; simp [xk]
theorem xk_succ {q : List Int} {k : Nat} (h1 : k < 12) (h2 : k < q.length) : fset (xk q k) k (.int .i64 (q.getD k 0)) = xk q (k + 1) := by
  funext i
  rw [xq_get h1 h2]
  simp only [fset, xk]
  by_cases h : i = k
  · subst h; simp
  · rw [if_neg h]
    by_cases h' : i < k
    · rw [if_pos h', if_pos (by omega)]
    · rw [if_neg h', if_neg (by omega)]
theorem xk_done {q : List Int} {k : Nat} (h : ¬ (k < 12 ∧ k < q.length)) : xk q k = xv q := by
  funext i
  simp only [xk, xv]
  by_cases h' : i < k
  · rw [if_pos h']
  · rw [if_neg h']
    unfold xq
    rw [List.getD_eq_getElem?_getD, List.getElem?_eq_none (by rw [List.length_take]; omega)]
    rfl
def rF (q : List Int) (k : Nat) : Int := IntKind.u32.wrap (IntKind.u32.wrap (xq q (k % 12)) * IntKind.u32.wrap (IntKind.i64.wrap ((k : Int) + xq q 5)))
def mR (q : List Int) (n k : Nat) : Int := if k < n then rF q k else 0
def mC (q : List Int) (k : Nat) : Int := if k = (xq q 5 % 4).toNat then IntKind.u32.wrap (xq q 6) else 0
def m3 (q : List Int) : Nat := (xq q 7 % 4).toNat
def m4 (q : List Int) : Nat := (xq q 7 / 4 % 4).toNat
def m5 (q : List Int) : Nat := (xq q 10 % 8).toNat
def m6 (q : List Int) : Nat := (xq q 10 / 8 % 8).toNat
def fR (q : List Int) (k : Nat) : Int := xq q 8 / 2 ^ (k : Int).toNat
def fD (q : List Int) (k : Nat) : ByteArray := fillS (IntKind.u32.wrap (IntKind.i64.wrap (xq q 8 + k))) (xq q 9 % 65536 % 81).toNat
def fC (q : List Int) (k : Nat) : ByteArray := fillS (IntKind.u32.wrap (IntKind.i64.wrap (xq q 9 - k))) (xq q 8 % 65536 % 81).toNat
def fI (q : List Int) (k : Nat) : Int := IntKind.u32.wrap (IntKind.i64.wrap (xq q 11 + k))
def fO (q : List Int) (k : Nat) : Int := IntKind.u32.wrap (IntKind.u32.wrap (xq q 11) * (k : Int))
def mkS (q : List Int) (n : Nat) (C : Nat → Int) (rights : List Int) (data code : List ByteArray) (inputs outputs : List Int) (vr vd vc vi vo : SV) : Sp := hdS (xq q 0) (IntKind.u32.wrap (xq q 1)) (IntKind.u32.wrap (xq q 2) % 16) (xq q 3) (xq q 4) (mR q n) C rights data code inputs outputs vr vd vc vi vo
def madeS (q : List Int) (vr vd vc vi vo : SV) : Sp := mkS q 16 (mC q) ((List.range (m3 q)).map (fR q)) ((List.range (m3 q)).map (fD q)) ((List.range (m4 q)).map (fC q)) ((List.range (m5 q)).map (fI q)) ((List.range (m6 q)).map (fO q)) vr vd vc vi vo
/-- The snapshot that numbers determine. -/
def madeF (q : List Int) : Sn := (madeS q nilS nilS nilS nilS nilS).sn
theorem madeS_sn (q : List Int) (a b c d e : SV) : (madeS q a b c d e).sn = madeF q := rfl
theorem okI_div {x : Int} (h : okI x) (k : Nat) : okI (x / 2 ^ (k : Int).toNat) := by
  have hp : (0 : Int) < 2 ^ (k : Int).toNat := Int.pow_pos (by decide)
  unfold okI at *
  constructor
  · by_cases hx : 0 ≤ x
    · have := Int.ediv_nonneg hx (Int.le_of_lt hp); omega
    · have h1 : x ≤ x / 2 ^ (k : Int).toNat := by
        rw [Int.le_ediv_iff_mul_le hp]
        have h2 : x * 2 ^ (k : Int).toNat ≤ x * 1 := Int.mul_le_mul_of_nonpos_left (by omega) (by omega)
        omega
      omega
  · by_cases hx : 0 ≤ x
    · have := Int.ediv_le_self (2 ^ (k : Int).toNat) hx; omega
    · have := Int.ediv_neg_of_neg_of_pos (by omega : x < 0) hp; omega
theorem okL_range {ok : Int → Prop} (n : Nat) (f : Nat → Int) (hn : n ≤ 7) (h : ∀ i, ok (f i)) : okL ok ((List.range n).map f) := ⟨fun a ha => by
  obtain ⟨i, _, rfl⟩ := List.mem_map.1 ha
  exact h i, by rw [List.length_map, List.length_range]; omega⟩
theorem okT_fill (seed : Int) (n : Nat) (hn : n ≤ 80) : okT (bytesI (fillS seed n)) := ⟨By_bytesI _, by rw [bytesI_len, fillS_size]; omega⟩
theorem okLT_range (n : Nat) (f : Nat → ByteArray) (hn : n ≤ 7) (h : ∀ i, okT (bytesI (f i))) : okL okT (((List.range n).map f).map bytesI) := ⟨fun a ha => by
  rw [List.map_map] at ha
  obtain ⟨i, _, rfl⟩ := List.mem_map.1 ha
  exact h i, by rw [List.length_map, List.length_map, List.length_range]; omega⟩
theorem m3_le (q : List Int) : m3 q ≤ 3 := by unfold m3; omega
theorem m4_le (q : List Int) : m4 q ≤ 3 := by unfold m4; omega
theorem m5_le (q : List Int) : m5 q ≤ 7 := by unfold m5; omega
theorem m6_le (q : List Int) : m6 q ≤ 7 := by unfold m6; omega
theorem made_ok (q : List Int) (hq : ∀ i, okI (xq q i)) : (madeF q).Ok := by
  have h16 : okW (IntKind.u32.wrap (xq q 2) % 16) := by have := wrap_u32_bd (xq q 2); unfold okW; omega
  refine ⟨hq 0, hq 3, hq 4, wrap_u32_bd _, h16, ⟨fun a ha => ?_, by simp [madeF, Sp.sn]⟩, ⟨fun a ha => ?_, by simp [madeF, Sp.sn]⟩, okL_range _ _ (by have := m3_le q; omega) fun i => okI_div (hq 8) i, okLT_range _ _ (by have := m3_le q; omega) fun i => okT_fill _ _ (by omega), okLT_range _ _ (by have := m4_le q; omega) fun i => okT_fill _ _ (by omega), okL_range _ _ (m5_le q) fun i => wrap_u32_bd _, okL_range _ _ (m6_le q) fun i => wrap_u32_bd _⟩
  · obtain ⟨i, _, rfl⟩ := List.mem_map.1 ha
    show okW (mR q 16 i)
    unfold mR
    split
    · exact wrap_u32_bd _
    · exact ⟨by omega, by omega⟩
  · obtain ⟨i, _, rfl⟩ := List.mem_map.1 ha
    show okW (mC q i)
    unfold mC
    split
    · exact wrap_u32_bd _
    · exact ⟨by omega, by omega⟩
theorem fm_const_le {α β : Type} (e : α → List β) (c : Nat) : ∀ l : List α, (∀ a ∈ l, (e a).length ≤ c) → (l.flatMap e).length ≤ c * l.length
  | [], _ => by simp
  | a :: l, h => by
    have h1 := h a (List.mem_cons_self ..)
    have h2 := fm_const_le e c l fun x hx => h x (List.mem_cons_of_mem _ hx)
    rw [List.flatMap_cons, List.length_append, List.length_cons, Nat.mul_succ]
    omega
theorem made_len (q : List Int) : (eSn (madeF q)).length ≤ 1000 := by
  have h := eSn_len (madeS q nilS nilS nilS nilS nilS)
  have h3 := m3_le q; have h4 := m4_le q; have h5 := m5_le q; have h6 := m6_le q
  have e1 : (madeS q nilS nilS nilS nilS nilS).rights.length = m3 q := by simp [madeS, mkS, hdS]
  have e2 : (madeS q nilS nilS nilS nilS nilS).inputs.length = m5 q := by simp [madeS, mkS, hdS]
  have e3 : (madeS q nilS nilS nilS nilS nilS).outputs.length = m6 q := by simp [madeS, mkS, hdS]
  have e4 : ((madeS q nilS nilS nilS nilS nilS).data.flatMap eSt).length ≤ 88 * m3 q := by
    have := fm_const_le eSt 88 ((List.range (m3 q)).map (fD q)) fun a ha => by
      obtain ⟨i, _, rfl⟩ := List.mem_map.1 ha
      rw [eSt_len, fD, fillS_size]
      omega
    rw [List.length_map, List.length_range] at this
    exact this
  have e5 : ((madeS q nilS nilS nilS nilS nilS).code.flatMap eSt).length ≤ 88 * m4 q := by
    have := fm_const_le eSt 88 ((List.range (m4 q)).map (fC q)) fun a ha => by
      obtain ⟨i, _, rfl⟩ := List.mem_map.1 ha
      rw [eSt_len, fC, fillS_size]
      omega
    rw [List.length_map, List.length_range] at this
    exact this
  show (eSn (madeS q nilS nilS nilS nilS nilS).sn).length ≤ 1000
  rw [h, e1, e2, e3]
  omega
theorem mR_setR (q : List Int) (k : Nat) (C : Nat → Int) : (mkS q k C [] [] [] [] [] nilS nilS nilS nilS nilS).setR k (rF q k) = mkS q (k + 1) C [] [] [] [] [] nilS nilS nilS nilS nilS := by
  have : (fun i => if i = k then rF q k else mR q k i) = mR q (k + 1) := by
    funext i
    unfold mR
    by_cases h : i = k
    · subst h; simp
    · rw [if_neg h]
      by_cases h' : i < k
      · rw [if_pos h', if_pos (by omega)]
      · rw [if_neg h', if_neg (by omega)]
  unfold Sp.setR mkS hdS
  dsimp only
  rw [this]
theorem mC_setC (q : List Int) (n : Nat) : (mkS q n (fun _ => 0) [] [] [] [] [] nilS nilS nilS nilS nilS).setC (xq q 5 % 4).toNat (IntKind.u32.wrap (xq q 6)) = mkS q n (mC q) [] [] [] [] [] nilS nilS nilS nilS nilS := rfl
theorem map_snoc {α : Type} (k : Nat) (f : Nat → α) : (List.range (k + 1)).map f = (List.range k).map f ++ [f k] := by rw [List.range_succ, List.map_append]; rfl
theorem at_cregK {b j : Nat} : some (Value.pointer (some (⟨b, 1 + 18 + j * 1, none⟩ : Addr))) = some (Value.pointer (some ⟨b, 19 + j, none⟩)) := at_creg

set_option maxHeartbeats 4000000 in
set_option maxRecDepth 100000 in
theorem made_spec (v : SV) (q : List Int) :
    Spec Try.prog 31 [sv v] [] [sl 1 eI (sv v) q] (X := Sp) (fun x => ∃ a b c d e, x = madeS q a b c d e) (fun x => snV x) (fun _ => []) (fun x => [snA x]) := by
  refine r_enter Try.func31 rfl Try.ntmps31 rfl fun w0 M H => ?_
  refine r_seq ?_
  refine r_region ?_
  refine r_alloc t59 rfl rfl fun b2 => ?_
  refine r_nil ?_
  refine r_seq ?_
  refine r_region ?_
  refine r_alloc_arr (n := 12) (u := (.int .i64 0)) t103 rfl rfl fun b3 => ?_
  refine r_nil ?_
  refine r_seq ?_
  refine r_seq ?_
  refine r_region ?_
  refine r_p (p_assign rfl) rfl ?_
  refine r_nil ?_
  refine r_block ?_
  refine r_conva (k := 3) (A' := arr b3 103 12 (xk q 0)) rfl (fun _ _ h => by rw [← xk_zero]; exact h) ?_
  refine r_loop (X := Nat) (fun k => k ≤ 12) (fun k => [(0, sv v), (2, .pointer (some ⟨b2, 0, none⟩)), (3, .pointer (some ⟨b3, 0, none⟩)), (4, .int .i64 (k : Int))]) (fun k => [(2, row b2 59 (snC zSp)), (3, arr b3 103 12 (xk q k))]) (fun k => [(0, sl 1 eI (sv v) q)]) (fun k => 12 - k) 0 (Nat.zero_le _) rfl rfl rfl (fun k hk0 => ?_)
  refine r_seq ?_
  refine r_seq ?_
  refine r_region ?_
  refine r_p (p_move rfl) rfl ?_
  refine r_p (p_bin rfl rfl b_lt) rfl ?_
  refine r_p (p_move rfl) rfl ?_
  refine r_gp [] rfl rfl trivial (fun hg1 => p_move rfl) rfl ?_
  refine r_gp [(14, _)] rfl rfl ⟨rfl, trivial⟩ (fun hg2 => p_move rfl) rfl ?_
  refine r_gp [(14, _), (15, _)] rfl rfl ⟨rfl, rfl, trivial⟩ (fun hg3 => p_len_sl Try.underlying28 rfl (hs_sl (k := 0) rfl)) rfl ?_
  refine r_gp [(14, _), (15, _), (16, _)] rfl rfl ⟨rfl, rfl, rfl, trivial⟩ (fun hg4 => p_bin rfl rfl b_lt) rfl ?_
  refine r_p (p_pick rfl rfl rfl (by first | exact pick_and | exact pick_or |  rfl)) rfl ?_
  refine r_nil ?_
  refine r_cond rfl (fun h5 => ?_) (fun h5 => ?_)
  · (try simp only [decide_eq_true_eq, decide_eq_false_iff_not, Bool.and_eq_true, Bool.or_eq_true, Bool.and_eq_false_iff, Bool.or_eq_false_iff, Bool.not_eq_true, Bool.not_eq_false, Bool.not_eq_true', Bool.not_eq_false', Bool.not_not, bne_iff_ne, beq_iff_eq] at h5)
    have hk : k < 12 ∧ k < q.length := by omega
    refine r_skip ?_
    refine r_seq ?_
    refine r_block ?_
    refine r_region ?_
    refine r_p (p_move rfl) rfl ?_
    refine r_p (p_move rfl) rfl ?_
    refine r_p (p_move rfl) rfl ?_
    refine r_p (p_idx_sl (j := k) Try.underlying28 t3 rfl rfl (hs_sl (k := 0) rfl) (by first | rfl | omega) (by first | omega | (simp; done) | (simp; omega))) rfl ?_
    refine r_p (p_load1 t3 rfl rfl (g_el' (hs_sl (k := 0) rfl) (by intro _; rfl) (getD_get 0 (by omega)) (by rfl))) rfl ?_
    refine r_p (p_idx_arr1 (j := k) Try.underlying103 t3 rfl rfl (by first | rfl | omega) (by first | omega | (simp; done) | (simp; omega))) rfl ?_
    refine r_store_arr (k := 3) t3 rfl rfl rfl rfl rfl (by omega) ?_
    refine r_nil ?_
    refine r_region ?_
    refine r_p (p_move rfl) rfl ?_
    refine r_p (p_bin rfl rfl (b_add (by first | exact w_i64 (by omega) (by omega) | rfl))) rfl ?_
    refine r_p (p_assign rfl) rfl ?_
    refine r_nil ?_
    refine r_here (k + 1) ⟨by omega, by omega⟩ rfl (by rw [← xk_succ hk.1 hk.2]; rfl) rfl
  · (try simp only [decide_eq_true_eq, decide_eq_false_iff_not, Bool.and_eq_true, Bool.or_eq_true, Bool.and_eq_false_iff, Bool.or_eq_false_iff, Bool.not_eq_true, Bool.not_eq_false, Bool.not_eq_true', Bool.not_eq_false', Bool.not_not, bne_iff_ne, beq_iff_eq] at h5)
    have hk : ¬ (k < 12 ∧ k < q.length) := by omega
    refine r_conva (k := 3) (A' := arr b3 103 12 (xv q)) rfl (fun _ _ h => by rw [← xk_done hk]; exact h) ?_
    refine r_exit ?_
    refine r_seq ?_
    refine r_region ?_
    refine r_p (p_idx_arr1 (j := 0) Try.underlying103 t3 rfl rfl (by rfl) (by decide)) rfl ?_
    refine r_p (p_load1 t3 rfl rfl (g_arr1 (k := 3) rfl (by omega))) rfl ?_
    refine r_p (p_build (parts := [(0, .tmp 28)]) t59 pl59 rfl rfl) rfl ?_
    refine r_alloc t59 rfl rfl fun b5 => ?_
    refine r_store_all (k := 5) t59 rfl rfl rfl rfl rfl rfl ?_
    refine r_conva (k := 5) (A' := row b5 59 (snC (hdS (xq q 0) 0 0 0 0 (fun _ => 0) (fun _ => 0) [] [] [] [] [] nilS nilS nilS nilS nilS))) rfl (fun _ _ h => h) ?_
    refine r_nil ?_
    refine r_seq ?_
    refine r_region ?_
    refine r_p (p_idx_arr1 (j := 1) Try.underlying103 t3 rfl rfl (by rfl) (by decide)) rfl ?_
    refine r_p (p_load1 t3 rfl rfl (g_arr1 (k := 3) rfl (by omega))) rfl ?_
    refine r_p (p_conv Try.underlying3 Try.underlying32 rfl (by first | exact w_u32 (by omega) (by omega) | rfl)) rfl ?_
    refine r_p (p_field0 fo59_1 rfl) rfl ?_
    refine r_p (p_field fo56_0 rfl) rfl ?_
    refine r_store_row (k := 5) t32 rfl rfl rfl rfl rfl rfl rfl rfl ?_
    refine r_nil ?_
    refine r_seq ?_
    refine r_region ?_
    refine r_p (p_idx_arr1 (j := 2) Try.underlying103 t3 rfl rfl (by rfl) (by decide)) rfl ?_
    refine r_p (p_load1 t3 rfl rfl (g_arr1 (k := 3) rfl (by omega))) rfl ?_
    refine r_p (p_conv Try.underlying3 Try.underlying32 rfl (by first | exact w_u32 (by omega) (by omega) | rfl)) rfl ?_
    refine r_p (p_bin rfl rfl (b_rem (by omega) (tmod_pos (wrap_u32_bd _).1))) rfl ?_
    refine r_p (p_field0 fo59_1 rfl) rfl ?_
    refine r_p (p_field fo56_2 rfl) rfl ?_
    refine r_store_row (k := 5) t32 rfl rfl rfl rfl rfl rfl rfl rfl ?_
    refine r_nil ?_
    refine r_seq ?_
    refine r_region ?_
    refine r_p (p_idx_arr1 (j := 3) Try.underlying103 t3 rfl rfl (by rfl) (by decide)) rfl ?_
    refine r_p (p_load1 t3 rfl rfl (g_arr1 (k := 3) rfl (by omega))) rfl ?_
    refine r_p (p_field0 fo59_1 rfl) rfl ?_
    refine r_p (p_field fo56_4 rfl) rfl ?_
    refine r_store_row (k := 5) t3 rfl rfl rfl rfl rfl rfl rfl rfl ?_
    refine r_nil ?_
    refine r_seq ?_
    refine r_region ?_
    refine r_p (p_idx_arr1 (j := 4) Try.underlying103 t3 rfl rfl (by rfl) (by decide)) rfl ?_
    refine r_p (p_load1 t3 rfl rfl (g_arr1 (k := 3) rfl (by omega))) rfl ?_
    refine r_p (p_field0 fo59_1 rfl) rfl ?_
    refine r_p (p_field fo56_5 rfl) rfl ?_
    refine r_store_row (k := 5) t3 rfl rfl rfl rfl rfl rfl rfl rfl ?_
    refine r_nil ?_
    refine r_seq ?_
    refine r_seq ?_
    refine r_region ?_
    refine r_p (p_assign rfl) rfl ?_
    refine r_nil ?_
    refine r_block ?_
    refine r_loop (X := Nat) (fun k => k ≤ 16) (fun k => [(2, .pointer (some ⟨b2, 0, none⟩)), (3, .pointer (some ⟨b3, 0, none⟩)), (5, .pointer (some ⟨b5, 0, none⟩)), (6, .int .i64 (k : Int))]) (fun k => [(2, row b2 59 (snC zSp)), (3, arr b3 103 12 (xv q)), (5, row b5 59 (snC (mkS q k (fun _ => 0) [] [] [] [] [] nilS nilS nilS nilS nilS)))]) (fun k => []) (fun k => 16 - k) 0 (Nat.zero_le _) rfl rfl rfl (fun k hk0 => ?_)
    refine r_seq ?_
    refine r_seq ?_
    refine r_region ?_
    refine r_p (p_move rfl) rfl ?_
    refine r_p (p_bin rfl rfl b_lt) rfl ?_
    refine r_nil ?_
    refine r_cond rfl (fun h6 => ?_) (fun h6 => ?_)
    · (try simp only [decide_eq_true_eq, decide_eq_false_iff_not, Bool.and_eq_true, Bool.or_eq_true, Bool.and_eq_false_iff, Bool.or_eq_false_iff, Bool.not_eq_true, Bool.not_eq_false, Bool.not_eq_true', Bool.not_eq_false', Bool.not_not, bne_iff_ne, beq_iff_eq] at h6)
      have hk : k < 16 := by omega
      refine r_skip ?_
      refine r_seq ?_
      refine r_block ?_
      refine r_draw [53, 54, 55, 56, 57, 58, 59, 60, 61, 62, 63, 64, 65, 66, 67] _ rfl (stg_mem0 (V := [(0, 53, _), (1, 54, _), (2, 55, _), (3, 56, _), (4, 57, _), (5, 58, _), (6, 59, _), (7, 60, _), (8, 61, _), (9, 62, _), (10, 63, _), (11, 64, _), (12, 65, _), (13, 66, _), (14, 67, _)]) [0, 1, 2, 3, 4, 5, 6, 7, 8, 9, 10, 11, 12, 13, 14] 15 [15, 14, 13, 12, 11, 10, 9, 8, 7, 6, 5, 4, 3, 2, 1, 0] [] (fun _ => []) rfl rfl (prs_cons (pri rfl (p_move rfl)) (prs_cons (pri rfl (p_move rfl)) (prs_cons (pri rfl (p_bin rfl rfl (b_rem (by omega) (by first | exact tmod_pos (by omega) | rfl)))) (prs_cons (pri rfl (p_idx_arr1 (j := (k % 12)) Try.underlying103 t3 rfl rfl (by omega) (by omega))) (prs_cons (pri rfl (p_load1 t3 rfl rfl (g_arr1 (k := 3) rfl (by omega)))) (prs_cons (pri rfl (p_conv Try.underlying3 Try.underlying32 rfl (by first | exact w_u32 (by omega) (by omega) | rfl))) (prs_cons (pri rfl (p_move rfl)) (prs_cons (pri rfl (p_idx_arr1 (j := 5) Try.underlying103 t3 rfl rfl (by rfl) (by decide))) (prs_cons (pri rfl (p_load1 t3 rfl rfl (g_arr1 (k := 3) rfl (by omega)))) (prs_cons (pri rfl (p_bin rfl rfl (b_add rfl))) (prs_cons (pri rfl (p_conv Try.underlying3 Try.underlying32 rfl (by first | exact w_u32 (by omega) (by omega) | rfl))) (prs_cons (pri rfl (p_bin rfl rfl (b_mul rfl))) (prs_cons (pri rfl (p_field0 fo59_1 rfl)) (prs_cons (pri rfl (p_field fo56_1 rfl)) (prs_cons (pri rfl (p_idx_arr (j := k) Try.underlying53 t32 rfl rfl (by first | rfl | omega) (by omega))) prs_nil))))))))))))))) rfl rfl rfl rfl rfl rfl rfl rfl rfl (fun _ _ => rfl) rfl (ms_store_row (k := 5) (o := 2 + k) (c' := snC ((mkS q k (fun _ => 0) [] [] [] [] [] nilS nilS nilS nilS nilS).setR k (rF q k))) t32 at_reg rfl rfl rfl rfl rfl (by rw [snC_len]; exact Nat.ble_eq_true_of_le (by show 2 + k + 1 ≤ 30; omega)) (snC_setR _ k _ hk)) (fun _ _ => stg_end [] rfl rfl prs_nil rfl rfl rfl ?_))
      rw [mR_setR]
      refine r_region ?_
      refine r_p (p_move rfl) rfl ?_
      refine r_p (p_bin rfl rfl (b_add (by first | exact w_i64 (by omega) (by omega) | rfl))) rfl ?_
      refine r_p (p_assign rfl) rfl ?_
      refine r_nil ?_
      refine r_here (k + 1) ⟨by omega, by omega⟩ rfl rfl rfl
    · (try simp only [decide_eq_true_eq, decide_eq_false_iff_not, Bool.and_eq_true, Bool.or_eq_true, Bool.and_eq_false_iff, Bool.or_eq_false_iff, Bool.not_eq_true, Bool.not_eq_false, Bool.not_eq_true', Bool.not_eq_false', Bool.not_not, bne_iff_ne, beq_iff_eq] at h6)
      have hk : k = 16 := by omega
      subst hk
      refine r_exit ?_
      refine r_seq ?_
      refine r_draw [68, 69, 70, 71, 72, 73, 74, 75, 76] _ rfl (stg_mem (V := [(0, 68, _), (1, 69, _), (3, 71, _), (4, 72, _), (5, 73, _), (6, 74, _), (7, 75, _)]) [0, 1, 3, 4, 5, 6, 7] 2 [2, 1, 0] [8] (fun _ => [(8, 76, _)]) rfl rfl (prs_cons (pri rfl (p_idx_arr1 (j := 5) Try.underlying103 t3 rfl rfl (by rfl) (by decide))) (prs_cons (pri rfl (p_load1 t3 rfl rfl (g_arr1 (k := 3) rfl (by omega)))) (prs_cons (pri rfl (p_idx_arr1 (j := 6) Try.underlying103 t3 rfl rfl (by rfl) (by decide))) (prs_cons (pri rfl (p_load1 t3 rfl rfl (g_arr1 (k := 3) rfl (by omega)))) (prs_cons (pri rfl (p_conv Try.underlying3 Try.underlying32 rfl (by first | exact w_u32 (by omega) (by omega) | rfl))) (prs_cons (pri rfl (p_field0 fo59_1 rfl)) (prs_cons (pri rfl (p_field fo56_3 rfl)) prs_nil))))))) rfl rfl rfl rfl rfl rfl rfl rfl rfl rfl rfl (fun _ _ => rfl) rfl (ms_call (xs := [.tmp 69]) (k4_spec (xq q 5)) cb48 [] [] [] [] rfl rfl rfl rfl rfl rfl rfl rfl (fun _ _ => rfl) (fun _ _ _ => rfl)) (fun _ _ => stg_mem0 [8, 3, 4, 5, 6, 7] 9 [9, 8, 7, 6, 5, 4, 3, 2, 1, 0] [] (fun _ => []) rfl rfl (prs_cons (pri rfl (p_idx_arr (j := (xq q 5 % 4).toNat) Try.underlying54 t32 rfl rfl (by omega) (by omega))) (prs_cons (pri rfl (p_idx_arr1 (j := 6) Try.underlying103 t3 rfl rfl (by rfl) (by decide))) (prs_cons (pri rfl (p_load1 t3 rfl rfl (g_arr1 (k := 3) rfl (by omega)))) (prs_cons (pri rfl (p_conv Try.underlying3 Try.underlying32 rfl (by first | exact w_u32 (by omega) (by omega) | rfl))) (prs_cons (pri rfl (p_field0 fo59_1 rfl)) (prs_cons (pri rfl (p_field fo56_3 rfl)) prs_nil)))))) rfl rfl rfl rfl rfl rfl rfl rfl rfl (fun _ _ => rfl) rfl (ms_store_row (k := 5) (o := 19 + (xq q 5 % 4).toNat) (c' := snC ((mkS q 16 (fun _ => 0) [] [] [] [] [] nilS nilS nilS nilS nilS).setC (xq q 5 % 4).toNat (IntKind.u32.wrap (xq q 6)))) t32 at_cregK rfl rfl rfl rfl rfl (by rw [snC_len]; exact Nat.ble_eq_true_of_le (by show 19 + (xq q 5 % 4).toNat + 1 ≤ 30; omega)) (snC_setC _ _ _ (by omega))) (fun _ _ => stg_end [] rfl rfl prs_nil rfl rfl rfl ?_)))
      refine r_seq ?_
      refine r_seq ?_
      refine r_region ?_
      refine r_p (p_assign rfl) rfl ?_
      refine r_nil ?_
      refine r_block ?_
      refine r_nilown 60 (α := Int) (S := 3) (s := 1) (enc := eI) ?_
      refine r_nilown 61 (α := ByteArray) (S := 9) (s := 1) (enc := eS) ?_
      refine r_nilown 62 (α := ByteArray) (S := 9) (s := 1) (enc := eS) ?_
      refine r_nilown 63 (α := Int) (S := 32) (s := 1) (enc := eU) ?_
      refine r_nilown 64 (α := Int) (S := 32) (s := 1) (enc := eU) ?_
      refine r_loop (X := Nat × SV × SV) (fun x => x.1 ≤ m3 q) (fun x => [(2, .pointer (some ⟨b2, 0, none⟩)), (3, .pointer (some ⟨b3, 0, none⟩)), (5, .pointer (some ⟨b5, 0, none⟩)), (7, .int .i64 (x.1 : Int))]) (fun x => [(2, row b2 59 (snC zSp)), (3, arr b3 103 12 (xv q)), (5, row b5 59 (snC (mkS q 16 (mC q) ((List.range x.1).map (fR q)) ((List.range x.1).map (fD q)) [] [] [] x.2.1 x.2.2 nilS nilS nilS))), (60, own 3 1 eI (sv x.2.1) ((List.range x.1).map (fR q))), (61, own 9 1 eS (sv x.2.2) ((List.range x.1).map (fD q))), (62, own 9 1 eS (sv nilS) []), (63, own 32 1 eU (sv nilS) []), (64, own 32 1 eU (sv nilS) [])]) (fun x => []) (fun x => m3 q - x.1) (0, nilS, nilS) (Nat.zero_le _) rfl rfl rfl (fun x hk0 => ?_)
      obtain ⟨k, y⟩ := x
      dsimp only at hk0 ⊢
      refine r_seq ?_
      refine r_seq ?_
      refine r_region ?_
      refine r_p (p_move rfl) rfl ?_
      refine r_p (p_idx_arr1 (j := 7) Try.underlying103 t3 rfl rfl (by rfl) (by decide)) rfl ?_
      refine r_p (p_load1 t3 rfl rfl (g_arr1 (k := 3) rfl (by omega))) rfl ?_
      refine r_p (p_bin rfl rfl (b_and (and3 _))) rfl ?_
      refine r_p (p_bin rfl rfl b_lt) rfl ?_
      refine r_nil ?_
      refine r_cond rfl (fun h7 => ?_) (fun h7 => ?_)
      · (try simp only [decide_eq_true_eq, decide_eq_false_iff_not, Bool.and_eq_true, Bool.or_eq_true, Bool.and_eq_false_iff, Bool.or_eq_false_iff, Bool.not_eq_true, Bool.not_eq_false, Bool.not_eq_true', Bool.not_eq_false', Bool.not_not, bne_iff_ne, beq_iff_eq] at h7)
        have hk : k < m3 q := by unfold m3; omega
        have hmb : m3 q ≤ 7 := by unfold m3; omega
        refine r_skip ?_
        refine r_seq ?_
        refine r_block ?_
        refine r_seq ?_
        refine r_draw [84, 85, 86, 87, 88, 89, 90, 91, 92] _ rfl (stg_mem (V := [(0, 84, _), (1, 85, _), (2, 86, _), (3, 87, _), (4, 88, _), (5, 89, _)]) [0, 1, 2, 3, 4, 5] 6 [6, 5, 4, 3, 2] [] (fun v90 => []) rfl rfl (prs_cons (pri rfl (p_field0 fo59_2 rfl)) (prs_cons (pri rfl (p_load1 t28 rfl rfl (g_row1 (k := 5) rfl rfl))) (prs_cons (pri rfl (p_idx_arr1 (j := 8) Try.underlying103 t3 rfl rfl (by rfl) (by decide))) (prs_cons (pri rfl (p_load1 t3 rfl rfl (g_arr1 (k := 3) rfl (by omega)))) (prs_cons (pri rfl (p_move rfl)) (prs_cons (pri rfl (p_bin rfl rfl (b_shr (by omega) (by first | decide | (simp [IntKind.bits]; omega)) rfl))) prs_nil)))))) rfl rfl rfl rfl rfl rfl rfl rfl rfl rfl rfl (fun _ _ => rfl) rfl (ms_bslice1 eI _ Try.underlying28 t3 rfl (by decide) (by decide) rfl rfl rfl) (fun v90 _ => stg_mem [0, 1] 7 [7, 6, 5, 4, 3, 2, 1, 0] [8] (fun v91 => [(8, 92, _)]) rfl rfl (prs_cons (pri rfl (p_field0 fo59_2 rfl)) (prs_cons (pri rfl (p_load1 t28 rfl rfl (g_row1 (k := 5) rfl rfl))) prs_nil)) rfl rfl rfl rfl rfl rfl rfl rfl rfl rfl rfl (fun _ _ => rfl) rfl (ms_append 60 Try.underlying28 t3 rfl (by decide) (fun _ => rfl) (fun _ => rfl) rfl rfl rfl (hs_own (k := 90) rfl) (by simp only [List.length_map, List.length_range, List.length_cons, List.length_nil]; omega) (by unfold maxLen; simp only [List.length_map, List.length_range, List.length_cons, List.length_nil]; omega)) (fun v91 _ => stg_mem0 [8] 9 [9, 8, 7, 6, 5, 4, 3, 2, 1, 0] [] (fun _ => []) rfl rfl (prs_cons (pri rfl (p_field0 fo59_2 rfl)) prs_nil) rfl rfl rfl rfl rfl rfl rfl rfl rfl (fun _ _ => rfl) rfl (ms_store_row (k := 5) t28 rfl rfl rfl rfl rfl rfl rfl rfl) (fun _ _ => stg_end [] rfl rfl prs_nil rfl rfl rfl ?_))))
        refine r_draw [93, 94, 95, 96, 97, 98, 99, 100, 101, 102, 103, 104, 105, 106, 107] _ rfl (stg_mem (V := [(0, 93, _), (1, 94, _), (2, 95, _), (3, 96, _), (4, 97, _), (5, 98, _), (6, 99, _), (7, 100, _), (8, 101, _), (9, 102, _), (10, 103, _)]) [0, 1, 2, 3, 4, 5, 6, 7, 8, 9, 10] 11 [11, 10, 9, 8, 7, 6, 5, 4, 3, 2] [] (fun _ => []) rfl rfl (prs_cons (pri rfl (p_field0 fo59_3 rfl)) (prs_cons (pri rfl (p_load1 t41 rfl rfl (g_row1 (k := 5) rfl rfl))) (prs_cons (pri rfl (p_idx_arr1 (j := 8) Try.underlying103 t3 rfl rfl (by rfl) (by decide))) (prs_cons (pri rfl (p_load1 t3 rfl rfl (g_arr1 (k := 3) rfl (by omega)))) (prs_cons (pri rfl (p_move rfl)) (prs_cons (pri rfl (p_bin rfl rfl (b_add rfl))) (prs_cons (pri rfl (p_conv Try.underlying3 Try.underlying32 rfl (by first | exact w_u32 (by omega) (by omega) | rfl))) (prs_cons (pri rfl (p_idx_arr1 (j := 9) Try.underlying103 t3 rfl rfl (by rfl) (by decide))) (prs_cons (pri rfl (p_load1 t3 rfl rfl (g_arr1 (k := 3) rfl (by omega)))) (prs_cons (pri rfl (p_bin rfl rfl (b_and (and65535 _)))) (prs_cons (pri rfl (p_bin rfl rfl (b_rem (by omega) (by first | exact tmod_pos (by omega) | rfl)))) prs_nil))))))))))) rfl rfl rfl rfl rfl rfl rfl rfl rfl rfl rfl (fun _ _ => rfl) rfl (ms_call (xs := [.tmp 99, .tmp 103]) (fill_spec (IntKind.u32.wrap (IntKind.i64.wrap (xq q 8 + k))) (xq q 9 % 65536 % 81) (by omega) (by omega)) cb18 [] [] [] [] rfl rfl rfl rfl rfl rfl rfl rfl (fun _ _ => rfl) (fun _ _ _ => rfl)) (fun _ _ => stg_mem [0, 1] 12 [12, 11, 10, 9, 8, 7, 6, 5, 4, 3, 2] [] (fun v105 => []) rfl rfl (prs_cons (pri rfl (p_field0 fo59_3 rfl)) (prs_cons (pri rfl (p_load1 t41 rfl rfl (g_row1 (k := 5) rfl rfl))) prs_nil)) rfl rfl rfl rfl rfl rfl rfl rfl rfl rfl rfl (fun _ _ => rfl) rfl (ms_bslice1 eS _ Try.underlying41 t9 rfl (by decide) (by decide) rfl rfl rfl) (fun v105 _ => stg_mem [0, 1] 13 [13, 12, 11, 10, 9, 8, 7, 6, 5, 4, 3, 2, 1, 0] [14] (fun v106 => [(14, 107, _)]) rfl rfl (prs_cons (pri rfl (p_field0 fo59_3 rfl)) (prs_cons (pri rfl (p_load1 t41 rfl rfl (g_row1 (k := 5) rfl rfl))) prs_nil)) rfl rfl rfl rfl rfl rfl rfl rfl rfl rfl rfl (fun _ _ => rfl) rfl (ms_append 61 Try.underlying41 t9 rfl (by decide) (fun _ => rfl) (fun _ => rfl) rfl rfl rfl (hs_own (k := 105) rfl) (by simp only [List.length_map, List.length_range, List.length_cons, List.length_nil]; omega) (by unfold maxLen; simp only [List.length_map, List.length_range, List.length_cons, List.length_nil]; omega)) (fun v106 _ => stg_mem0 [14] 15 [15, 14, 13, 12, 11, 10, 9, 8, 7, 6, 5, 4, 3, 2, 1, 0] [] (fun _ => []) rfl rfl (prs_cons (pri rfl (p_field0 fo59_3 rfl)) prs_nil) rfl rfl rfl rfl rfl rfl rfl rfl rfl (fun _ _ => rfl) rfl (ms_store_row (k := 5) t41 rfl rfl rfl rfl rfl rfl rfl rfl) (fun _ _ => stg_end [] rfl rfl prs_nil rfl rfl rfl ?_)))))
        refine r_region ?_
        refine r_p (p_move rfl) rfl ?_
        refine r_p (p_bin rfl rfl (b_add (by first | exact w_i64 (by omega) (by omega) | rfl))) rfl ?_
        refine r_p (p_assign rfl) rfl ?_
        refine r_nil ?_
        refine r_here (k + 1, v91, v106) ⟨by dsimp only; omega, by dsimp only; omega⟩ rfl (by rw [map_snoc, map_snoc]; rfl) rfl
      · (try simp only [decide_eq_true_eq, decide_eq_false_iff_not, Bool.and_eq_true, Bool.or_eq_true, Bool.and_eq_false_iff, Bool.or_eq_false_iff, Bool.not_eq_true, Bool.not_eq_false, Bool.not_eq_true', Bool.not_eq_false', Bool.not_not, bne_iff_ne, beq_iff_eq] at h7)
        have hk : k = m3 q := by unfold m3 at hk0 ⊢; omega
        subst hk
        refine r_exit ?_
        refine r_seq ?_
        refine r_seq ?_
        refine r_region ?_
        refine r_p (p_assign rfl) rfl ?_
        refine r_nil ?_
        refine r_block ?_
        refine r_loop (X := Nat × SV) (fun x => x.1 ≤ m4 q) (fun x => [(2, .pointer (some ⟨b2, 0, none⟩)), (3, .pointer (some ⟨b3, 0, none⟩)), (5, .pointer (some ⟨b5, 0, none⟩)), (8, .int .i64 (x.1 : Int))]) (fun x => [(2, row b2 59 (snC zSp)), (3, arr b3 103 12 (xv q)), (5, row b5 59 (snC (mkS q 16 (mC q) ((List.range (m3 q)).map (fR q)) ((List.range (m3 q)).map (fD q)) ((List.range x.1).map (fC q)) [] [] y.1 y.2 x.2 nilS nilS))), (60, own 3 1 eI (sv y.1) ((List.range (m3 q)).map (fR q))), (61, own 9 1 eS (sv y.2) ((List.range (m3 q)).map (fD q))), (62, own 9 1 eS (sv x.2) ((List.range x.1).map (fC q))), (63, own 32 1 eU (sv nilS) []), (64, own 32 1 eU (sv nilS) [])]) (fun x => []) (fun x => m4 q - x.1) (0, nilS) (Nat.zero_le _) rfl rfl rfl (fun x hk0 => ?_)
        obtain ⟨k, y4⟩ := x
        dsimp only at hk0 ⊢
        refine r_seq ?_
        refine r_seq ?_
        refine r_region ?_
        refine r_p (p_move rfl) rfl ?_
        refine r_p (p_idx_arr1 (j := 7) Try.underlying103 t3 rfl rfl (by rfl) (by decide)) rfl ?_
        refine r_p (p_load1 t3 rfl rfl (g_arr1 (k := 3) rfl (by omega))) rfl ?_
        refine r_p (p_bin rfl rfl (b_shr (c := xq q 7 / 4) (by decide) (by decide) rfl)) rfl ?_
        refine r_p (p_bin rfl rfl (b_and (and3 _))) rfl ?_
        refine r_p (p_bin rfl rfl b_lt) rfl ?_
        refine r_nil ?_
        refine r_cond rfl (fun h8 => ?_) (fun h8 => ?_)
        · (try simp only [decide_eq_true_eq, decide_eq_false_iff_not, Bool.and_eq_true, Bool.or_eq_true, Bool.and_eq_false_iff, Bool.or_eq_false_iff, Bool.not_eq_true, Bool.not_eq_false, Bool.not_eq_true', Bool.not_eq_false', Bool.not_not, bne_iff_ne, beq_iff_eq] at h8)
          have hk : k < m4 q := by unfold m4; omega
          have hmb : m4 q ≤ 7 := by unfold m4; omega
          refine r_skip ?_
          refine r_seq ?_
          refine r_block ?_
          refine r_draw [116, 117, 118, 119, 120, 121, 122, 123, 124, 125, 126, 127, 128, 129, 130] _ rfl (stg_mem (V := [(0, 116, _), (1, 117, _), (2, 118, _), (3, 119, _), (4, 120, _), (5, 121, _), (6, 122, _), (7, 123, _), (8, 124, _), (9, 125, _), (10, 126, _)]) [0, 1, 2, 3, 4, 5, 6, 7, 8, 9, 10] 11 [11, 10, 9, 8, 7, 6, 5, 4, 3, 2] [] (fun _ => []) rfl rfl (prs_cons (pri rfl (p_field0 fo59_4 rfl)) (prs_cons (pri rfl (p_load1 t41 rfl rfl (g_row1 (k := 5) rfl rfl))) (prs_cons (pri rfl (p_idx_arr1 (j := 9) Try.underlying103 t3 rfl rfl (by rfl) (by decide))) (prs_cons (pri rfl (p_load1 t3 rfl rfl (g_arr1 (k := 3) rfl (by omega)))) (prs_cons (pri rfl (p_move rfl)) (prs_cons (pri rfl (p_bin rfl rfl (b_sub rfl))) (prs_cons (pri rfl (p_conv Try.underlying3 Try.underlying32 rfl (by first | exact w_u32 (by omega) (by omega) | rfl))) (prs_cons (pri rfl (p_idx_arr1 (j := 8) Try.underlying103 t3 rfl rfl (by rfl) (by decide))) (prs_cons (pri rfl (p_load1 t3 rfl rfl (g_arr1 (k := 3) rfl (by omega)))) (prs_cons (pri rfl (p_bin rfl rfl (b_and (and65535 _)))) (prs_cons (pri rfl (p_bin rfl rfl (b_rem (by omega) (by first | exact tmod_pos (by omega) | rfl)))) prs_nil))))))))))) rfl rfl rfl rfl rfl rfl rfl rfl rfl rfl rfl (fun _ _ => rfl) rfl (ms_call (xs := [.tmp 122, .tmp 126]) (fill_spec (IntKind.u32.wrap (IntKind.i64.wrap (xq q 9 - k))) (xq q 8 % 65536 % 81) (by omega) (by omega)) cb18 [] [] [] [] rfl rfl rfl rfl rfl rfl rfl rfl (fun _ _ => rfl) (fun _ _ _ => rfl)) (fun _ _ => stg_mem [0, 1] 12 [12, 11, 10, 9, 8, 7, 6, 5, 4, 3, 2] [] (fun v128 => []) rfl rfl (prs_cons (pri rfl (p_field0 fo59_4 rfl)) (prs_cons (pri rfl (p_load1 t41 rfl rfl (g_row1 (k := 5) rfl rfl))) prs_nil)) rfl rfl rfl rfl rfl rfl rfl rfl rfl rfl rfl (fun _ _ => rfl) rfl (ms_bslice1 eS _ Try.underlying41 t9 rfl (by decide) (by decide) rfl rfl rfl) (fun v128 _ => stg_mem [0, 1] 13 [13, 12, 11, 10, 9, 8, 7, 6, 5, 4, 3, 2, 1, 0] [14] (fun v129 => [(14, 130, _)]) rfl rfl (prs_cons (pri rfl (p_field0 fo59_4 rfl)) (prs_cons (pri rfl (p_load1 t41 rfl rfl (g_row1 (k := 5) rfl rfl))) prs_nil)) rfl rfl rfl rfl rfl rfl rfl rfl rfl rfl rfl (fun _ _ => rfl) rfl (ms_append 62 Try.underlying41 t9 rfl (by decide) (fun _ => rfl) (fun _ => rfl) rfl rfl rfl (hs_own (k := 128) rfl) (by simp only [List.length_map, List.length_range, List.length_cons, List.length_nil]; omega) (by unfold maxLen; simp only [List.length_map, List.length_range, List.length_cons, List.length_nil]; omega)) (fun v129 _ => stg_mem0 [14] 15 [15, 14, 13, 12, 11, 10, 9, 8, 7, 6, 5, 4, 3, 2, 1, 0] [] (fun _ => []) rfl rfl (prs_cons (pri rfl (p_field0 fo59_4 rfl)) prs_nil) rfl rfl rfl rfl rfl rfl rfl rfl rfl (fun _ _ => rfl) rfl (ms_store_row (k := 5) t41 rfl rfl rfl rfl rfl rfl rfl rfl) (fun _ _ => stg_end [] rfl rfl prs_nil rfl rfl rfl ?_)))))
          refine r_region ?_
          refine r_p (p_move rfl) rfl ?_
          refine r_p (p_bin rfl rfl (b_add (by first | exact w_i64 (by omega) (by omega) | rfl))) rfl ?_
          refine r_p (p_assign rfl) rfl ?_
          refine r_nil ?_
          refine r_here (k + 1, v129) ⟨by dsimp only; omega, by dsimp only; omega⟩ rfl (by rw [map_snoc k (fC q)]; rfl) rfl
        · (try simp only [decide_eq_true_eq, decide_eq_false_iff_not, Bool.and_eq_true, Bool.or_eq_true, Bool.and_eq_false_iff, Bool.or_eq_false_iff, Bool.not_eq_true, Bool.not_eq_false, Bool.not_eq_true', Bool.not_eq_false', Bool.not_not, bne_iff_ne, beq_iff_eq] at h8)
          have hk : k = m4 q := by unfold m4 at hk0 ⊢; omega
          subst hk
          refine r_exit ?_
          refine r_seq ?_
          refine r_seq ?_
          refine r_region ?_
          refine r_p (p_assign rfl) rfl ?_
          refine r_nil ?_
          refine r_block ?_
          refine r_loop (X := Nat × SV) (fun x => x.1 ≤ m5 q) (fun x => [(2, .pointer (some ⟨b2, 0, none⟩)), (3, .pointer (some ⟨b3, 0, none⟩)), (5, .pointer (some ⟨b5, 0, none⟩)), (9, .int .i64 (x.1 : Int))]) (fun x => [(2, row b2 59 (snC zSp)), (3, arr b3 103 12 (xv q)), (5, row b5 59 (snC (mkS q 16 (mC q) ((List.range (m3 q)).map (fR q)) ((List.range (m3 q)).map (fD q)) ((List.range (m4 q)).map (fC q)) ((List.range x.1).map (fI q)) [] y.1 y.2 y4 x.2 nilS))), (60, own 3 1 eI (sv y.1) ((List.range (m3 q)).map (fR q))), (61, own 9 1 eS (sv y.2) ((List.range (m3 q)).map (fD q))), (62, own 9 1 eS (sv y4) ((List.range (m4 q)).map (fC q))), (63, own 32 1 eU (sv x.2) ((List.range x.1).map (fI q))), (64, own 32 1 eU (sv nilS) [])]) (fun x => []) (fun x => m5 q - x.1) (0, nilS) (Nat.zero_le _) rfl rfl rfl (fun x hk0 => ?_)
          obtain ⟨k, y5⟩ := x
          dsimp only at hk0 ⊢
          refine r_seq ?_
          refine r_seq ?_
          refine r_region ?_
          refine r_p (p_move rfl) rfl ?_
          refine r_p (p_idx_arr1 (j := 10) Try.underlying103 t3 rfl rfl (by rfl) (by decide)) rfl ?_
          refine r_p (p_load1 t3 rfl rfl (g_arr1 (k := 3) rfl (by omega))) rfl ?_
          refine r_p (p_bin rfl rfl (b_and (and7 _))) rfl ?_
          refine r_p (p_bin rfl rfl b_lt) rfl ?_
          refine r_nil ?_
          refine r_cond rfl (fun h9 => ?_) (fun h9 => ?_)
          · (try simp only [decide_eq_true_eq, decide_eq_false_iff_not, Bool.and_eq_true, Bool.or_eq_true, Bool.and_eq_false_iff, Bool.or_eq_false_iff, Bool.not_eq_true, Bool.not_eq_false, Bool.not_eq_true', Bool.not_eq_false', Bool.not_not, bne_iff_ne, beq_iff_eq] at h9)
            have hk : k < m5 q := by unfold m5; omega
            have hmb : m5 q ≤ 7 := by unfold m5; omega
            refine r_skip ?_
            refine r_seq ?_
            refine r_block ?_
            refine r_region ?_
            refine r_p (p_field0 fo59_5 rfl) rfl ?_
            refine r_p (p_load1 t57 rfl rfl (g_row1 (k := 5) rfl rfl)) rfl ?_
            refine r_p (p_idx_arr1 (j := 11) Try.underlying103 t3 rfl rfl (by rfl) (by decide)) rfl ?_
            refine r_p (p_load1 t3 rfl rfl (g_arr1 (k := 3) rfl (by omega))) rfl ?_
            refine r_p (p_move rfl) rfl ?_
            refine r_p (p_bin rfl rfl (b_add rfl)) rfl ?_
            refine r_p (p_conv Try.underlying3 Try.underlying32 rfl (by first | exact w_u32 (by omega) (by omega) | rfl)) rfl ?_
            refine r_bslice1 eU _ Try.underlying57 t32 rfl (by decide) (by decide) rfl rfl rfl rfl fun v145 => ?_
            refine r_append 63 Try.underlying57 t32 rfl (by decide) (fun _ => rfl) (fun _ => rfl) rfl rfl rfl (hs_own (k := 145) rfl) (by simp only [List.length_map, List.length_range, List.length_cons, List.length_nil]; omega) (by unfold maxLen; simp only [List.length_map, List.length_range, List.length_cons, List.length_nil]; omega) rfl fun v146 => ?_
            refine r_p (p_field0 fo59_5 rfl) rfl ?_
            refine r_store_row (k := 5) t57 rfl rfl rfl rfl rfl rfl rfl rfl ?_
            refine r_nil ?_
            refine r_region ?_
            refine r_p (p_move rfl) rfl ?_
            refine r_p (p_bin rfl rfl (b_add (by first | exact w_i64 (by omega) (by omega) | rfl))) rfl ?_
            refine r_p (p_assign rfl) rfl ?_
            refine r_nil ?_
            refine r_here (k + 1, v146) ⟨by dsimp only; omega, by dsimp only; omega⟩ rfl (by rw [map_snoc k (fI q)]; rfl) rfl
          · (try simp only [decide_eq_true_eq, decide_eq_false_iff_not, Bool.and_eq_true, Bool.or_eq_true, Bool.and_eq_false_iff, Bool.or_eq_false_iff, Bool.not_eq_true, Bool.not_eq_false, Bool.not_eq_true', Bool.not_eq_false', Bool.not_not, bne_iff_ne, beq_iff_eq] at h9)
            have hk : k = m5 q := by unfold m5 at hk0 ⊢; omega
            subst hk
            refine r_exit ?_
            refine r_seq ?_
            refine r_seq ?_
            refine r_region ?_
            refine r_p (p_assign rfl) rfl ?_
            refine r_nil ?_
            refine r_block ?_
            refine r_loop (X := Nat × SV) (fun x => x.1 ≤ m6 q) (fun x => [(2, .pointer (some ⟨b2, 0, none⟩)), (3, .pointer (some ⟨b3, 0, none⟩)), (5, .pointer (some ⟨b5, 0, none⟩)), (10, .int .i64 (x.1 : Int))]) (fun x => [(2, row b2 59 (snC zSp)), (3, arr b3 103 12 (xv q)), (5, row b5 59 (snC (mkS q 16 (mC q) ((List.range (m3 q)).map (fR q)) ((List.range (m3 q)).map (fD q)) ((List.range (m4 q)).map (fC q)) ((List.range (m5 q)).map (fI q)) ((List.range x.1).map (fO q)) y.1 y.2 y4 y5 x.2))), (60, own 3 1 eI (sv y.1) ((List.range (m3 q)).map (fR q))), (61, own 9 1 eS (sv y.2) ((List.range (m3 q)).map (fD q))), (62, own 9 1 eS (sv y4) ((List.range (m4 q)).map (fC q))), (63, own 32 1 eU (sv y5) ((List.range (m5 q)).map (fI q))), (64, own 32 1 eU (sv x.2) ((List.range x.1).map (fO q)))]) (fun x => []) (fun x => m6 q - x.1) (0, nilS) (Nat.zero_le _) rfl rfl rfl (fun x hk0 => ?_)
            obtain ⟨k, y6⟩ := x
            dsimp only at hk0 ⊢
            refine r_seq ?_
            refine r_seq ?_
            refine r_region ?_
            refine r_p (p_move rfl) rfl ?_
            refine r_p (p_idx_arr1 (j := 10) Try.underlying103 t3 rfl rfl (by rfl) (by decide)) rfl ?_
            refine r_p (p_load1 t3 rfl rfl (g_arr1 (k := 3) rfl (by omega))) rfl ?_
            refine r_p (p_bin rfl rfl (b_shr (c := xq q 10 / 8) (by decide) (by decide) rfl)) rfl ?_
            refine r_p (p_bin rfl rfl (b_and (and7 _))) rfl ?_
            refine r_p (p_bin rfl rfl b_lt) rfl ?_
            refine r_nil ?_
            refine r_cond rfl (fun h10 => ?_) (fun h10 => ?_)
            · (try simp only [decide_eq_true_eq, decide_eq_false_iff_not, Bool.and_eq_true, Bool.or_eq_true, Bool.and_eq_false_iff, Bool.or_eq_false_iff, Bool.not_eq_true, Bool.not_eq_false, Bool.not_eq_true', Bool.not_eq_false', Bool.not_not, bne_iff_ne, beq_iff_eq] at h10)
              have hk : k < m6 q := by unfold m6; omega
              have hmb : m6 q ≤ 7 := by unfold m6; omega
              refine r_skip ?_
              refine r_seq ?_
              refine r_block ?_
              refine r_region ?_
              refine r_p (p_field0 fo59_6 rfl) rfl ?_
              refine r_p (p_load1 t57 rfl rfl (g_row1 (k := 5) rfl rfl)) rfl ?_
              refine r_p (p_idx_arr1 (j := 11) Try.underlying103 t3 rfl rfl (by rfl) (by decide)) rfl ?_
              refine r_p (p_load1 t3 rfl rfl (g_arr1 (k := 3) rfl (by omega))) rfl ?_
              refine r_p (p_conv Try.underlying3 Try.underlying32 rfl (by first | exact w_u32 (by omega) (by omega) | rfl)) rfl ?_
              refine r_p (p_move rfl) rfl ?_
              refine r_p (p_conv Try.underlying3 Try.underlying32 rfl (by first | exact w_u32 (by omega) (by omega) | rfl)) rfl ?_
              refine r_p (p_bin rfl rfl (b_mul rfl)) rfl ?_
              refine r_bslice1 eU _ Try.underlying57 t32 rfl (by decide) (by decide) rfl rfl rfl rfl fun v164 => ?_
              refine r_append 64 Try.underlying57 t32 rfl (by decide) (fun _ => rfl) (fun _ => rfl) rfl rfl rfl (hs_own (k := 164) rfl) (by simp only [List.length_map, List.length_range, List.length_cons, List.length_nil]; omega) (by unfold maxLen; simp only [List.length_map, List.length_range, List.length_cons, List.length_nil]; omega) rfl fun v165 => ?_
              refine r_p (p_field0 fo59_6 rfl) rfl ?_
              refine r_store_row (k := 5) t57 rfl rfl rfl rfl rfl rfl rfl rfl ?_
              refine r_nil ?_
              refine r_region ?_
              refine r_p (p_move rfl) rfl ?_
              refine r_p (p_bin rfl rfl (b_add (by first | exact w_i64 (by omega) (by omega) | rfl))) rfl ?_
              refine r_p (p_assign rfl) rfl ?_
              refine r_nil ?_
              refine r_here (k + 1, v165) ⟨by dsimp only; omega, by dsimp only; omega⟩ rfl (by rw [map_snoc k (fO q)]; rfl) rfl
            · (try simp only [decide_eq_true_eq, decide_eq_false_iff_not, Bool.and_eq_true, Bool.or_eq_true, Bool.and_eq_false_iff, Bool.or_eq_false_iff, Bool.not_eq_true, Bool.not_eq_false, Bool.not_eq_true', Bool.not_eq_false', Bool.not_not, bne_iff_ne, beq_iff_eq] at h10)
              have hk : k = m6 q := by unfold m6 at hk0 ⊢; omega
              subst hk
              refine r_exit ?_
              refine r_seq ?_
              refine r_region ?_
              refine r_p (p_loadA t59 rfl rfl rfl (g_all (k := 5) rfl)) rfl ?_
              refine r_store_all (k := 2) t59 rfl rfl rfl rfl rfl rfl ?_
              refine r_nil ?_
              refine r_cret ?_
              refine r_freeze 60 60 rfl own_to_sl ?_
              refine r_freeze 61 61 rfl own_to_sl ?_
              refine r_freeze 62 62 rfl own_to_sl ?_
              refine r_freeze 63 63 rfl own_to_sl ?_
              refine r_freeze 64 64 rfl own_to_sl ?_
              refine r_mkSn 60 61 62 63 64 90 (x := madeS q y.1 y.2 y4 y5 y6) rfl rfl rfl rfl rfl ?_
              refine r_ret (madeS q y.1 y.2 y4 y5 y6) ⟨y.1, y.2, y4, y5, y6, rfl⟩ rfl (rs1 (rv_cellA t59 rfl rfl rfl (g_all (k := 2) rfl))) rfl [] [90] rfl rfl rfl

end Go.Proofs.Ytohenjmkhncoiaa
