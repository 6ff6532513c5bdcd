/-
  The walk of JournalBytes. Condition: the numbers are of 64 bits.
-/
import Derived.Test.YtohenjmkhncoiaaP2
namespace Go.Proofs.Ytohenjmkhncoiaa
set_option linter.unusedSimpArgs false
set_option linter.unusedVariables false
open Go.RowKit

def szs (l : List ByteArray) : Nat := (l.map ByteArray.size).sum
theorem szs_snoc (l : List ByteArray) (k : Nat) (hk : k < l.length) : szs (l.take (k + 1)) = szs (l.take k) + (l.getD k ByteArray.empty).size := by
  unfold szs
  rw [List.take_add_one, List.map_append, List.sum_append, List.getElem?_eq_getElem hk]
  simp [List.getD_eq_getElem?_getD, List.getElem?_eq_getElem hk]
theorem fm_szs (l : List ByteArray) : (l.flatMap eSt).length = 8 * l.length + szs l := by
  induction l with
  | nil => rfl
  | cons s l ih =>
    rw [List.flatMap_cons, List.length_append, eSt_len, ih, List.length_cons]
    unfold szs
    rw [List.map_cons, List.sum_cons]
    omega
theorem szs_le (l : List ByteArray) (k : Nat) : szs (l.take k) ≤ szs l := by
  have h := fm_le eSt l k
  rw [fm_szs, fm_szs, List.length_take] at h
  have : szs l = szs (l.take k) + szs (l.drop k) := by
    unfold szs
    rw [← List.sum_append, ← List.map_append, List.take_append_drop]
  omega
def wgt (x : Sp) : Nat := 300 + 12 * (x.rights.length + x.data.length + x.code.length + x.inputs.length + x.outputs.length) + szs x.data + szs x.code
theorem wgt_ge (x : Sp) : (eSn x.sn).length ≤ wgt x := by
  rw [eSn_len, fm_szs, fm_szs]
  unfold wgt
  omega

set_option maxHeartbeats 1000000 in
set_option maxRecDepth 100000 in
theorem weight_spec (x : Sp) (hlen : (eSn x.sn).length ≤ 100000) :
    Spec Try.prog 35 [snV x] [] [snA x] (X := Unit) (fun _ => True) (fun _ => .int .i64 (wgt x : Int)) (fun _ => []) (fun _ => []) := by
  refine r_enter Try.func35 rfl Try.ntmps35 rfl fun w0 M H => ?_
  refine r_more 0 10 rfl snA_r ?_
  refine r_more 0 11 rfl snA_d ?_
  refine r_more 0 12 rfl snA_c ?_
  refine r_more 0 13 rfl snA_i ?_
  refine r_more 0 14 rfl snA_o ?_
  have hl := hlen
  rw [eSn_len, fm_szs, fm_szs] at hl
  refine r_seq ?_
  refine r_region ?_
  refine r_boxA rfl rfl fun b1 => ?_
  refine r_p (p_assign rfl) rfl ?_
  refine r_nil ?_
  refine r_seq ?_
  refine r_region ?_
  refine r_p (p_field0 fo59_2 rfl) rfl ?_
  refine r_p (p_load1 t28 rfl rfl (g_row1 (k := 1) rfl rfl)) rfl ?_
  refine r_p (p_len_sl Try.underlying28 rfl (hs_sl (k := 10) rfl)) rfl ?_
  refine r_p (p_field0 fo59_3 rfl) rfl ?_
  refine r_p (p_load1 t41 rfl rfl (g_row1 (k := 1) rfl rfl)) rfl ?_
  refine r_p (p_len_sl Try.underlying41 rfl (hs_sl (k := 11) rfl)) rfl ?_
  refine r_p (p_bin rfl rfl (b_add (by first | exact w_i64 (by omega) (by omega) | rfl))) rfl ?_
  refine r_p (p_field0 fo59_4 rfl) rfl ?_
  refine r_p (p_load1 t41 rfl rfl (g_row1 (k := 1) rfl rfl)) rfl ?_
  refine r_p (p_len_sl Try.underlying41 rfl (hs_sl (k := 12) rfl)) rfl ?_
  refine r_p (p_bin rfl rfl (b_add (by first | exact w_i64 (by omega) (by omega) | rfl))) rfl ?_
  refine r_p (p_field0 fo59_5 rfl) rfl ?_
  refine r_p (p_load1 t57 rfl rfl (g_row1 (k := 1) rfl rfl)) rfl ?_
  refine r_p (p_len_sl Try.underlying57 rfl (hs_sl (k := 13) rfl)) rfl ?_
  refine r_p (p_bin rfl rfl (b_add (by first | exact w_i64 (by omega) (by omega) | rfl))) rfl ?_
  refine r_p (p_field0 fo59_6 rfl) rfl ?_
  refine r_p (p_load1 t57 rfl rfl (g_row1 (k := 1) rfl rfl)) rfl ?_
  refine r_p (p_len_sl Try.underlying57 rfl (hs_sl (k := 14) rfl)) rfl ?_
  refine r_p (p_bin rfl rfl (b_add (by first | exact w_i64 (by omega) (by omega) | rfl))) rfl ?_
  refine r_p (p_bin rfl rfl (b_mul (by first | exact w_i64 (by omega) (by omega) | rfl))) rfl ?_
  refine r_p (p_bin rfl rfl (b_add (by first | exact w_i64 (by omega) (by omega) | rfl))) rfl ?_
  refine r_p (p_assign rfl) rfl ?_
  refine r_nil ?_
  refine r_seq ?_
  refine r_seq ?_
  refine r_region ?_
  refine r_p (p_assign rfl) rfl ?_
  refine r_nil ?_
  refine r_block ?_
  refine r_loop (X := Nat) (fun k => k ≤ x.data.length) (fun k => [(1, .pointer (some ⟨b1, 0, none⟩)), (3, .int .i64 (((300 + 12 * (x.rights.length + x.data.length + x.code.length + x.inputs.length + x.outputs.length)) + szs (x.data.take k) : Nat) : Int)), (4, .int .i64 (k : Int))]) (fun k => [(1, row b1 59 (snC x))]) (fun k => [(10, sl 1 eI (sv x.vr) x.rights), (11, sl 1 eS (sv x.vd) x.data), (12, sl 1 eS (sv x.vc) x.code), (13, sl 1 eU (sv x.vi) x.inputs), (14, sl 1 eU (sv x.vo) x.outputs)]) (fun k => x.data.length - k) 0 (Nat.zero_le _) (by rw [show (((300 + 12 * (x.rights.length + x.data.length + x.code.length + x.inputs.length + x.outputs.length)) + szs (x.data.take 0) : Nat) : Int) = 300 + 12 * ((x.rights.length : Int) + (x.data.length : Int) + (x.code.length : Int) + (x.inputs.length : Int) + (x.outputs.length : Int)) by simp [szs]]; rfl) rfl rfl (fun k hk0 => ?_)
  have hsl := szs_le x.data k
  refine r_seq ?_
  refine r_seq ?_
  refine r_region ?_
  refine r_p (p_move rfl) rfl ?_
  refine r_p (p_field0 fo59_3 rfl) rfl ?_
  refine r_p (p_load1 t41 rfl rfl (g_row1 (k := 1) rfl rfl)) rfl ?_
  refine r_p (p_len_sl Try.underlying41 rfl (hs_sl (k := 11) rfl)) rfl ?_
  refine r_p (p_bin rfl rfl b_lt) rfl ?_
  refine r_nil ?_
  refine r_cond rfl (fun h1 => ?_) (fun h1 => ?_)
  · (try simp only [decide_eq_true_eq, decide_eq_false_iff_not, Bool.and_eq_true, Bool.or_eq_true, Bool.and_eq_false_iff, Bool.or_eq_false_iff, Bool.not_eq_true, Bool.not_eq_false, Bool.not_eq_true', Bool.not_eq_false', Bool.not_not, bne_iff_ne, beq_iff_eq] at h1)
    have hk : k < x.data.length := by omega
    have hsn := szs_snoc x.data k hk
    have hs2 := szs_le x.data (k + 1)
    refine r_skip ?_
    refine r_seq ?_
    refine r_block ?_
    refine r_region ?_
    refine r_p (p_move rfl) rfl ?_
    refine r_p (p_field0 fo59_3 rfl) rfl ?_
    refine r_p (p_load1 t41 rfl rfl (g_row1 (k := 1) rfl rfl)) rfl ?_
    refine r_p (p_move rfl) rfl ?_
    refine r_p (p_idx_sl (j := k) Try.underlying41 t9 rfl rfl (hs_sl (k := 11) rfl) (by first | rfl | omega) (by first | omega | (simp; done) | (simp; omega))) rfl ?_
    refine r_p (p_load1 t9 rfl rfl (g_el' (hs_sl (k := 11) rfl) (by intro _; rfl) (getD_get ByteArray.empty (by omega)) (by rfl))) rfl ?_
    refine r_p (p_len_str Try.underlying9 rfl) rfl ?_
    refine r_p (p_bin rfl rfl (b_add (by first | exact w_i64 (by omega) (by omega) | rfl))) rfl ?_
    refine r_p (p_assign rfl) rfl ?_
    refine r_nil ?_
    refine r_region ?_
    refine r_p (p_move rfl) rfl ?_
    refine r_p (p_bin rfl rfl (b_add (by first | exact w_i64 (by omega) (by omega) | rfl))) rfl ?_
    refine r_p (p_assign rfl) rfl ?_
    refine r_nil ?_
    refine r_here (k + 1) ⟨by omega, by omega⟩ (by rw [szs_snoc _ _ hk, show (((300 + 12 * (x.rights.length + x.data.length + x.code.length + x.inputs.length + x.outputs.length)) + (szs (x.data.take k) + (x.data.getD k ByteArray.empty).size) : Nat) : Int) = (((300 + 12 * (x.rights.length + x.data.length + x.code.length + x.inputs.length + x.outputs.length)) + szs (x.data.take k) : Nat) : Int) + ((x.data.getD k ByteArray.empty).size : Int) by omega]; rfl) rfl rfl
  · (try simp only [decide_eq_true_eq, decide_eq_false_iff_not, Bool.and_eq_true, Bool.or_eq_true, Bool.and_eq_false_iff, Bool.or_eq_false_iff, Bool.not_eq_true, Bool.not_eq_false, Bool.not_eq_true', Bool.not_eq_false', Bool.not_not, bne_iff_ne, beq_iff_eq] at h1)
    have hk : k = x.data.length := by omega
    subst hk
    rw [List.take_length]
    refine r_exit ?_
    refine r_seq ?_
    refine r_seq ?_
    refine r_region ?_
    refine r_p (p_assign rfl) rfl ?_
    refine r_nil ?_
    refine r_block ?_
    refine r_loop (X := Nat) (fun k => k ≤ x.code.length) (fun k => [(1, .pointer (some ⟨b1, 0, none⟩)), (3, .int .i64 (((300 + 12 * (x.rights.length + x.data.length + x.code.length + x.inputs.length + x.outputs.length)) + szs x.data + szs (x.code.take k) : Nat) : Int)), (5, .int .i64 (k : Int))]) (fun k => [(1, row b1 59 (snC x))]) (fun k => [(10, sl 1 eI (sv x.vr) x.rights), (11, sl 1 eS (sv x.vd) x.data), (12, sl 1 eS (sv x.vc) x.code), (13, sl 1 eU (sv x.vi) x.inputs), (14, sl 1 eU (sv x.vo) x.outputs)]) (fun k => x.code.length - k) 0 (Nat.zero_le _) (by rw [show x.code.take 0 = [] from rfl, show szs [] = 0 from rfl]; rfl) rfl rfl (fun k hk0 => ?_)
    have hsl := szs_le x.code k
    refine r_seq ?_
    refine r_seq ?_
    refine r_region ?_
    refine r_p (p_move rfl) rfl ?_
    refine r_p (p_field0 fo59_4 rfl) rfl ?_
    refine r_p (p_load1 t41 rfl rfl (g_row1 (k := 1) rfl rfl)) rfl ?_
    refine r_p (p_len_sl Try.underlying41 rfl (hs_sl (k := 12) rfl)) rfl ?_
    refine r_p (p_bin rfl rfl b_lt) rfl ?_
    refine r_nil ?_
    refine r_cond rfl (fun h2 => ?_) (fun h2 => ?_)
    · (try simp only [decide_eq_true_eq, decide_eq_false_iff_not, Bool.and_eq_true, Bool.or_eq_true, Bool.and_eq_false_iff, Bool.or_eq_false_iff, Bool.not_eq_true, Bool.not_eq_false, Bool.not_eq_true', Bool.not_eq_false', Bool.not_not, bne_iff_ne, beq_iff_eq] at h2)
      have hk : k < x.code.length := by omega
      have hsn := szs_snoc x.code k hk
      have hs2 := szs_le x.code (k + 1)
      refine r_skip ?_
      refine r_seq ?_
      refine r_block ?_
      refine r_region ?_
      refine r_p (p_move rfl) rfl ?_
      refine r_p (p_field0 fo59_4 rfl) rfl ?_
      refine r_p (p_load1 t41 rfl rfl (g_row1 (k := 1) rfl rfl)) rfl ?_
      refine r_p (p_move rfl) rfl ?_
      refine r_p (p_idx_sl (j := k) Try.underlying41 t9 rfl rfl (hs_sl (k := 12) rfl) (by first | rfl | omega) (by first | omega | (simp; done) | (simp; omega))) rfl ?_
      refine r_p (p_load1 t9 rfl rfl (g_el' (hs_sl (k := 12) rfl) (by intro _; rfl) (getD_get ByteArray.empty (by omega)) (by rfl))) rfl ?_
      refine r_p (p_len_str Try.underlying9 rfl) rfl ?_
      refine r_p (p_bin rfl rfl (b_add (by first | exact w_i64 (by omega) (by omega) | rfl))) rfl ?_
      refine r_p (p_assign rfl) rfl ?_
      refine r_nil ?_
      refine r_region ?_
      refine r_p (p_move rfl) rfl ?_
      refine r_p (p_bin rfl rfl (b_add (by first | exact w_i64 (by omega) (by omega) | rfl))) rfl ?_
      refine r_p (p_assign rfl) rfl ?_
      refine r_nil ?_
      refine r_here (k + 1) ⟨by omega, by omega⟩ (by rw [szs_snoc _ _ hk, show (((300 + 12 * (x.rights.length + x.data.length + x.code.length + x.inputs.length + x.outputs.length)) + szs x.data + (szs (x.code.take k) + (x.code.getD k ByteArray.empty).size) : Nat) : Int) = (((300 + 12 * (x.rights.length + x.data.length + x.code.length + x.inputs.length + x.outputs.length)) + szs x.data + szs (x.code.take k) : Nat) : Int) + ((x.code.getD k ByteArray.empty).size : Int) by omega]; rfl) rfl rfl
    · (try simp only [decide_eq_true_eq, decide_eq_false_iff_not, Bool.and_eq_true, Bool.or_eq_true, Bool.and_eq_false_iff, Bool.or_eq_false_iff, Bool.not_eq_true, Bool.not_eq_false, Bool.not_eq_true', Bool.not_eq_false', Bool.not_not, bne_iff_ne, beq_iff_eq] at h2)
      have hk : k = x.code.length := by omega
      subst hk
      rw [List.take_length]
      refine r_exit ?_
      refine r_seq ?_
      refine r_region ?_
      refine r_p (p_move rfl) rfl ?_
      refine r_p (p_assign rfl) rfl ?_
      refine r_nil ?_
      refine r_cret ?_
      refine r_ret () trivial rfl (rs1 (rv_tmp rfl)) rfl [] [] rfl rfl rfl
set_option maxHeartbeats 1000000 in
set_option maxRecDepth 100000 in
theorem bytes_law (v : SV) (q : List Int) (hq : ∀ x ∈ q, okI x) :
    Spec Try.prog 6 [sv v] [] [sl 1 eI (sv v) q] (X := Unit) (fun _ => True) (fun _ => .bool true) (fun _ => []) (fun _ => []) := by
  refine r_enter Try.func6 rfl Try.ntmps6 rfl fun w0 M H => ?_
  refine r_seq ?_
  refine r_region ?_
  refine r_p (p_assign rfl) rfl ?_
  refine r_nil ?_
  refine r_seq ?_
  refine r_region ?_
  refine r_call (xs := []) sanity_spec cb15 [] [] [] [] rfl rfl rfl rfl rfl rfl rfl rfl (fun _ _ => rfl) (fun _ _ _ => rfl) rfl (fun _ _ => ?_)
  refine r_p (p_assign rfl) rfl ?_
  refine r_nil ?_
  refine r_seq ?_
  refine r_region ?_
  refine r_p (p_move rfl) rfl ?_
  refine r_call (xs := [.tmp 9]) (made_spec v q) cb31 [] [(false, 0)] [] [50] rfl rfl rfl rfl rfl rfl rfl rfl (fun _ _ => rfl) (fun _ _ _ => rfl) rfl (fun xa hxa => ?_)
  obtain ⟨xa0, xa1, xa2, xa3, xa4, hxa⟩ := hxa
  have exa : xa.sn = madeF q := by rw [hxa]; exact madeS_sn _ _ _ _ _ _
  have oxa : xa.sn.Ok := by rw [exa]; exact made_ok _ (okI_xq hq)
  have lxa : (eSn xa.sn).length ≤ 1000 := by rw [exa]; exact made_len _
  have mxa : xa.Sm := Sp.Sm.of (by omega)
  clear hxa exa
  refine r_alloc t59 rfl rfl fun b4 => ?_
  refine r_store_all (k := 4) t59 rfl rfl rfl rfl rfl rfl ?_
  refine r_nil ?_
  refine r_seq ?_
  refine r_region ?_
  refine r_p (p_loadA t59 rfl rfl rfl (g_all (k := 4) rfl)) rfl ?_
  refine r_call (xs := [.tmp 11]) (bytes_spec xa oxa (by omega)) cb32 [] [(false, 50)] [] [] rfl rfl rfl rfl rfl rfl rfl rfl (fun _ _ => rfl) (fun _ _ _ => rfl) rfl (fun _ _ => ?_)
  refine r_p (p_assign rfl) rfl ?_
  refine r_nil ?_
  refine r_seq ?_
  refine r_region ?_
  refine r_p (p_move rfl) rfl ?_
  refine r_call (xs := [.tmp 14]) (read_spec33 (ofI (eSn xa.sn)) (by rw [ofI_size]; omega)) cb33 [] [] [] [51] rfl rfl rfl rfl rfl rfl rfl rfl (fun _ _ => rfl) (fun _ _ _ => rfl) rfl (fun z hz => ?_)
  unfold RdSn at hz
  rw [bytesI_ofI (iv_sn.by_ _ oxa), read_enc oxa] at hz
  obtain ⟨hz1, hz2⟩ := hz
  refine r_p (p_move rfl) rfl ?_
  refine r_p (p_extract rfl rfl) rfl ?_
  refine r_p (p_extract rfl rfl) rfl ?_
  refine r_alloc t59 rfl rfl fun b6 => ?_
  refine r_store_all (k := 6) t59 rfl rfl rfl rfl rfl rfl ?_
  refine r_p (p_assign rfl) rfl ?_
  refine r_nil ?_
  refine r_seq ?_
  refine r_region ?_
  refine r_p (p_move rfl) rfl ?_
  refine r_p (p_move rfl) rfl ?_
  refine r_split (t := 19) rfl (fun h1 => ?_) (fun h1 => False.elim (by simp at h1))
  refine r_gyes rfl rfl ?_
  refine r_p (p_move rfl) rfl ?_
  refine r_gyes rfl rfl ?_
  refine r_p (p_bin rfl rfl b_eq) rfl ?_
  refine r_p (p_pick rfl rfl rfl (by first | exact pick_and | exact pick_or |  rfl)) rfl ?_
  refine r_p (p_move rfl) rfl ?_
  refine r_split (t := 23) rfl (fun h2 => ?_) (fun h2 => False.elim (by simp [hz2] at h2))
  refine r_gyes rfl rfl ?_
  refine r_p (p_loadA t59 rfl rfl rfl (g_all (k := 4) rfl)) rfl ?_
  refine r_gyes rfl rfl ?_
  refine r_p (p_loadA t59 rfl rfl rfl (g_all (k := 6) rfl)) rfl ?_
  refine r_gyes rfl rfl ?_
  refine r_call (xs := [.tmp 24, .tmp 25]) (same_spec xa z.1 mxa) cb34 [] [(false, 50), (false, 51)] [] [] rfl rfl rfl rfl rfl rfl rfl rfl (fun _ _ => rfl) (fun _ _ _ => rfl) rfl (fun _ _ => ?_)
  refine r_p (p_pick rfl rfl rfl (by first | exact pick_and | exact pick_or |  rfl)) rfl ?_
  refine r_p (p_move rfl) rfl ?_
  refine r_split (t := 28) rfl (fun h3 => ?_) (fun h3 => False.elim (by simp [hz2, hz1] at h3))
  refine r_gyes rfl rfl ?_
  refine r_p (p_move rfl) rfl ?_
  refine r_gyes rfl rfl ?_
  refine r_p (p_len_str Try.underlying9 rfl) rfl ?_
  refine r_gyes rfl rfl ?_
  refine r_p (p_loadA t59 rfl rfl rfl (g_all (k := 4) rfl)) rfl ?_
  refine r_gyes rfl rfl ?_
  refine r_call (xs := [.tmp 31]) (weight_spec xa (by omega)) cb35 [] [(false, 50)] [] [] rfl rfl rfl rfl rfl rfl rfl rfl (fun _ _ => rfl) (fun _ _ _ => rfl) rfl (fun _ _ => ?_)
  refine r_gyes rfl rfl ?_
  refine r_p (p_bin rfl rfl b_le) rfl ?_
  refine r_p (p_pick rfl rfl rfl (by first | exact pick_and | exact pick_or |  rfl)) rfl ?_
  refine r_p (p_move rfl) rfl ?_
  refine r_split (t := 35) rfl (fun h4 => ?_) (fun h4 => False.elim (by have hw := wgt_ge xa; simp [hz2, hz1, ofI_size] at h4; omega))
  refine r_gyes rfl rfl ?_
  refine r_p (p_loadA t59 rfl rfl rfl (g_all (k := 6) rfl)) rfl ?_
  refine r_gyes rfl rfl ?_
  refine r_call (xs := [.tmp 36]) (bytes_spec z.1 (by rw [hz1]; exact oxa) (by rw [hz1]; omega)) cb32 [] [(false, 51)] [] [] rfl rfl rfl rfl rfl rfl rfl rfl (fun _ _ => rfl) (fun _ _ _ => rfl) rfl (fun _ _ => ?_)
  refine r_gyes rfl rfl ?_
  refine r_p (p_move rfl) rfl ?_
  refine r_gyes rfl rfl ?_
  refine r_p (p_bin rfl rfl b_seq) rfl ?_
  refine r_p (p_pick rfl rfl rfl (by first | exact pick_and | exact pick_or |  rfl)) rfl ?_
  refine r_p (p_assign rfl) rfl ?_
  refine r_nil ?_
  refine r_cret ?_
  refine r_ret () trivial rfl (rs1 (rv_tmp rfl)) (congrArg Value.bool (by rw [hz1, ba_eq]; simp [hz2, ofI_size])) [] [] rfl rfl rfl

end Go.Proofs.Ytohenjmkhncoiaa
