/-
  Writing strings. Condition: not beyond a million bytes.
-/
import Derived.Test.YtohenjmkhncoiaaYI
namespace Go.Proofs.Ytohenjmkhncoiaa
set_option linter.unusedSimpArgs false
set_option linter.unusedVariables false
open Go.RowKit

def eSt (s : ByteArray) : List Int := eTxt (bytesI s)
theorem eSt_len (s : ByteArray) : (eSt s).length = 8 + s.size := by
  unfold eSt eTxt
  rw [List.length_append, eInt_len, bytesI_len]
theorem eLst_st (ss : List ByteArray) : eLst eTxt (ss.map bytesI) = eInt (ss.length : Int) ++ ss.flatMap eSt := by
  unfold eLst
  rw [List.length_map, List.flatMap_map]
  rfl
theorem eSt_fm_len (ss : List ByteArray) : 8 * ss.length ≤ (ss.flatMap eSt).length := by
  induction ss with
  | nil => simp
  | cons s ss ih => rw [List.flatMap_cons, List.length_append, eSt_len, List.length_cons]; omega
theorem eLst_st_len (ss : List ByteArray) : (eLst eTxt (ss.map bytesI)).length = 8 + (ss.flatMap eSt).length := by
  rw [eLst_st, List.length_append, eInt_len]

set_option maxHeartbeats 1000000 in
set_option maxRecDepth 100000 in
theorem strings_w_spec (W : Nat) (v u : SV) (l : List Int) (ss : List ByteArray) (hm : l.length + (8 + (ss.flatMap eSt).length) ≤ 1000000) :
    Spec Try.prog 51 [.pointer (some ⟨W, 0, none⟩), sv u] [row W 107 [sv v], own 5 1 eU8 (sv v) l] [sl 1 eS (sv u) ss] (X := SV) (fun _ => True) (fun _ => .tuple #[]) (fun v' => [row W 107 [sv v'], own 5 1 eU8 (sv v') (l ++ eLst eTxt (ss.map bytesI))]) (fun _ => []) := by
  refine r_enter Try.func51 rfl Try.ntmps51 rfl fun w0 M H => ?_
  refine r_seq ?_
  refine r_region ?_
  refine r_p (p_move rfl) rfl ?_
  refine r_p (p_move rfl) rfl ?_
  refine r_p (p_len_sl Try.underlying41 rfl (hs_sl (k := 0) rfl)) rfl ?_
  refine r_bslice1 eI _ Try.underlying28 t3 rfl (by decide) (by decide) rfl rfl rfl rfl fun v9 => ?_
  refine r_freeze 9 9 rfl own_to_sl ?_
  refine r_call (xs := [.tmp 6, .tmp 9]) (ints_spec W v v9 l [(ss.length : Int)] (by simp only [List.length_cons, List.length_nil]; omega)) cb49 [0, 1] [(false, 9)] [0, 1] [] rfl rfl rfl rfl rfl rfl rfl rfl (fun _ _ => rfl) (fun _ _ _ => rfl) rfl (fun v10 _ => ?_)
  refine r_nil ?_
  refine r_seq ?_
  refine r_region ?_
  refine r_p (p_move rfl) rfl ?_
  refine r_p (p_len_sl Try.underlying41 rfl (hs_sl (k := 0) rfl)) rfl ?_
  refine r_p (p_move rfl) rfl ?_
  refine r_nil ?_
  refine r_block ?_
  refine r_conva (k := 1) (A' := own 5 1 eU8 (sv v10) (l ++ eInt (ss.length : Int))) rfl (fun _ _ h => by simpa using h) ?_
  refine r_loop (X := Nat × SV) (fun x => x.1 ≤ ss.length) (fun x => [(0, .pointer (some ⟨W, 0, none⟩)), (11, sv u), (12, .int .i64 (ss.length : Int)), (13, .int .i64 (x.1 : Int))]) (fun x => [(0, row W 107 [sv x.2]), (1, own 5 1 eU8 (sv x.2) ((l ++ eInt (ss.length : Int)) ++ (ss.take x.1).flatMap eSt))]) (fun x => [(0, sl 1 eS (sv u) ss)]) (fun x => ss.length - x.1) (0, v10) (Nat.zero_le _) rfl (by rw [List.take_zero, List.flatMap_nil, List.append_nil]; rfl) rfl (fun x hk0 => ?_)
  obtain ⟨k, vk⟩ := x
  dsimp only at hk0 ⊢
  refine r_seq ?_
  refine r_region ?_
  refine r_p (p_bin rfl rfl b_lt) rfl ?_
  refine r_nil ?_
  refine r_seq ?_
  refine r_cond rfl (fun h1 => ?_) (fun h1 => ?_)
  · (try simp only [decide_eq_true_eq, decide_eq_false_iff_not, Bool.and_eq_true, Bool.or_eq_true, Bool.and_eq_false_iff, Bool.or_eq_false_iff, Bool.not_eq_true, Bool.not_eq_false, Bool.not_eq_true', Bool.not_eq_false', Bool.not_not, bne_iff_ne, beq_iff_eq] at h1)
    have hk : k < ss.length := by omega
    have hle2 := fm_le2 eSt ByteArray.empty ss k hk
    rw [eSt_len] at hle2
    have hss := eSt_fm_len ss
    refine r_skip ?_
    refine r_seq ?_
    refine r_block ?_
    refine r_seq ?_
    refine r_region ?_
    refine r_p (p_idx_sl (j := k) Try.underlying41 t9 rfl rfl (hs_sl (k := 0) rfl) (by first | rfl | omega) (by first | omega | (simp; done) | (simp; omega))) rfl ?_
    refine r_p (p_load1 t9 rfl rfl (g_el' (hs_sl (k := 0) rfl) (by intro _; rfl) (getD_get ByteArray.empty (by omega)) (by rfl))) rfl ?_
    refine r_p (p_assign rfl) rfl ?_
    refine r_nil ?_
    refine r_seq ?_
    refine r_region ?_
    refine r_p (p_move rfl) rfl ?_
    refine r_p (p_move rfl) rfl ?_
    refine r_p (p_len_str Try.underlying9 rfl) rfl ?_
    refine r_bslice1 eI _ Try.underlying28 t3 rfl (by decide) (by decide) rfl rfl rfl rfl fun v20 => ?_
    refine r_freeze 20 20 rfl own_to_sl ?_
    refine r_call (xs := [.tmp 17, .tmp 20]) (ints_spec W vk v20 ((l ++ eInt (ss.length : Int)) ++ (ss.take k).flatMap eSt) [((ss.getD k ByteArray.empty).size : Int)] (by simp only [List.length_cons, List.length_nil, List.length_append, eInt_len]; omega)) cb49 [0, 1] [(false, 20)] [0, 1] [] rfl rfl rfl rfl rfl rfl rfl rfl (fun _ _ => rfl) (fun _ _ _ => rfl) rfl (fun v21 _ => ?_)
    refine r_nil ?_
    refine r_region ?_
    refine r_p (p_move rfl) rfl ?_
    refine r_p (p_move rfl) rfl ?_
    refine r_p (p_nilCheck rfl) rfl ?_
    refine r_p (p_field0 fo107_0 rfl) rfl ?_
    refine r_p (p_load1 t95 rfl rfl (g_row1 (k := 0) rfl rfl)) rfl ?_
    refine r_p (p_move rfl) rfl ?_
    refine r_appendS 1 Try.underlying95 Try.underlying9 t5 rfl rfl rfl rfl (by show ((l ++ eInt (ss.length : Int)) ++ (ss.take k).flatMap eSt ++ [((ss.getD k ByteArray.empty).size : Int)].flatMap eInt).length + (ss.getD k ByteArray.empty).size ≤ 1000000; simp only [List.length_append, eInt_len, List.flatMap_cons, List.flatMap_nil, List.length_nil]; omega) rfl fun v28 => ?_
    refine r_p (p_nilCheck rfl) rfl ?_
    refine r_p (p_field0 fo107_0 rfl) rfl ?_
    refine r_store_row (k := 0) t95 rfl rfl rfl rfl rfl rfl rfl rfl ?_
    refine r_nil ?_
    refine r_region ?_
    refine r_p (p_bin rfl rfl (b_add (by first | exact w_i64 (by omega) (by omega) | rfl))) rfl ?_
    refine r_p (p_move rfl) rfl ?_
    refine r_nil ?_
    refine r_here (k + 1, v28) ⟨by dsimp only; omega, by dsimp only; omega⟩ rfl (by rw [fm_snoc eSt ByteArray.empty ss k hk, ← List.append_assoc, show eSt (ss.getD k ByteArray.empty) = eInt ((bytesI (ss.getD k ByteArray.empty)).length : Int) ++ bytesI (ss.getD k ByteArray.empty) from rfl, bytesI_len, ← List.append_assoc]; rfl) rfl
  · (try simp only [decide_eq_true_eq, decide_eq_false_iff_not, Bool.and_eq_true, Bool.or_eq_true, Bool.and_eq_false_iff, Bool.or_eq_false_iff, Bool.not_eq_true, Bool.not_eq_false, Bool.not_eq_true', Bool.not_eq_false', Bool.not_not, bne_iff_ne, beq_iff_eq] at h1)
    have hk : k = ss.length := by omega
    subst hk
    refine r_exit ?_
    refine r_end vk trivial rfl rs0 rfl [0, 1] [] rfl (by rw [fm_all, eLst_st, ← List.append_assoc]; rfl) rfl

end Go.Proofs.Ytohenjmkhncoiaa
