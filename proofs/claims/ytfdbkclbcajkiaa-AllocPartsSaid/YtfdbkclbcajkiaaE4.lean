/-
  AllocParts walks. No condition.
-/
import Derived.Test.YtfdbkclbcajkiaaD3
import Derived.Test.YtfdbkclbcajkiaaC5
import Derived.Test.YtfdbkclbcajkiaaK14
namespace Go.Proofs.Ytfdbkclbcajkiaa
set_option linter.unusedSimpArgs false
set_option linter.unusedVariables false
open Go.RowKit

theorem bumps_add (l : List Int) : ∀ (u : Nat → Int) (i : Nat), bumps l u i = u i + bumps l (fun _ => 0) i := by
  induction l with
  | nil => intro u i; simp [bumps]
  | cons v l ih =>
    intro u i
    rw [bumps_cons, bumps_cons, ih (bump v u), ih (bump v fun _ => 0)]
    simp only [bump]
    split <;> omega
/-- The uses of two blocks, one after the other. -/
theorem uses_app (a b : List OpR) (i : Nat) : uses (a ++ b) i = uses a i + uses b i := by
  unfold uses
  rw [List.flatMap_append, show bumps (a.flatMap varsR ++ b.flatMap varsR) (fun _ => 0) = bumps (b.flatMap varsR) (bumps (a.flatMap varsR) fun _ => 0) from by simp [bumps, List.foldl_append], bumps_add]
theorem uses_cut (a : List OpR) (j i : Nat) : uses (a.take j) i + uses (a.drop j) i = uses a i := by
  rw [← uses_app, List.take_append_drop]

set_option maxRecDepth 100000 in
set_option maxHeartbeats 1000000 in
theorem parts_law (vs : SV) (s : List Int) (vt : SV) (t : List Int) (a2 : Int) (ha2 : 0 ≤ a2 ∧ a2 < 256) :
    Spec Try.prog 8 [sv vs, sv vt, .int .u8 a2] [] [sl 1 eI (sv vs) s, sl 1 eI (sv vt) t] (X := Unit) (fun _ => True) (fun _ => .bool true) (fun _ => []) (fun _ => []) := by
  refine r_enter Try.func8 rfl Try.ntmps8 rfl fun w0 M H => ?_
  obtain ⟨n2, rfl⟩ := Int.eq_ofNat_of_zero_le ha2.1
  refine r_seq ?_
  refine r_region ?_
  refine r_p (p_assign rfl) rfl ?_
  refine r_nil ?_
  refine r_seq ?_
  refine r_region ?_
  refine r_call (xs := []) sanity_spec cb13 [] [] [] [] rfl rfl rfl rfl rfl rfl rfl rfl (fun _ _ => rfl) (fun _ _ _ => rfl) rfl (fun _ _ => ?_)
  refine r_p (p_assign rfl) rfl ?_
  refine r_nil ?_
  refine r_seq ?_
  refine r_region ?_
  refine r_p (p_move rfl) rfl ?_
  refine r_call (xs := [.tmp 18]) (made_spec vs s) cb19 [] [(false, 0)] [] [60, 61, 62] rfl rfl rfl rfl rfl rfl rfl rfl (fun _ _ => rfl) (fun _ _ _ => rfl) rfl (fun ⟨va, vp, vo, sw, sa, ops⟩ hx14 => ?_)
  obtain ⟨hl, hal⟩ := hx14
  dsimp only at hl hal
  have hl5 : ops.length ≤ 100000 := by omega
  have hub := uses_bd ops hl5
  dsimp only
  refine r_alloc t28 rfl rfl fun b8 => ?_
  refine r_store_all (k := 8) t28 rfl rfl rfl rfl rfl rfl ?_
  refine r_nil ?_
  refine r_seq ?_
  refine r_region ?_
  refine r_p (p_move rfl) rfl ?_
  refine r_call (xs := [.tmp 20]) (made_spec vt t) cb19 [] [(false, 1)] [] [63, 64, 65] rfl rfl rfl rfl rfl rfl rfl rfl (fun _ _ => rfl) (fun _ _ _ => rfl) rfl (fun ⟨ua, up, uo, tw, ta, ops2⟩ hx21 => ?_)
  obtain ⟨hl2, hal2⟩ := hx21
  dsimp only at hl2 hal2
  have hl25 : ops2.length ≤ 100000 := by omega
  dsimp only
  refine r_alloc t28 rfl rfl fun b9 => ?_
  refine r_store_all (k := 9) t28 rfl rfl rfl rfl rfl rfl ?_
  refine r_nil ?_
  refine r_seq ?_
  refine r_region ?_
  refine r_p (p_move rfl) rfl ?_
  refine r_p (p_conv Try.underlying5 Try.underlying3 rfl (by first | exact w_i64 (by omega) (by omega) | rfl)) rfl ?_
  refine r_p (p_field0 fo28_2 rfl) rfl ?_
  refine r_p (p_load1 t26 rfl rfl (g_row1 (k := 8) rfl rfl)) rfl ?_
  refine r_p (p_len_sl Try.underlying26 rfl (hs_sl (k := 62) rfl)) rfl ?_
  refine r_p (p_bin rfl rfl (b_add (by first | exact w_i64 (by omega) (by omega) | rfl))) rfl ?_
  refine r_p (p_bin rfl rfl (b_rem (by omega) (by first | exact tmod_pos (by omega) | rfl))) rfl ?_
  refine r_lo 62 41 (n2 % (ops.length + 1)) rfl (by intro _; rfl) (Nat.le_of_lt_succ (Nat.mod_lt _ (by omega))) ?_
  refine r_hi 62 32 (n2 % (ops.length + 1)) rfl (Nat.le_of_lt_succ (Nat.mod_lt _ (by omega))) ?_
  refine r_p (p_assign rfl) rfl ?_
  refine r_nil ?_
  refine r_seq ?_
  refine r_region ?_
  refine r_p (p_field0 fo28_2 rfl) rfl ?_
  refine r_p (p_load1 t26 rfl rfl (g_row1 (k := 8) rfl rfl)) rfl ?_
  refine r_p (p_move rfl) rfl ?_
  refine r_p (p_slice_hi (j := (n2 % (ops.length + 1))) Try.underlying26 t47 rfl rfl (hs_sl (k := 62) rfl) (by rw [Int.natCast_emod]; rfl) (Nat.le_of_lt_succ (Nat.mod_lt _ (by omega)))) rfl ?_
  refine r_p (p_build (parts := [(2, .tmp 32)]) t28 pl28 rfl rfl) rfl ?_
  refine r_call (xs := [.tmp 33]) (uses_spec nilS nilS (hiS vo (n2 % (ops.length + 1))) (ops.take (n2 % (ops.length + 1))) (by rw [List.length_take]; omega)) cb15 [] [(false, 32)] [] [] rfl rfl rfl rfl rfl rfl rfl rfl (fun _ _ => rfl) (fun _ _ _ => rfl) rfl (fun _ _ => ?_)
  refine r_alloc_arr (n := 28) (u := (.int .i64 0)) t30 rfl rfl fun b11 => ?_
  refine r_store_arrAll (k := 11) t30 rfl rfl rfl (vi_one _) rfl ?_
  refine r_nil ?_
  refine r_seq_cut (X := Nat) (fun _ => True) (fun b12 => [(7, .bool true), (8, .pointer (some ⟨b8, 0, none⟩)), (9, .pointer (some ⟨b9, 0, none⟩)), (11, .pointer (some ⟨b11, 0, none⟩)), (12, .pointer (some ⟨b12, 0, none⟩))]) (fun b12 => [(8, row b8 28 [sv va, sv vp, sv vo]), (9, row b9 28 [sv ua, sv up, sv uo]), (11, arr b11 30 28 (vi (uses (ops.take (n2 % (ops.length + 1)))))), (12, arr b12 30 28 (vi (uses (ops.drop (n2 % (ops.length + 1))))))]) (fun b12 => [(62, sl 5 eOp (sv vo) ops), (65, sl 5 eOp (sv uo) ops2)]) ?_ (fun b12 _ => ?_)
  · refine r_draw [35, 36, 37, 38, 39, 40, 41, 42, 43, 12] _ rfl (stg_alts (V := [(0, 35, _), (1, 36, _), (3, 38, _), (4, 39, _), (5, 40, _), (6, 41, _)]) [0, 1, 3, 4, 5, 6] rfl rfl (prs_cons (pri rfl (p_field0 fo28_0 rfl)) (prs_cons (pri rfl (p_load1 t25 rfl rfl (g_row1 (k := 9) rfl rfl))) (prs_cons (pri rfl (p_field0 fo28_2 rfl)) (prs_cons (pri rfl (p_load1 t26 rfl rfl (g_row1 (k := 8) rfl rfl))) (prs_cons (pri rfl (p_move rfl)) (prs_cons (pri rfl (p_slice_lo (j := (n2 % (ops.length + 1))) Try.underlying26 t47 rfl rfl (hs_sl (k := 62) rfl) (by rw [Int.natCast_emod]; rfl) (Nat.le_of_lt_succ (Nat.mod_lt _ (by omega))))) prs_nil)))))) rfl [2, 9] rfl rfl (nx_cons (nx_mem 2 [2] [7] (fun v37 => [(7, 42, _)]) rfl rfl rfl rfl rfl rfl rfl rfl rfl (fun _ _ => rfl) rfl (ms_bslice1 eI 7 Try.underlying22 t3 rfl (by decide) (by decide) rfl rfl rfl) (fun v37 _ => stg_alts [7, 0, 1, 3, 4, 5, 6] rfl rfl (prs_cons (pri rfl (p_build (parts := [(0, .tmp 36), (1, .tmp 37), (2, .tmp 41)]) t28 pl28 rfl rfl)) (prs_cons (pri rfl (p_field0 fo28_0 rfl)) (prs_cons (pri rfl (p_load1 t25 rfl rfl (g_row1 (k := 9) rfl rfl))) (prs_cons (pri rfl (p_field0 fo28_2 rfl)) (prs_cons (pri rfl (p_load1 t26 rfl rfl (g_row1 (k := 8) rfl rfl))) (prs_cons (pri rfl (p_move rfl)) (prs_cons (pri rfl (p_slice_lo (j := (n2 % (ops.length + 1))) Try.underlying26 t47 rfl rfl (hs_sl (k := 62) rfl) (by rw [Int.natCast_emod]; rfl) (Nat.le_of_lt_succ (Nat.mod_lt _ (by omega))))) prs_nil))))))) rfl [8, 9] rfl rfl (nx_cons (nx_mem 8 [8, 7, 6, 5, 4, 3, 2, 1, 0] [] (fun _ => []) rfl rfl rfl rfl rfl rfl rfl rfl rfl (fun _ _ => rfl) rfl (ms_call (xs := [.tmp 42]) (uses_spec ua v37 (loS vo (n2 % (ops.length + 1)) 5) (ops.drop (n2 % (ops.length + 1))) (by rw [List.length_drop]; omega)) cb15 [] [(false, 41)] [] [] rfl rfl rfl rfl rfl rfl rfl rfl (fun _ _ => rfl) (fun _ _ _ => rfl)) (fun _ _ => stg_mem [] 9 [9, 8, 7, 6, 5, 4, 3, 2, 1, 0] [] (fun b12 => []) rfl rfl prs_nil rfl rfl rfl rfl rfl rfl rfl rfl rfl rfl rfl (fun _ _ => rfl) rfl (ms_alloc_arr (n := 28) (u := (.int .i64 0)) t30 rfl) (fun b12 _ => stg_mem0 [] 10 [10, 9, 8, 7, 6, 5, 4, 3, 2, 1, 0] [] (fun _ => []) rfl rfl prs_nil rfl rfl rfl rfl rfl rfl rfl rfl rfl (fun _ _ => rfl) rfl (ms_store_arrAll (k := 12) t30 rfl rfl rfl (vi_one _) rfl) (fun _ _ => stg_end [] rfl rfl prs_nil rfl rfl rfl ?_)))) (nx_cons (nx_mem 9 [9, 2] [] (fun b12 => []) rfl rfl rfl rfl rfl rfl rfl rfl rfl (fun _ _ => rfl) rfl (ms_alloc_arr (n := 28) (u := (.int .i64 0)) t30 rfl) (fun b12 _ => stg_mem [7, 0, 1, 3, 4, 5, 6] 8 [9, 8, 7, 6, 5, 4, 3, 2, 1, 0] [] (fun _ => []) rfl rfl (prs_cons (pri rfl (p_build (parts := [(0, .tmp 36), (1, .tmp 37), (2, .tmp 41)]) t28 pl28 rfl rfl)) (prs_cons (pri rfl (p_field0 fo28_0 rfl)) (prs_cons (pri rfl (p_load1 t25 rfl rfl (g_row1 (k := 9) rfl rfl))) (prs_cons (pri rfl (p_field0 fo28_2 rfl)) (prs_cons (pri rfl (p_load1 t26 rfl rfl (g_row1 (k := 8) rfl rfl))) (prs_cons (pri rfl (p_move rfl)) (prs_cons (pri rfl (p_slice_lo (j := (n2 % (ops.length + 1))) Try.underlying26 t47 rfl rfl (hs_sl (k := 62) rfl) (by rw [Int.natCast_emod]; rfl) (Nat.le_of_lt_succ (Nat.mod_lt _ (by omega))))) prs_nil))))))) rfl rfl rfl rfl rfl rfl rfl rfl rfl rfl rfl (fun _ _ => rfl) rfl (ms_call (xs := [.tmp 42]) (uses_spec ua v37 (loS vo (n2 % (ops.length + 1)) 5) (ops.drop (n2 % (ops.length + 1))) (by rw [List.length_drop]; omega)) cb15 [] [(false, 41)] [] [] rfl rfl rfl rfl rfl rfl rfl rfl (fun _ _ => rfl) (fun _ _ _ => rfl)) (fun _ _ => stg_mem0 [] 10 [10, 9, 8, 7, 6, 5, 4, 3, 2, 1, 0] [] (fun _ => []) rfl rfl prs_nil rfl rfl rfl rfl rfl rfl rfl rfl rfl (fun _ _ => rfl) rfl (ms_store_arrAll (k := 12) t30 rfl rfl rfl (vi_one _) rfl) (fun _ _ => stg_end [] rfl rfl prs_nil rfl rfl rfl ?_)))) nx_nil)))) (nx_cons (nx_mem 9 [9] [] (fun b12 => []) rfl rfl rfl rfl rfl rfl rfl rfl rfl (fun _ _ => rfl) rfl (ms_alloc_arr (n := 28) (u := (.int .i64 0)) t30 rfl) (fun b12 _ => stg_mem [0, 1, 3, 4, 5, 6] 2 [9, 2] [7] (fun v37 => [(7, 42, _)]) rfl rfl (prs_cons (pri rfl (p_field0 fo28_0 rfl)) (prs_cons (pri rfl (p_load1 t25 rfl rfl (g_row1 (k := 9) rfl rfl))) (prs_cons (pri rfl (p_field0 fo28_2 rfl)) (prs_cons (pri rfl (p_load1 t26 rfl rfl (g_row1 (k := 8) rfl rfl))) (prs_cons (pri rfl (p_move rfl)) (prs_cons (pri rfl (p_slice_lo (j := (n2 % (ops.length + 1))) Try.underlying26 t47 rfl rfl (hs_sl (k := 62) rfl) (by rw [Int.natCast_emod]; rfl) (Nat.le_of_lt_succ (Nat.mod_lt _ (by omega))))) prs_nil)))))) rfl rfl rfl rfl rfl rfl rfl rfl rfl rfl rfl (fun _ _ => rfl) rfl (ms_bslice1 eI 7 Try.underlying22 t3 rfl (by decide) (by decide) rfl rfl rfl) (fun v37 _ => stg_mem [7, 0, 1, 3, 4, 5, 6] 8 [9, 8, 7, 6, 5, 4, 3, 2, 1, 0] [] (fun _ => []) rfl rfl (prs_cons (pri rfl (p_build (parts := [(0, .tmp 36), (1, .tmp 37), (2, .tmp 41)]) t28 pl28 rfl rfl)) (prs_cons (pri rfl (p_field0 fo28_0 rfl)) (prs_cons (pri rfl (p_load1 t25 rfl rfl (g_row1 (k := 9) rfl rfl))) (prs_cons (pri rfl (p_field0 fo28_2 rfl)) (prs_cons (pri rfl (p_load1 t26 rfl rfl (g_row1 (k := 8) rfl rfl))) (prs_cons (pri rfl (p_move rfl)) (prs_cons (pri rfl (p_slice_lo (j := (n2 % (ops.length + 1))) Try.underlying26 t47 rfl rfl (hs_sl (k := 62) rfl) (by rw [Int.natCast_emod]; rfl) (Nat.le_of_lt_succ (Nat.mod_lt _ (by omega))))) prs_nil))))))) rfl rfl rfl rfl rfl rfl rfl rfl rfl rfl rfl (fun _ _ => rfl) rfl (ms_call (xs := [.tmp 42]) (uses_spec ua v37 (loS vo (n2 % (ops.length + 1)) 5) (ops.drop (n2 % (ops.length + 1))) (by rw [List.length_drop]; omega)) cb15 [] [(false, 41)] [] [] rfl rfl rfl rfl rfl rfl rfl rfl (fun _ _ => rfl) (fun _ _ _ => rfl)) (fun _ _ => stg_mem0 [] 10 [10, 9, 8, 7, 6, 5, 4, 3, 2, 1, 0] [] (fun _ => []) rfl rfl prs_nil rfl rfl rfl rfl rfl rfl rfl rfl rfl (fun _ _ => rfl) rfl (ms_store_arrAll (k := 12) t30 rfl rfl rfl (vi_one _) rfl) (fun _ _ => stg_end [] rfl rfl prs_nil rfl rfl rfl ?_))))) nx_nil)))
    · refine r_here b12 trivial rfl rfl rfl
    · refine r_here b12 trivial rfl rfl rfl
    · refine r_here b12 trivial rfl rfl rfl
  · refine r_seq ?_
    refine r_region ?_
    refine r_p (p_loadA t28 rfl rfl rfl (g_all (k := 8) rfl)) rfl ?_
    refine r_call (xs := [.tmp 44]) (uses_spec va vp vo ops hl5) cb15 [] [(false, 62)] [] [] rfl rfl rfl rfl rfl rfl rfl rfl (fun _ _ => rfl) (fun _ _ _ => rfl) rfl (fun _ _ => ?_)
    refine r_alloc_arr (n := 28) (u := (.int .i64 0)) t30 rfl rfl fun b13 => ?_
    refine r_store_arrAll (k := 13) t30 rfl rfl rfl (vi_one _) rfl ?_
    refine r_nil ?_
    refine r_seq_cut (X := Nat) (fun _ => True) (fun b14 => [(7, .bool true), (9, .pointer (some ⟨b9, 0, none⟩)), (11, .pointer (some ⟨b11, 0, none⟩)), (12, .pointer (some ⟨b12, 0, none⟩)), (13, .pointer (some ⟨b13, 0, none⟩)), (14, .pointer (some ⟨b14, 0, none⟩))]) (fun b14 => [(9, row b9 28 [sv ua, sv up, sv uo]), (11, arr b11 30 28 (vi (uses (ops.take (n2 % (ops.length + 1)))))), (12, arr b12 30 28 (vi (uses (ops.drop (n2 % (ops.length + 1)))))), (13, arr b13 30 28 (vi (uses ops))), (14, arr b14 30 28 (vi (uses (ops ++ ops2))))]) (fun b14 => [(62, sl 5 eOp (sv vo) ops), (65, sl 5 eOp (sv uo) ops2)]) ?_ (fun b14 _ => ?_)
    · refine r_draw [46, 47, 48, 49, 50, 51, 52, 53, 54, 14] _ rfl (stg_alts (V := [(1, 47, _), (2, 48, _), (4, 50, _), (5, 51, _)]) [1, 2, 4, 5] rfl rfl (prs_cons (pri rfl (p_field0 fo28_2 rfl)) (prs_cons (pri rfl (p_load1 t26 rfl rfl (g_row1 (k := 8) rfl rfl))) (prs_cons (pri rfl (p_field0 fo28_2 rfl)) (prs_cons (pri rfl (p_load1 t26 rfl rfl (g_row1 (k := 9) rfl rfl))) prs_nil)))) rfl [0, 9] rfl rfl (nx_cons (nx_mem 0 [0] [] (fun v46 => []) rfl rfl rfl rfl rfl rfl rfl rfl rfl (fun _ _ => rfl) rfl (ms_bslice0 eOp Try.underlying26 t47) (fun v46 _ => stg_alts [1, 2, 4, 5] rfl rfl (prs_cons (pri rfl (p_field0 fo28_2 rfl)) (prs_cons (pri rfl (p_load1 t26 rfl rfl (g_row1 (k := 8) rfl rfl))) (prs_cons (pri rfl (p_field0 fo28_2 rfl)) (prs_cons (pri rfl (p_load1 t26 rfl rfl (g_row1 (k := 9) rfl rfl))) prs_nil)))) rfl [3, 9] rfl rfl (nx_cons (nx_mem 3 [3, 2, 1, 0] [] (fun v49 => []) rfl rfl rfl rfl rfl rfl rfl rfl rfl (fun _ _ => rfl) rfl (ms_append 46 Try.underlying26 t47 rfl (by decide) (fun _ => rfl) (fun _ => rfl) rfl rfl rfl (hs_sl (k := 62) rfl) (by first | omega | (simp; done) | (simp; omega)) (by unfold maxLen; first | omega | (simp; done) | (simp; omega))) (fun v49 _ => stg_alts [4, 5] rfl rfl (prs_cons (pri rfl (p_field0 fo28_2 rfl)) (prs_cons (pri rfl (p_load1 t26 rfl rfl (g_row1 (k := 9) rfl rfl))) prs_nil)) rfl [6, 9] rfl rfl (nx_cons (nx_mem 6 [6, 5, 4, 3, 2, 1, 0] [7] (fun v52 => [(7, 53, _)]) rfl rfl rfl rfl rfl rfl rfl rfl rfl (fun _ _ => rfl) rfl (ms_append 46 Try.underlying26 t47 rfl (by decide) (fun _ => rfl) (fun _ => rfl) rfl rfl rfl (hs_sl (k := 65) rfl) (by simp; omega) (by unfold maxLen; simp; omega)) (fun v52 _ => stg_alts [7] rfl rfl (prs_cons (pri rfl (p_build (parts := [(2, .tmp 52)]) t28 pl28 rfl rfl)) prs_nil) rfl [8, 9] rfl rfl (nx_cons (nx_mem 8 [8, 7, 6, 5, 4, 3, 2, 1, 0] [] (fun _ => []) rfl rfl rfl rfl rfl rfl rfl rfl rfl (fun _ _ => rfl) rfl (ms_call (xs := [.tmp 53]) ((uses_spec nilS nilS v52 (ops ++ ops2) (by rw [List.length_append]; omega)).ro1 (own_to_sl (T := 47))) cb15 [] [(true, 46)] [] [] rfl rfl rfl rfl rfl rfl rfl rfl (fun _ _ => rfl) (fun _ _ _ => rfl)) (fun _ _ => stg_mem [] 9 [9, 8, 7, 6, 5, 4, 3, 2, 1, 0] [] (fun b14 => []) rfl rfl prs_nil rfl rfl rfl rfl rfl rfl rfl rfl rfl rfl rfl (fun _ _ => rfl) rfl (ms_alloc_arr (n := 28) (u := (.int .i64 0)) t30 rfl) (fun b14 _ => stg_mem0 [] 10 [10, 9, 8, 7, 6, 5, 4, 3, 2, 1, 0] [] (fun _ => []) rfl rfl prs_nil rfl rfl rfl rfl rfl rfl rfl rfl rfl (fun _ _ => rfl) rfl (ms_store_arrAll (k := 14) t30 rfl rfl rfl (vi_one _) rfl) (fun _ _ => stg_end [] rfl rfl prs_nil rfl rfl rfl ?_)))) (nx_cons (nx_mem 9 [9, 6, 5, 4, 3, 2, 1, 0] [] (fun b14 => []) rfl rfl rfl rfl rfl rfl rfl rfl rfl (fun _ _ => rfl) rfl (ms_alloc_arr (n := 28) (u := (.int .i64 0)) t30 rfl) (fun b14 _ => stg_mem [7] 8 [9, 8, 7, 6, 5, 4, 3, 2, 1, 0] [] (fun _ => []) rfl rfl (prs_cons (pri rfl (p_build (parts := [(2, .tmp 52)]) t28 pl28 rfl rfl)) prs_nil) rfl rfl rfl rfl rfl rfl rfl rfl rfl rfl rfl (fun _ _ => rfl) rfl (ms_call (xs := [.tmp 53]) ((uses_spec nilS nilS v52 (ops ++ ops2) (by rw [List.length_append]; omega)).ro1 (own_to_sl (T := 47))) cb15 [] [(true, 46)] [] [] rfl rfl rfl rfl rfl rfl rfl rfl (fun _ _ => rfl) (fun _ _ _ => rfl)) (fun _ _ => stg_mem0 [] 10 [10, 9, 8, 7, 6, 5, 4, 3, 2, 1, 0] [] (fun _ => []) rfl rfl prs_nil rfl rfl rfl rfl rfl rfl rfl rfl rfl (fun _ _ => rfl) rfl (ms_store_arrAll (k := 14) t30 rfl rfl rfl (vi_one _) rfl) (fun _ _ => stg_end [] rfl rfl prs_nil rfl rfl rfl ?_)))) nx_nil)))) (nx_cons (nx_mem 9 [9, 3, 2, 1, 0] [] (fun b14 => []) rfl rfl rfl rfl rfl rfl rfl rfl rfl (fun _ _ => rfl) rfl (ms_alloc_arr (n := 28) (u := (.int .i64 0)) t30 rfl) (fun b14 _ => stg_mem [4, 5] 6 [9, 6, 5, 4, 3, 2, 1, 0] [7] (fun v52 => [(7, 53, _)]) rfl rfl (prs_cons (pri rfl (p_field0 fo28_2 rfl)) (prs_cons (pri rfl (p_load1 t26 rfl rfl (g_row1 (k := 9) rfl rfl))) prs_nil)) rfl rfl rfl rfl rfl rfl rfl rfl rfl rfl rfl (fun _ _ => rfl) rfl (ms_append 46 Try.underlying26 t47 rfl (by decide) (fun _ => rfl) (fun _ => rfl) rfl rfl rfl (hs_sl (k := 65) rfl) (by simp; omega) (by unfold maxLen; simp; omega)) (fun v52 _ => stg_mem [7] 8 [9, 8, 7, 6, 5, 4, 3, 2, 1, 0] [] (fun _ => []) rfl rfl (prs_cons (pri rfl (p_build (parts := [(2, .tmp 52)]) t28 pl28 rfl rfl)) prs_nil) rfl rfl rfl rfl rfl rfl rfl rfl rfl rfl rfl (fun _ _ => rfl) rfl (ms_call (xs := [.tmp 53]) ((uses_spec nilS nilS v52 (ops ++ ops2) (by rw [List.length_append]; omega)).ro1 (own_to_sl (T := 47))) cb15 [] [(true, 46)] [] [] rfl rfl rfl rfl rfl rfl rfl rfl (fun _ _ => rfl) (fun _ _ _ => rfl)) (fun _ _ => stg_mem0 [] 10 [10, 9, 8, 7, 6, 5, 4, 3, 2, 1, 0] [] (fun _ => []) rfl rfl prs_nil rfl rfl rfl rfl rfl rfl rfl rfl rfl (fun _ _ => rfl) rfl (ms_store_arrAll (k := 14) t30 rfl rfl rfl (vi_one _) rfl) (fun _ _ => stg_end [] rfl rfl prs_nil rfl rfl rfl ?_))))) nx_nil)))) (nx_cons (nx_mem 9 [9, 0] [] (fun b14 => []) rfl rfl rfl rfl rfl rfl rfl rfl rfl (fun _ _ => rfl) rfl (ms_alloc_arr (n := 28) (u := (.int .i64 0)) t30 rfl) (fun b14 _ => stg_mem [1, 2, 4, 5] 3 [9, 3, 2, 1, 0] [] (fun v49 => []) rfl rfl (prs_cons (pri rfl (p_field0 fo28_2 rfl)) (prs_cons (pri rfl (p_load1 t26 rfl rfl (g_row1 (k := 8) rfl rfl))) (prs_cons (pri rfl (p_field0 fo28_2 rfl)) (prs_cons (pri rfl (p_load1 t26 rfl rfl (g_row1 (k := 9) rfl rfl))) prs_nil)))) rfl rfl rfl rfl rfl rfl rfl rfl rfl rfl rfl (fun _ _ => rfl) rfl (ms_append 46 Try.underlying26 t47 rfl (by decide) (fun _ => rfl) (fun _ => rfl) rfl rfl rfl (hs_sl (k := 62) rfl) (by first | omega | (simp; done) | (simp; omega)) (by unfold maxLen; first | omega | (simp; done) | (simp; omega))) (fun v49 _ => stg_mem [4, 5] 6 [9, 6, 5, 4, 3, 2, 1, 0] [7] (fun v52 => [(7, 53, _)]) rfl rfl (prs_cons (pri rfl (p_field0 fo28_2 rfl)) (prs_cons (pri rfl (p_load1 t26 rfl rfl (g_row1 (k := 9) rfl rfl))) prs_nil)) rfl rfl rfl rfl rfl rfl rfl rfl rfl rfl rfl (fun _ _ => rfl) rfl (ms_append 46 Try.underlying26 t47 rfl (by decide) (fun _ => rfl) (fun _ => rfl) rfl rfl rfl (hs_sl (k := 65) rfl) (by simp; omega) (by unfold maxLen; simp; omega)) (fun v52 _ => stg_mem [7] 8 [9, 8, 7, 6, 5, 4, 3, 2, 1, 0] [] (fun _ => []) rfl rfl (prs_cons (pri rfl (p_build (parts := [(2, .tmp 52)]) t28 pl28 rfl rfl)) prs_nil) rfl rfl rfl rfl rfl rfl rfl rfl rfl rfl rfl (fun _ _ => rfl) rfl (ms_call (xs := [.tmp 53]) ((uses_spec nilS nilS v52 (ops ++ ops2) (by rw [List.length_append]; omega)).ro1 (own_to_sl (T := 47))) cb15 [] [(true, 46)] [] [] rfl rfl rfl rfl rfl rfl rfl rfl (fun _ _ => rfl) (fun _ _ _ => rfl)) (fun _ _ => stg_mem0 [] 10 [10, 9, 8, 7, 6, 5, 4, 3, 2, 1, 0] [] (fun _ => []) rfl rfl prs_nil rfl rfl rfl rfl rfl rfl rfl rfl rfl (fun _ _ => rfl) rfl (ms_store_arrAll (k := 14) t30 rfl rfl rfl (vi_one _) rfl) (fun _ _ => stg_end [] rfl rfl prs_nil rfl rfl rfl ?_)))))) nx_nil)))) (nx_cons (nx_mem 9 [9] [] (fun b14 => []) rfl rfl rfl rfl rfl rfl rfl rfl rfl (fun _ _ => rfl) rfl (ms_alloc_arr (n := 28) (u := (.int .i64 0)) t30 rfl) (fun b14 _ => stg_mem [1, 2, 4, 5] 0 [9, 0] [] (fun v46 => []) rfl rfl (prs_cons (pri rfl (p_field0 fo28_2 rfl)) (prs_cons (pri rfl (p_load1 t26 rfl rfl (g_row1 (k := 8) rfl rfl))) (prs_cons (pri rfl (p_field0 fo28_2 rfl)) (prs_cons (pri rfl (p_load1 t26 rfl rfl (g_row1 (k := 9) rfl rfl))) prs_nil)))) rfl rfl rfl rfl rfl rfl rfl rfl rfl rfl rfl (fun _ _ => rfl) rfl (ms_bslice0 eOp Try.underlying26 t47) (fun v46 _ => stg_mem [1, 2, 4, 5] 3 [9, 3, 2, 1, 0] [] (fun v49 => []) rfl rfl (prs_cons (pri rfl (p_field0 fo28_2 rfl)) (prs_cons (pri rfl (p_load1 t26 rfl rfl (g_row1 (k := 8) rfl rfl))) (prs_cons (pri rfl (p_field0 fo28_2 rfl)) (prs_cons (pri rfl (p_load1 t26 rfl rfl (g_row1 (k := 9) rfl rfl))) prs_nil)))) rfl rfl rfl rfl rfl rfl rfl rfl rfl rfl rfl (fun _ _ => rfl) rfl (ms_append 46 Try.underlying26 t47 rfl (by decide) (fun _ => rfl) (fun _ => rfl) rfl rfl rfl (hs_sl (k := 62) rfl) (by first | omega | (simp; done) | (simp; omega)) (by unfold maxLen; first | omega | (simp; done) | (simp; omega))) (fun v49 _ => stg_mem [4, 5] 6 [9, 6, 5, 4, 3, 2, 1, 0] [7] (fun v52 => [(7, 53, _)]) rfl rfl (prs_cons (pri rfl (p_field0 fo28_2 rfl)) (prs_cons (pri rfl (p_load1 t26 rfl rfl (g_row1 (k := 9) rfl rfl))) prs_nil)) rfl rfl rfl rfl rfl rfl rfl rfl rfl rfl rfl (fun _ _ => rfl) rfl (ms_append 46 Try.underlying26 t47 rfl (by decide) (fun _ => rfl) (fun _ => rfl) rfl rfl rfl (hs_sl (k := 65) rfl) (by simp; omega) (by unfold maxLen; simp; omega)) (fun v52 _ => stg_mem [7] 8 [9, 8, 7, 6, 5, 4, 3, 2, 1, 0] [] (fun _ => []) rfl rfl (prs_cons (pri rfl (p_build (parts := [(2, .tmp 52)]) t28 pl28 rfl rfl)) prs_nil) rfl rfl rfl rfl rfl rfl rfl rfl rfl rfl rfl (fun _ _ => rfl) rfl (ms_call (xs := [.tmp 53]) ((uses_spec nilS nilS v52 (ops ++ ops2) (by rw [List.length_append]; omega)).ro1 (own_to_sl (T := 47))) cb15 [] [(true, 46)] [] [] rfl rfl rfl rfl rfl rfl rfl rfl (fun _ _ => rfl) (fun _ _ _ => rfl)) (fun _ _ => stg_mem0 [] 10 [10, 9, 8, 7, 6, 5, 4, 3, 2, 1, 0] [] (fun _ => []) rfl rfl prs_nil rfl rfl rfl rfl rfl rfl rfl rfl rfl (fun _ _ => rfl) rfl (ms_store_arrAll (k := 14) t30 rfl rfl rfl (vi_one _) rfl) (fun _ _ => stg_end [] rfl rfl prs_nil rfl rfl rfl ?_))))))) nx_nil)))
      · refine r_here b14 trivial rfl rfl rfl
      · refine r_here b14 trivial rfl rfl rfl
      · refine r_here b14 trivial rfl rfl rfl
      · refine r_here b14 trivial rfl rfl rfl
      · refine r_here b14 trivial rfl rfl rfl
    · refine r_seq ?_
      refine r_region ?_
      refine r_p (p_loadA t28 rfl rfl rfl (g_all (k := 9) rfl)) rfl ?_
      refine r_call (xs := [.tmp 55]) (uses_spec ua up uo ops2 hl25) cb15 [] [(false, 65)] [] [] rfl rfl rfl rfl rfl rfl rfl rfl (fun _ _ => rfl) (fun _ _ _ => rfl) rfl (fun _ _ => ?_)
      refine r_alloc_arr (n := 28) (u := (.int .i64 0)) t30 rfl rfl fun b15 => ?_
      refine r_store_arrAll (k := 15) t30 rfl rfl rfl (vi_one _) rfl ?_
      refine r_nil ?_
      refine r_seq ?_
      refine r_seq ?_
      refine r_region ?_
      refine r_p (p_assign rfl) rfl ?_
      refine r_nil ?_
      refine r_block ?_
      refine r_loop (X := Nat) (fun k => k ≤ 28) (fun k => [(7, .bool true), (16, .int .i64 (k : Int)), (11, .pointer (some ⟨b11, 0, none⟩)), (12, .pointer (some ⟨b12, 0, none⟩)), (13, .pointer (some ⟨b13, 0, none⟩)), (14, .pointer (some ⟨b14, 0, none⟩)), (15, .pointer (some ⟨b15, 0, none⟩))]) (fun k => [(11, arr b11 30 28 (vi (uses (ops.take (n2 % (ops.length + 1)))))), (12, arr b12 30 28 (vi (uses (ops.drop (n2 % (ops.length + 1)))))), (13, arr b13 30 28 (vi (uses ops))), (14, arr b14 30 28 (vi (uses (ops ++ ops2)))), (15, arr b15 30 28 (vi (uses ops2)))]) (fun k => []) (fun k => 28 - k) 0 (Nat.zero_le _) rfl rfl rfl (fun k hk0 => ?_)
      refine r_seq ?_
      refine r_seq ?_
      refine r_region ?_
      refine r_p (p_move rfl) rfl ?_
      refine r_p (p_bin rfl rfl b_lt) rfl ?_
      refine r_nil ?_
      refine r_cond rfl (fun h1 => ?_) (fun h1 => ?_)
      · (try simp only [decide_eq_true_eq, decide_eq_false_iff_not, Bool.and_eq_true, Bool.or_eq_true, Bool.and_eq_false_iff, Bool.or_eq_false_iff, Bool.not_eq_true, Bool.not_eq_false, Bool.not_eq_true', Bool.not_eq_false', Bool.not_not, bne_iff_ne, beq_iff_eq] at h1)
        have hk : k < 28 := by omega
        have e1 := uses_cut ops (n2 % (ops.length + 1)) k
        have e2 := uses_app ops ops2 k
        have b1 := uses_bd (ops.take (n2 % (ops.length + 1))) (by rw [List.length_take]; omega) k
        have b2 := uses_bd (ops.drop (n2 % (ops.length + 1))) (by rw [List.length_drop]; omega) k
        have b3 := hub k
        have b4 := uses_bd ops2 hl25 k
        refine r_skip ?_
        refine r_seq ?_
        refine r_block ?_
        refine r_seq ?_
        refine r_draw [61, 62, 63, 64, 65, 66, 67, 68, 69, 70, 71, 72, 73, 74, 75, 76, 77, 78, 79, 80, 81, 82, 83, 84] _ rfl (stg_end (V := [(0, 61, _), (1, 62, _), (2, 63, _), (3, 64, _), (4, 65, _), (5, 66, _), (6, 67, _), (7, 68, _), (8, 69, _), (9, 70, _), (10, 71, _), (11, 72, _), (12, 73, _), (13, 74, _), (14, 75, _), (15, 76, _), (16, 77, _), (17, 78, _), (18, 79, _), (19, 80, _), (20, 81, _), (21, 82, _), (22, 83, _), (23, 84, _)]) [0, 1, 2, 3, 4, 5, 6, 7, 8, 9, 10, 11, 12, 13, 14, 15, 16, 17, 18, 19, 20, 21, 22, 23] rfl rfl (prs_cons (pri rfl (p_move rfl)) (prs_cons (pri rfl (p_idx_arr1 (j := k) Try.underlying30 t3 rfl rfl (by first | rfl | omega) (by first | omega | (simp; done) | (simp; omega)))) (prs_cons (pri rfl (p_load1 t3 rfl rfl (g_arr1 (k := 11) rfl (by omega)))) (prs_cons (pri rfl (p_move rfl)) (prs_cons (pri rfl (p_idx_arr1 (j := k) Try.underlying30 t3 rfl rfl (by first | rfl | omega) (by first | omega | (simp; done) | (simp; omega)))) (prs_cons (pri rfl (p_load1 t3 rfl rfl (g_arr1 (k := 12) rfl (by omega)))) (prs_cons (pri rfl (p_bin rfl rfl (b_add (by first | exact w_i64 (by omega) (by omega) | rfl)))) (prs_cons (pri rfl (p_move rfl)) (prs_cons (pri rfl (p_idx_arr1 (j := k) Try.underlying30 t3 rfl rfl (by first | rfl | omega) (by first | omega | (simp; done) | (simp; omega)))) (prs_cons (pri rfl (p_load1 t3 rfl rfl (g_arr1 (k := 13) rfl (by omega)))) (prs_cons (pri rfl (p_bin rfl rfl b_ne)) (prs_cons (pri rfl (p_move rfl)) (prs_cons (prig_y rfl rfl rfl (by simp [uses_cut]) (p_move rfl)) (prs_cons (prig_y rfl rfl rfl (by simp [uses_cut]) (p_idx_arr1 (j := k) Try.underlying30 t3 rfl rfl (by first | rfl | omega) (by first | omega | (simp; done) | (simp; omega)))) (prs_cons (prig_y rfl rfl rfl (by simp [uses_cut]) (p_load1 t3 rfl rfl (g_arr1 (k := 13) rfl (by omega)))) (prs_cons (prig_y rfl rfl rfl (by simp [uses_cut]) (p_move rfl)) (prs_cons (prig_y rfl rfl rfl (by simp [uses_cut]) (p_idx_arr1 (j := k) Try.underlying30 t3 rfl rfl (by first | rfl | omega) (by first | omega | (simp; done) | (simp; omega)))) (prs_cons (prig_y rfl rfl rfl (by simp [uses_cut]) (p_load1 t3 rfl rfl (g_arr1 (k := 15) rfl (by omega)))) (prs_cons (prig_y rfl rfl rfl (by simp [uses_cut]) (p_bin rfl rfl (b_add (by first | exact w_i64 (by omega) (by omega) | rfl)))) (prs_cons (prig_y rfl rfl rfl (by simp [uses_cut]) (p_move rfl)) (prs_cons (prig_y rfl rfl rfl (by simp [uses_cut]) (p_idx_arr1 (j := k) Try.underlying30 t3 rfl rfl (by first | rfl | omega) (by first | omega | (simp; done) | (simp; omega)))) (prs_cons (prig_y rfl rfl rfl (by simp [uses_cut]) (p_load1 t3 rfl rfl (g_arr1 (k := 14) rfl (by omega)))) (prs_cons (prig_y rfl rfl rfl (by simp [uses_cut]) (p_bin rfl rfl b_ne)) (prs_cons (pri rfl (p_pick rfl rfl rfl (pick_f (by simp [uses_cut])))) prs_nil)))))))))))))))))))))))) rfl rfl rfl ?_)
        refine r_cond rfl (fun h2 => ?_) (fun h2 => ?_)
        · exfalso; simp at h2; omega
        · (try simp only [decide_eq_true_eq, decide_eq_false_iff_not, Bool.and_eq_true, Bool.or_eq_true, Bool.and_eq_false_iff, Bool.or_eq_false_iff, Bool.not_eq_true, Bool.not_eq_false, Bool.not_eq_true', Bool.not_eq_false', Bool.not_not, bne_iff_ne, beq_iff_eq] at h2)
          refine r_skip ?_
          refine r_region ?_
          refine r_p (p_move rfl) rfl ?_
          refine r_p (p_bin rfl rfl (b_add (by first | exact w_i64 (by omega) (by omega) | rfl))) rfl ?_
          refine r_p (p_assign rfl) rfl ?_
          refine r_nil ?_
          refine r_here (k + 1) ⟨by omega, by omega⟩ rfl rfl rfl
      · (try simp only [decide_eq_true_eq, decide_eq_false_iff_not, Bool.and_eq_true, Bool.or_eq_true, Bool.and_eq_false_iff, Bool.or_eq_false_iff, Bool.not_eq_true, Bool.not_eq_false, Bool.not_eq_true', Bool.not_eq_false', Bool.not_not, bne_iff_ne, beq_iff_eq] at h1)
        have hk : k = 28 := by omega
        subst hk
        refine r_exit ?_
        refine r_seq ?_
        refine r_region ?_
        refine r_p (p_move rfl) rfl ?_
        refine r_p (p_assign rfl) rfl ?_
        refine r_nil ?_
        refine r_cret ?_
        refine r_ret () trivial rfl (rs1 (rv_tmp rfl)) rfl [] [] rfl rfl rfl

end Go.Proofs.Ytfdbkclbcajkiaa
